/- JustEven: what is spread is all room; no two gaps differ by more than 1; of gaps more, none gets more. -/
import Derived.Test.YtbnoeeflpegcoaaJust1
import Derived.Test.YtbnoeeflpegcoaaF7
namespace Go.Proofs.Ytbnoeeflpegcoaa.Pure
open Go.RowKit Go.Proofs.YtbnoeeflpegcoaaW.PrintWords Go.Proofs.Ytbnoeeflpegcoaa.F
/-- a share lies between the quotient and one more -/
theorem share_near {r g : Int} (_ : 0 ≤ r) (hg : 1 ≤ g) (i : Nat) : r / g ≤ shr1 r g i ∧ shr1 r g i ≤ r / g + 1 ∧ (r % g = 0 → shr1 r g i = r / g) := by
  unfold shr1
  have e1 := Int.mul_ediv_add_emod (r * (i + 1)) g
  have e2 := Int.mul_ediv_add_emod (r * i) g
  have e3 := Int.mul_ediv_add_emod r g
  have p1 := Int.emod_nonneg (r * (i + 1)) (by omega : g ≠ 0)
  have p2 := Int.emod_nonneg (r * i) (by omega : g ≠ 0)
  have p3 := Int.emod_nonneg r (by omega : g ≠ 0)
  have q1 := Int.emod_lt_of_pos (r * (i + 1)) (by omega : 0 < g)
  have q2 := Int.emod_lt_of_pos (r * i) (by omega : 0 < g)
  have q3 := Int.emod_lt_of_pos r (by omega : 0 < g)
  have e4 : r * ((i : Int) + 1) = r * i + r := by rw [Int.mul_add, Int.mul_one]
  rw [e4] at e1 p1 q1 ⊢
  generalize (r * i + r) / g = x at *
  generalize (r * (i : Int)) / g = y at *
  generalize r / g = z at *
  generalize (r * i + r) % g = u at *
  generalize (r * (i : Int)) % g = v at *
  generalize r % g = t at *
  generalize r * (i : Int) = s at *
  have key : g * (x - y - z) = v + t - u := by
    rw [Int.mul_sub, Int.mul_sub]; omega
  have lo : -1 < x - y - z := by
    refine Int.lt_of_mul_lt_mul_left (a := g) ?_ (by omega)
    rw [key]; omega
  have hi : x - y - z < 2 := by
    refine Int.lt_of_mul_lt_mul_left (a := g) ?_ (by omega)
    rw [key]; omega
  refine ⟨by omega, by omega, fun h0 => ?_⟩
  have hi' : x - y - z < 1 := by
    refine Int.lt_of_mul_lt_mul_left (a := g) ?_ (by omega)
    rw [key]; omega
  omega
/-- if r is no multiple of g, some share is the greater one -/
theorem sum_range (r g : Int) : ∀ n : Nat, ((List.range n).map (shr1 r g)).sum = r * n / g := by
  intro n
  induction n with
  | zero => simp
  | succ n ih =>
    rw [List.range_succ, List.map_append, List.sum_append, ih]
    simp [shr1]
    omega
/-- the loop over the shares: sum, least, greatest -/
def lows (r g : Int) : Nat → Int → Int
  | 0, a => a
  | n + 1, a => mn (lows r g n a) (shr1 r g n)
def highs (r g : Int) : Nat → Int → Int
  | 0, a => a
  | n + 1, a => mx (highs r g n a) (shr1 r g n)
theorem lows_spec (r g : Int) (a : Int) (n : Nat) : lows r g n a ≤ a ∧ (∀ i, i < n → lows r g n a ≤ shr1 r g i) ∧ (lows r g n a = a ∨ ∃ i, i < n ∧ lows r g n a = shr1 r g i) := by
  induction n with
  | zero => exact ⟨Int.le_refl _, fun i h => by omega, .inl rfl⟩
  | succ n ih =>
    obtain ⟨h1, h2, h3⟩ := ih
    have hm : lows r g (n + 1) a = lows r g n a ∧ lows r g n a ≤ shr1 r g n ∨ lows r g (n + 1) a = shr1 r g n ∧ shr1 r g n ≤ lows r g n a := by
      show mn _ _ = _ ∧ _ ∨ mn _ _ = _ ∧ _
      unfold mn
      split <;> omega
    refine ⟨by omega, fun i hi => ?_, ?_⟩
    · rcases Nat.lt_succ_iff_lt_or_eq.1 hi with h | h
      · have := h2 i h; omega
      · subst h; omega
    · rcases hm with hm | hm
      · rcases h3 with h3 | ⟨i, hi, h3⟩
        · exact .inl (by omega)
        · exact .inr ⟨i, by omega, by omega⟩
      · exact .inr ⟨n, by omega, hm.1⟩
theorem highs_spec (r g : Int) (a : Int) (n : Nat) : a ≤ highs r g n a ∧ (∀ i, i < n → shr1 r g i ≤ highs r g n a) ∧ (highs r g n a = a ∨ ∃ i, i < n ∧ highs r g n a = shr1 r g i) := by
  induction n with
  | zero => exact ⟨Int.le_refl _, fun i h => by omega, .inl rfl⟩
  | succ n ih =>
    obtain ⟨h1, h2, h3⟩ := ih
    have hm : highs r g (n + 1) a = highs r g n a ∧ shr1 r g n ≤ highs r g n a ∨ highs r g (n + 1) a = shr1 r g n ∧ highs r g n a ≤ shr1 r g n := by
      show mx _ _ = _ ∧ _ ∨ mx _ _ = _ ∧ _
      unfold mx
      split <;> omega
    refine ⟨by omega, fun i hi => ?_, ?_⟩
    · rcases Nat.lt_succ_iff_lt_or_eq.1 hi with h | h
      · have := h2 i h; omega
      · subst h; omega
    · rcases hm with hm | hm
      · rcases h3 with h3 | ⟨i, hi, h3⟩
        · exact .inl (by omega)
        · exact .inr ⟨i, by omega, by omega⟩
      · exact .inr ⟨n, by omega, hm.1⟩
theorem even_more {r g2 hi : Int} (hr : 0 ≤ r ∧ r ≤ 1048576) (hg2 : 1 ≤ g2 ∧ g2 ≤ 4096) (hh : ∀ i : Nat, i < g2.toNat → shr1 r g2 i ≤ hi) : ∀ (d i : Nat), ((i + d : Nat) : Int) = g2 →
    Ev (fun k => stanzalaw18_JustEven.l1 k hi (spr r g2) g2 (i : Int)) true := by
  have e : spr r g2 = (List.range g2.toNat).map (shr1 r g2) := if_pos (by omega)
  rw [e]
  intro d
  induction d with
  | zero =>
    intro i hi
    exact Ev.step (fun n => by unfold stanzalaw18_JustEven.l1; rfl) (ev_neg (by omega) (Ev.now _))
  | succ d ih =>
    intro i hi
    refine Ev.step (fun n => by unfold stanzalaw18_JustEven.l1; rfl) (ev_pos (by omega) (ev_pos (by omega) (ev_pos (by simp; omega) (ev_neg ?_ ?_))))
    · rw [rd_map_range _ (by omega)]
      have := hh i (by omega)
      omega
    · rw [show wrap64 ((i : Int) + 1) = ((i + 1 : Nat) : Int) from by rw [w64 (by omega) (by omega)]; rfl]
      exact ih (i + 1) (by omega)
theorem even_loop {r g : Int} (hr : 0 ≤ r ∧ r ≤ 1048576) (hg : 1 ≤ g ∧ g ≤ 4096) {R : Bool}
    (H : Ev (fun k => stanzalaw18_JustEven.l0 k r g (spr r g) r (lows r g g.toNat 1073741824) (highs r g g.toNat 0) (spr r g) g g) R) : ∀ (d i : Nat), ((i + d : Nat) : Int) = g →
    Ev (fun k => stanzalaw18_JustEven.l0 k r g (spr r g) (r * i / g) (lows r g i 1073741824) (highs r g i 0) (spr r g) g (i : Int)) R := by
  have e : spr r g = (List.range g.toNat).map (shr1 r g) := if_pos (by omega)
  intro d
  induction d with
  | zero =>
    intro i hi
    have h1 : (i : Int) = g := by omega
    have h2 : i = g.toNat := by omega
    rw [h1, Int.mul_ediv_cancel _ (by omega), h2]
    exact H
  | succ d ih =>
    intro i hi
    have b1 := share_bd (room := r) (g := g) (i := i) (by omega) (by omega)
    have b2 := share_bd (room := r) (g := g) (i := i + 1) (by omega) (by omega)
    rw [Int.natCast_add, Int.natCast_one] at b2
    have hrd : rd (spr r g) (i : Int) = shr1 r g i := by rw [e, rd_map_range _ (by omega)]
    refine Ev.step (fun n => by unfold stanzalaw18_JustEven.l0; rfl) (ev_pos (by omega) (ev_pos (by omega) (ev_pos (by rw [e]; simp; omega) ?_)))
    rw [hrd, show wrap64 ((i : Int) + 1) = ((i + 1 : Nat) : Int) from by rw [w64 (by omega) (by omega)]; rfl]
    have hs : r * (i : Int) / g + shr1 r g i = r * ((i + 1 : Nat) : Int) / g := by unfold shr1; rw [Int.natCast_add, Int.natCast_one]; omega
    rw [hs, w64 (by rw [Int.natCast_add, Int.natCast_one]; omega) (by rw [Int.natCast_add, Int.natCast_one]; omega)]
    exact ih (i + 1) (by omega)
theorem even_end {r g : Int} (hr : 0 ≤ r ∧ r ≤ 1048576) (hg : 1 ≤ g ∧ g ≤ 4096) :
    Ev (fun k => stanzalaw18_JustEven.l0 k r g (spr r g) r (lows r g g.toNat 1073741824) (highs r g g.toNat 0) (spr r g) g g) true := by
  have e : spr r g = (List.range g.toNat).map (shr1 r g) := if_pos (by omega)
  have hlen : ((spr r g).length : Int) = g := by rw [e]; simp; omega
  obtain ⟨l1, l2, l3⟩ := lows_spec r g 1073741824 g.toNat
  obtain ⟨h1, h2, h3⟩ := highs_spec r g 0 g.toNat
  have n0 := share_near hr.1 hg.1 0
  have l20 := l2 0 (by omega)
  have h20 := h2 0 (by omega)
  have q0 : 0 ≤ r / g := Int.ediv_nonneg hr.1 (by omega)
  have q1 : r / g ≤ r := Int.ediv_le_self _ hr.1
  have hb : ∀ x, (x = 0 ∨ ∃ i, i < g.toNat ∧ x = shr1 r g i) → x ≤ r / g + 1 := by
    rintro x (rfl | ⟨i, _, rfl⟩)
    · omega
    · exact (share_near hr.1 hg.1 i).2.1
  have hH := hb _ h3
  have hL : r / g ≤ lows r g g.toNat 1073741824 := by
    rcases l3 with l3 | ⟨i, _, l3⟩
    · rw [l3]; omega
    · rw [l3]; exact (share_near hr.1 hg.1 i).1
  -- not all shares are greater than the quotient: their sum is r
  have hlow : lows r g g.toNat 1073741824 = r / g := by
    by_cases hall : ∃ i, i < g.toNat ∧ shr1 r g i = r / g
    · obtain ⟨i, hi, hs⟩ := hall
      have := l2 i hi
      omega
    · exfalso
      have hs : ∀ i, i < g.toNat → r / g + 1 ≤ shr1 r g i := by
        intro i hi
        have h := (share_near hr.1 hg.1 i).1
        have : shr1 r g i ≠ r / g := fun h' => hall ⟨i, hi, h'⟩
        omega
      have hsum : ∀ n : Nat, n ≤ g.toNat → (r / g + 1) * n ≤ ((List.range n).map (shr1 r g)).sum := by
        intro n
        induction n with
        | zero => intro _; simp
        | succ n ih =>
          intro hn
          rw [List.range_succ, List.map_append, List.sum_append]
          have := ih (by omega)
          have h' := hs n (by omega)
          simp only [List.map_cons, List.map_nil, List.sum_cons, List.sum_nil]
          rw [Int.natCast_add, Int.natCast_one, Int.mul_add, Int.mul_one]
          omega
      have h4 := hsum g.toNat (Nat.le_refl _)
      rw [sum_range r g, show ((g.toNat : Nat) : Int) = g from by omega, Int.mul_ediv_cancel _ (by omega), Int.add_mul, Int.one_mul] at h4
      have e3 := Int.mul_ediv_add_emod r g
      have p3 := Int.emod_lt_of_pos r (by omega : 0 < g)
      rw [Int.mul_comm] at e3
      omega
  have hhigh : r / g ≤ highs r g g.toNat 0 := by omega
  refine Ev.step (fun n => by unfold stanzalaw18_JustEven.l0; rfl) (ev_neg (by omega) (ev_pos hlen (ev_pos rfl (ev_neg ?_ (ev_neg (by omega) ?_)))))
  · rw [w64 (by omega) (by omega)]
    omega
  · rw [tdivp hr.1, w64 (x := r / g) (by omega) (by omega), hlow, show ((r / g : Int) != r / g) = false from by simp]
    refine Ev.step (fun n => by unfold stanzalaw18_JustEven.j1; rfl) (ev_neg (by decide) (ev_bind (spread_ev _ _) ?_))
    rw [w64 (x := g + 1) (by omega) (by omega)]
    have hg2 : 1 ≤ mn (g + 1) 4096 ∧ mn (g + 1) 4096 ≤ 4096 ∧ (mn (g + 1) 4096 = g + 1 ∨ mn (g + 1) 4096 = g) := by
      unfold mn
      split <;> omega
    generalize mn (g + 1) 4096 = g2 at hg2 ⊢
    have e2 : spr r g2 = (List.range g2.toNat).map (shr1 r g2) := if_pos (by omega)
    rw [show ((spr r g2).length : Int) = g2 from by rw [e2]; simp; omega]
    refine even_more hr ⟨hg2.1, hg2.2.1⟩ (fun i hig => ?_) g2.toNat 0 (by omega)
    -- a share of more gaps is no greater than the greatest of fewer
    rcases hg2.2.2 with h | h
    · subst h
      by_cases hm : r % g = 0
      · -- then r / g shares alike; of more gaps each gets at most r / g
        have e3 := Int.mul_ediv_add_emod r g
        have e4 := Int.mul_ediv_add_emod r (g + 1)
        have p4 := Int.emod_nonneg r (by omega : g + 1 ≠ 0)
        have n2 := share_near hr.1 (by omega : 1 ≤ g + 1) i
        by_cases hz : r / g = 0
        · have hr0 : r = 0 := by rw [hz] at e3; omega
          have hz2 : shr1 r (g + 1) i = 0 := by unfold shr1; rw [hr0]; simp
          omega
        · have : r / (g + 1) < r / g := by
            refine Int.ediv_lt_of_lt_mul (by omega) ?_
            rw [Int.mul_add, Int.mul_one, Int.mul_comm]
            omega
          omega
      · have n2 := share_near hr.1 (by omega : 1 ≤ g + 1) i
        have hle : r / (g + 1) ≤ r / g := by
          refine Int.le_ediv_of_mul_le (by omega) ?_
          have e4 := Int.mul_ediv_add_emod r (g + 1)
          have p4 := Int.emod_nonneg r (by omega : g + 1 ≠ 0)
          have q4 : 0 ≤ r / (g + 1) := Int.ediv_nonneg hr.1 (by omega)
          rw [Int.add_mul, Int.one_mul, Int.mul_comm] at e4
          omega
        -- some share is r / g + 1
        have hmax : highs r g g.toNat 0 = r / g + 1 := by
          by_cases hex : ∃ j, j < g.toNat ∧ shr1 r g j = r / g + 1
          · obtain ⟨j, hj, hs⟩ := hex
            have := h2 j hj
            omega
          · exfalso
            have hs : ∀ i, i < g.toNat → shr1 r g i = r / g := by
              intro i hi
              have h := share_near hr.1 hg.1 i
              have : shr1 r g i ≠ r / g + 1 := fun h' => hex ⟨i, hi, h'⟩
              omega
            have hsum : ∀ n : Nat, n ≤ g.toNat → ((List.range n).map (shr1 r g)).sum = (r / g) * n := by
              intro n
              induction n with
              | zero => intro _; simp
              | succ n ih =>
                intro hn
                rw [List.range_succ, List.map_append, List.sum_append, ih (by omega)]
                simp only [List.map_cons, List.map_nil, List.sum_cons, List.sum_nil]
                rw [hs n (by omega), Int.natCast_add, Int.natCast_one, Int.mul_add, Int.mul_one]
                omega
            have h4 := hsum g.toNat (Nat.le_refl _)
            rw [sum_range r g, show ((g.toNat : Nat) : Int) = g from by omega, Int.mul_ediv_cancel _ (by omega)] at h4
            have e3 := Int.mul_ediv_add_emod r g
            rw [Int.mul_comm] at e3
            omega
        omega
    · rw [h] at hig ⊢
      exact h2 i hig
theorem JustEven : stanzalaw18_JustEven.Pure := by
  intro a b ha hb
  rw [wfu32] at ha
  rw [wfu16] at hb
  refine Ev.rounds ?_
  unfold stanzalaw18_JustEven.f
  refine ev_bind awake18 (ev_pos rfl ?_)
  rw [tmodp ha.1, tmodp hb.1, w64 (x := a % 1048577) (by omega) (by omega), w64 (x := b % 4096) (by omega) (by omega), w64 (x := 1 + b % 4096) (by omega) (by omega)]
  have hr : 0 ≤ a % 1048577 ∧ a % 1048577 ≤ 1048576 := by omega
  have hg : 1 ≤ 1 + b % 4096 ∧ 1 + b % 4096 ≤ 4096 := by omega
  generalize a % 1048577 = r at hr ⊢
  generalize 1 + b % 4096 = g at hg ⊢
  refine ev_bind (spread_ev _ _) ?_
  have e : spr r g = (List.range g.toNat).map (shr1 r g) := if_pos (by omega)
  rw [show ((spr r g).length : Int) = g from by rw [e]; simp; omega]
  have := even_loop hr hg (even_end hr hg) g.toNat 0 (by omega)
  simpa [lows, highs] using this
end Go.Proofs.Ytbnoeeflpegcoaa.Pure
