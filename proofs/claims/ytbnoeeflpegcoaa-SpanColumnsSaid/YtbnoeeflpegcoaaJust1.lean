/- What Spread, SameInts and layer 18's Awake come to, as plain lists. -/
import Derived.Test.YtbnoeeflpegcoaaA0
import Derived.Test.YtbnoeeflpegcoaaF3
import Derived.Test.YtbnoeeflpegcoaaF5
import Derived.Test.YtbnoeeflpegcoaaF2
import Derived.Test.YtbnoeeflpegcoaaF4
namespace Go.Proofs.Ytbnoeeflpegcoaa.Pure
open Go.RowKit Go.Proofs.YtbnoeeflpegcoaaW.PrintWords Go.Proofs.Ytbnoeeflpegcoaa.F

theorem same_loop (a b : List Int) (hl : a.length = b.length) (hm : (a.length : Int) ≤ 9223372036854775806) : ∀ (d i : Nat), i + d = a.length → (∀ j, j < i → a.getD j 0 = b.getD j 0) →
    Ev (fun k => stanzaref01_SameInts.l0 k a b (i : Int)) (decide (a = b)) := by
  intro d
  induction d with
  | zero =>
    intro i hi hs
    refine Ev.step (fun k => by unfold stanzaref01_SameInts.l0; rfl) (ev_neg (by omega) (ev_ret ?_))
    have hab : a = b := by
      refine List.ext_getElem hl (fun j h1 h2 => ?_)
      have := hs j (by omega)
      rwa [List.getD_eq_getElem?_getD, List.getD_eq_getElem?_getD, List.getElem?_eq_getElem h1, List.getElem?_eq_getElem h2] at this
    simp [hab]
  | succ d ih =>
    intro i hi hs
    refine Ev.step (fun k => by unfold stanzaref01_SameInts.l0; rfl) (ev_pos (by omega) (ev_pos (by omega) (ev_pos (by omega) ?_)))
    rw [rd_nat, rd_nat]
    by_cases he : a.getD i 0 = b.getD i 0
    · refine ev_pos he ?_
      rw [show wrap64 ((i : Int) + 1) = ((i + 1 : Nat) : Int) from by rw [w64 (by omega) (by omega)]; rfl]
      refine ih (i + 1) (by omega) (fun j hj => ?_)
      rcases Nat.lt_succ_iff_lt_or_eq.1 hj with h | h
      · exact hs j h
      · exact h ▸ he
    · refine ev_neg he (ev_ret ?_)
      have : a ≠ b := fun h => he (by rw [h])
      simp [this]
theorem same_ints (a b : List Int) (hm : (a.length : Int) ≤ 9223372036854775806) : Ev (fun k => stanzaref01_SameInts.f k a b) (decide (a = b)) := by
  unfold stanzaref01_SameInts.f
  by_cases hl : a.length = b.length
  · exact ev_pos (by omega) (same_loop a b hl hm a.length 0 (by omega) (fun j hj => by omega))
  · refine ev_neg (by omega) (ev_ret ?_)
    have : a ≠ b := fun h => hl (by rw [h])
    simp [this]

/-- one gap's share -/
def shr1 (room g : Int) (i : Nat) : Int := room * (i + 1) / g - room * i / g
def spr (room g : Int) : List Int := if 0 ≤ room ∧ room ≤ 1048576 ∧ 1 ≤ g ∧ g ≤ 4096 then (List.range g.toNat).map (shr1 room g) else []
theorem share_bd {room g : Int} {i : Nat} (h : 0 ≤ room ∧ room ≤ 1048576 ∧ 1 ≤ g ∧ g ≤ 4096) (hi : (i : Int) ≤ 4096) : 0 ≤ room * i ∧ room * i ≤ 4294967296 ∧ 0 ≤ room * i / g ∧ room * i / g ≤ 4294967296 := by
  have h1 : 0 ≤ room * i := Int.mul_nonneg h.1 (by omega)
  have h2 : room * i ≤ 1048576 * 4096 := Int.mul_le_mul h.2.1 hi (by omega) (by omega)
  have h3 : 0 ≤ room * i / g := Int.ediv_nonneg h1 (by omega)
  have h4 : room * i / g ≤ room * i := Int.ediv_le_self _ h1
  omega
theorem share_val {room g : Int} {i : Nat} (h : 0 ≤ room ∧ room ≤ 1048576 ∧ 1 ≤ g ∧ g ≤ 4096) (hi : (i : Int) < g) :
    wrap64 ((wrap64 (Int.tdiv (wrap64 (room * (wrap64 ((i : Int) + 1)))) g)) - (wrap64 (Int.tdiv (wrap64 (room * (i : Int))) g))) = shr1 room g i := by
  have b1 := share_bd (i := i) h (by omega)
  have b2 := share_bd (i := i + 1) h (by omega)
  rw [Int.natCast_add, Int.natCast_one] at b2
  rw [w64 (x := (i : Int) + 1) (by omega) (by omega), w64 (x := room * ((i : Int) + 1)) (by omega) (by omega), w64 (x := room * (i : Int)) (by omega) (by omega), tdivp b1.1, tdivp b2.1, w64 (x := room * ((i : Int) + 1) / g) (by omega) (by omega), w64 (x := room * (i : Int) / g) (by omega) (by omega), w64 (x := room * ((i : Int) + 1) / g - room * (i : Int) / g) (by omega) (by omega)]
  rfl
theorem spread_loop {room g : Int} (h : 0 ≤ room ∧ room ≤ 1048576 ∧ 1 ≤ g ∧ g ≤ 4096) : ∀ (d i : Nat), ((i + d : Nat) : Int) = g →
    Ev (fun k => just_Spread.l0 k room g ((List.range i).map (shr1 room g) ++ List.replicate d 0) g (i : Int)) ((List.range (i + d)).map (shr1 room g)) := by
  intro d
  induction d with
  | zero =>
    intro i hi
    refine Ev.step (fun k => by unfold just_Spread.l0; rfl) (ev_neg (by omega) (ev_ret ?_))
    simp
  | succ d ih =>
    intro i hi
    refine Ev.step (fun k => by unfold just_Spread.l0; rfl) (ev_pos (by omega) (ev_neg (by omega) (ev_pos (by omega) (ev_pos ?_ ?_))))
    · simp; omega
    · rw [share_val h (by omega), show wrap64 ((i : Int) + 1) = ((i + 1 : Nat) : Int) from by rw [w64 (by omega) (by omega)]; rfl]
      have e : ((List.range i).map (shr1 room g) ++ List.replicate (d + 1) 0).set (i : Int).toNat (shr1 room g i) = (List.range (i + 1)).map (shr1 room g) ++ List.replicate d 0 := by
        rw [Int.toNat_natCast, List.set_append_right _ _ (by simp), ← map_range_snoc]
        simp [List.replicate_succ]
      rw [e]
      have := ih (i + 1) (by omega)
      rwa [show i + 1 + d = i + (d + 1) from by omega] at this
theorem spread_none (room g : Int) : Ev (fun k => just_Spread.j0 k room g true) ([] : List Int) :=
  Ev.step (fun k => by unfold just_Spread.j0; rfl) (ev_pos rfl (Ev.now _))
theorem spread_ev (room g : Int) : Ev (fun k => just_Spread.f k room g) (spr room g) := by
  unfold just_Spread.f spr
  by_cases h : 0 ≤ room ∧ room ≤ 1048576 ∧ 1 ≤ g ∧ g ≤ 4096
  · rw [if_pos h]
    refine ev_neg (by omega) (ev_neg (by omega) (ev_neg (by omega) ?_))
    rw [show decide (g > 4096) = false from decide_eq_false (by omega)]
    refine Ev.step (fun k => by unfold just_Spread.j0; rfl) (ev_neg (by decide) (ev_pos (by omega) (ev_pos (by omega) (ev_let ?_))))
    have := spread_loop h g.toNat 0 (by omega)
    simp only [List.range_zero, List.map_nil, List.nil_append, Nat.zero_add] at this
    rwa [show ((List.replicate g.toNat (0 : Int)).length : Int) = g from by simp; omega]
  · rw [if_neg h]
    by_cases h1 : room < 0
    · exact ev_pos h1 (spread_none room g)
    · refine ev_neg h1 ?_
      by_cases h2 : room > 1048576
      · exact ev_pos h2 (spread_none room g)
      · refine ev_neg h2 ?_
        by_cases h3 : g < 1
        · exact ev_pos h3 (spread_none room g)
        · refine ev_neg h3 ?_
          rw [show decide (g > 4096) = true from decide_eq_true (by omega)]
          exact spread_none room g

theorem rspread_loop {room g : Int} (h : 0 ≤ room ∧ room ≤ 1048576 ∧ 1 ≤ g ∧ g ≤ 4096) : ∀ (d i : Nat), ((i + d : Nat) : Int) = g →
    Ev (fun k => stanzaref13_Spread.l0 k room g ((List.range i).map (shr1 room g)) (room * i / g) ((i : Int) + 1)) ((List.range (i + d)).map (shr1 room g)) := by
  intro d
  induction d with
  | zero =>
    intro i hi
    exact Ev.step (fun k => by unfold stanzaref13_Spread.l0; rfl) (ev_neg (by omega) (Ev.now _))
  | succ d ih =>
    intro i hi
    have b1 := share_bd (i := i) h (by omega)
    have b2 := share_bd (i := i + 1) h (by omega)
    rw [Int.natCast_add, Int.natCast_one] at b2
    refine Ev.step (fun k => by unfold stanzaref13_Spread.l0; rfl) (ev_pos (by omega) (ev_neg (by omega) (ev_pos (by simp; omega) ?_)))
    rw [w64 (x := room * ((i : Int) + 1)) (by omega) (by omega), tdivp b2.1, w64 (x := room * ((i : Int) + 1) / g) (by omega) (by omega), w64 (x := room * ((i : Int) + 1) / g - room * i / g) (by omega) (by omega), w64 (x := (i : Int) + 1 + 1) (by omega) (by omega),
      show room * ((i : Int) + 1) / g - room * i / g = shr1 room g i from rfl, map_range_snoc]
    have := ih (i + 1) (by omega)
    rwa [show i + 1 + d = i + (d + 1) from by omega] at this
theorem rspread_none (room g : Int) : Ev (fun k => stanzaref13_Spread.j0 k room g true) ([] : List Int) :=
  Ev.step (fun k => by unfold stanzaref13_Spread.j0; rfl) (ev_pos rfl (Ev.now _))
theorem rspread_ev (room g : Int) : Ev (fun k => stanzaref13_Spread.f k room g) (spr room g) := by
  unfold stanzaref13_Spread.f spr
  by_cases h : 0 ≤ room ∧ room ≤ 1048576 ∧ 1 ≤ g ∧ g ≤ 4096
  · rw [if_pos h]
    refine ev_neg (by omega) (ev_neg (by omega) (ev_neg (by omega) ?_))
    rw [show decide (g > 4096) = false from decide_eq_false (by omega)]
    refine Ev.step (fun k => by unfold stanzaref13_Spread.j0; rfl) (ev_neg (by decide) ?_)
    have := rspread_loop h g.toNat 0 (by omega)
    simpa using this
  · rw [if_neg h]
    by_cases h1 : room < 0
    · exact ev_pos h1 (rspread_none room g)
    · refine ev_neg h1 ?_
      by_cases h2 : room > 1048576
      · exact ev_pos h2 (rspread_none room g)
      · refine ev_neg h2 ?_
        by_cases h3 : g < 1
        · exact ev_pos h3 (rspread_none room g)
        · refine ev_neg h3 ?_
          rw [show decide (g > 4096) = true from decide_eq_true (by omega)]
          exact rspread_none room g

theorem spr_len (room g : Int) : ((spr room g).length : Int) ≤ 4096 := by
  unfold spr
  split <;> simp
  omega
theorem awake18 : Ev (fun k => stanzalaw18_Awake.f k) true := by
  unfold stanzalaw18_Awake.f
  refine ev_bind (spread_ev 5 3) (ev_bind (same_ints _ _ (by have := spr_len 5 3; omega)) ?_)
  rw [show decide (spr 5 3 = [1, 2, 2]) = true from by decide]
  refine ev_pos rfl (ev_bind (spread_ev (-1) 3) (ev_pos (by decide) (ev_bind (spread_ev 1 1) (ev_ret (by decide)))))
end Go.Proofs.Ytbnoeeflpegcoaa.Pure
