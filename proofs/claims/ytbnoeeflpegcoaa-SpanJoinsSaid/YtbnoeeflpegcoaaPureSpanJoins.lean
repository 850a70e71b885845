/- SpanJoins: without tabs the columns from one boundary on are those from an earlier one, less what is between. -/
import Derived.Test.YtbnoeeflpegcoaaSpan3
import Derived.Test.YtbnoeeflpegcoaaF21
namespace Go.Proofs.Ytbnoeeflpegcoaa.Pure
open Go.RowKit Go.Proofs.YtbnoeeflpegcoaaW.PrintWords Go.Proofs.Ytbnoeeflpegcoaa.F
theorem col_split {C : List S41} (hC : ∀ i, (cl C i).f3 ≠ 2) (fr m : Nat) (t : Int) (i : Nat) : col C (fr + m) t i = col C fr t (m + i) - col C fr t m := by
  induction i with
  | zero => simp [col]
  | succ i ih =>
    show nxt (cl C (fr + m + i)) (col C (fr + m) t i) t = nxt (cl C (fr + (m + i))) (col C fr t (m + i)) t - _
    rw [Nat.add_assoc, ih]
    unfold nxt
    rw [if_neg (hC _), if_neg (hC _)]
    omega
theorem joins_l1 {C : List S41} (g : Good C) (hC : ∀ i, (cl C i).f3 ≠ 2) (fr m n : Nat) (hm : m ≤ n) (h : fr + n ≤ C.length) : ∀ (d i : Nat), i + d = n - m + 1 →
    Ev (fun k => stanzalaw13_SpanJoins.l1 k (fr : Int) ((fr + m : Nat) : Int) ((List.range (n + 1)).map (col C fr 8)) ((List.range (n - m + 1)).map (col C (fr + m) 8)) ((n - m + 1 : Nat) : Int) (i : Int)) true := by
  have hg := g.len
  intro d
  induction d with
  | zero =>
    intro i hi
    exact Ev.step (fun k => by unfold stanzalaw13_SpanJoins.l1; rfl) (ev_neg (by omega) (Ev.now _))
  | succ d ih =>
    intro i hi
    have b1 := col_bd g fr (t := 8) (by decide) (m + i)
    have b2 := col_bd g fr (t := 8) (by decide) m
    refine Ev.step (fun k => by unfold stanzalaw13_SpanJoins.l1; rfl) (ev_pos (by omega) (ev_pos (by omega) (ev_pos (by simp; omega) ?_)))
    rw [w64 (x := ((fr + m : Nat) : Int) - (fr : Int)) (by omega) (by omega), w64 (x := ((fr + m : Nat) : Int) - (fr : Int) + (i : Int)) (by omega) (by omega), show ((fr + m : Nat) : Int) - (fr : Int) + (i : Int) = ((m + i : Nat) : Int) from by omega,
      show ((fr + m : Nat) : Int) - (fr : Int) = (m : Int) from by omega, show wrap64 ((i : Int) + 1) = ((i + 1 : Nat) : Int) from by rw [w64 (by omega) (by omega)]; rfl]
    refine ev_pos (by omega) (ev_pos (by simp; omega) (ev_pos (by omega) (ev_pos (by simp; omega) (ev_pos ?_ (ih (i + 1) (by omega))))))
    rw [rd_map_range _ (by omega), rd_map_range _ (by omega), rd_map_range _ (by omega), w64 (by omega) (by omega), col_split hC]
theorem joins_l0 {l : List S50} (hl : l.length ≤ 500) (hs : ∀ b ∈ l, Small b) (a b c : Int) : ∀ (d i : Nat), i + d = l.length → (∀ j, j < i → (bit l j).f1 % 3 ≠ 2) →
    Ev (fun k => stanzalaw13_SpanJoins.l0 k l a b c (l.length : Int) (i : Int)) true := by
  intro d
  induction d with
  | zero =>
    intro i hi hn
    have g : Good (CL l) := good_CL (by omega)
    have hg := g.len
    have hC : ∀ j, (cl (CL l) j).f3 ≠ 2 := by
      intro j
      by_cases hj : j < l.length
      · rw [cl_CL hj]; exact hn j (by omega)
      · rw [cl_out (by rw [CL_len]; omega)]; decide
    obtain ⟨fr, n, hfn, hcut⟩ := cut_eq g (OP l) a b
    refine Ev.step (fun k => by unfold stanzalaw13_SpanJoins.l0; rfl) (ev_neg (by omega) (ev_bind (para_ev (by omega) hs) (ev_bind' hcut ?_)))
    rw [w64 (x := ((fr + n : Nat) : Int) - (fr : Int)) (by omega) (by omega), w64 (x := ((fr + n : Nat) : Int) - (fr : Int) + 1) (by omega) (by omega), show ((fr + n : Nat) : Int) - (fr : Int) + 1 = ((n + 1 : Nat) : Int) from by omega, u64mod (by omega) (by omega)]
    have hw : IntKind.u64.wrap ((n + 1 : Nat) : Int) = ((n + 1 : Nat) : Int) := by simp [IntKind.wrap, IntKind.signed, IntKind.bits]; omega
    refine ev_neg (by rw [hw]; omega) ?_
    have h1 := Int.emod_nonneg (c % 18446744073709551616) (by omega : ((n + 1 : Nat) : Int) ≠ 0)
    have h2 := Int.emod_lt_of_pos (c % 18446744073709551616) (by omega : 0 < ((n + 1 : Nat) : Int))
    generalize (c % 18446744073709551616) % ((n + 1 : Nat) : Int) = z at *
    obtain ⟨m, rfl⟩ : ∃ m : Nat, z = (m : Int) := ⟨z.toNat, by omega⟩
    rw [w64 (x := (fr : Int) + (m : Int)) (by omega) (by omega), show (fr : Int) + (m : Int) = ((fr + m : Nat) : Int) from by omega, w64 (x := ((fr + n : Nat) : Int) - ((fr + m : Nat) : Int)) (by omega) (by omega), w64 (x := ((fr + n : Nat) : Int) - ((fr + m : Nat) : Int) + 1) (by omega) (by omega)]
    have c2 := columns_ev g (OP l) (fr + m) (n - m) (t := 8) (by decide) (by omega)
    rw [show fr + m + (n - m) = fr + n from by omega] at c2
    refine ev_bind (columns_ev g (OP l) fr n (t := 8) (by decide) hfn) (ev_bind c2 (ev_pos (by simp) ?_))
    rw [show ((((List.range (n - m + 1)).map (col (CL l) (fr + m) 8)).length : Int) != ((fr + n : Nat) : Int) - ((fr + m : Nat) : Int) + 1) = false from by simp; omega]
    refine Ev.step (fun k => by unfold stanzalaw13_SpanJoins.j1; rfl) (ev_neg (by decide) ?_)
    rw [show (((List.range (n - m + 1)).map (col (CL l) (fr + m) 8)).length : Int) = ((n - m + 1 : Nat) : Int) from by simp]
    exact joins_l1 g hC fr m n (by omega) hfn (n - m + 1) 0 (by omega)
  | succ d ih =>
    intro i hi hn
    refine Ev.step (fun k => by unfold stanzalaw13_SpanJoins.l0; rfl) (ev_pos (by omega) (ev_pos (by omega) (ev_pos (by omega) ?_)))
    have hb := hs _ (bit_mem (show i < l.length from by omega))
    rw [rd_bit, tmodp hb.2.1.1, show wrap64 ((i : Int) + 1) = ((i + 1 : Nat) : Int) from by rw [w64 (by omega) (by omega)]; rfl]
    by_cases hk : (bit l i).f1 % 3 = 2
    · exact ev_pos hk (Ev.now _)
    · refine ev_neg hk (ih (i + 1) (by omega) (fun j hj => ?_))
      rcases Nat.lt_succ_iff_lt_or_eq.1 hj with h | h
      · exact hn j h
      · exact h ▸ hk
theorem SpanJoins : stanzalaw13_SpanJoins.Pure := by
  intro l a b c hl _ _ _
  refine Ev.rounds ?_
  unfold stanzalaw13_SpanJoins.f
  refine ev_bind awake13 (ev_pos rfl ?_)
  by_cases hlen : (l.length : Int) > 500
  · exact ev_pos hlen (Ev.now _)
  exact ev_neg hlen (joins_l0 (by omega) (fun b hb => small_of (hl.2 b hb)) a b c l.length 0 (by omega) (fun j hj => by omega))
end Go.Proofs.Ytbnoeeflpegcoaa.Pure
