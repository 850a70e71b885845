/- SpanColumns: columns between any boundaries, and one cluster's: as the document tells them. -/
import Derived.Test.YtbnoeeflpegcoaaSpan2
import Derived.Test.YtbnoeeflpegcoaaSpan3
import Derived.Test.YtbnoeeflpegcoaaJust1
import Derived.Test.YtbnoeeflpegcoaaF19
namespace Go.Proofs.Ytbnoeeflpegcoaa.Pure
open Go.RowKit Go.Proofs.YtbnoeeflpegcoaaW.PrintWords Go.Proofs.Ytbnoeeflpegcoaa.F
theorem cut_cl {C : List S41} {fr m i : Nat} (h : fr + i < m) : cl ((C.take m).drop fr) i = cl C (fr + i) := by
  unfold cl
  rw [List.getD_eq_getElem?_getD, List.getD_eq_getElem?_getD, List.getElem?_drop, List.getElem?_take_of_lt h]
theorem columns_law {C : List S41} (g : Good C) (O : List Int) {x : Int} (hx : 0 ≤ x ∧ x ≤ 1000000) (fr n m : Nat) (h : fr + n ≤ C.length) (hm : fr ≤ m ∧ m ≤ C.length) {t : Int} (ht : 1 ≤ t ∧ t ≤ 64) : ∀ (d i : Nat), fr + i + d = m →
    Ev (fun k => stanzalaw13_SpanColumns.l0 k x (fr : Int) ((fr + n : Nat) : Int) t ((C.take m).drop fr) ((m - fr : Nat) : Int) (i : Int) C O) true := by
  have hg := g.len
  intro d
  induction d with
  | zero =>
    intro i hi
    refine Ev.step (fun k => by unfold stanzalaw13_SpanColumns.l0; rfl) (ev_neg (by omega) ?_)
    refine ev_bind (columns_ev g O fr n ht h) ?_
    refine ev_bind (rcolumns_ev g O fr n ht h) ?_
    refine ev_bind (same_ints _ _ ?_) (ev_ret (by simp))
    rw [List.length_map, List.length_range]
    omega
  | succ d ih =>
    intro i hi
    have e : rd_T41 ((C.take m).drop fr) (i : Int) = cl C (fr + i) := by rw [rd_cl]; exact cut_cl (by omega)
    refine Ev.step (fun k => by unfold stanzalaw13_SpanColumns.l0; rfl) (ev_pos (by omega) (ev_pos (by omega) (ev_pos (by simp; omega) ?_)))
    rw [e, w64 (x := x) (by omega) (by omega), show wrap64 ((i : Int) + 1) = ((i + 1 : Nat) : Int) from by rw [w64 (by omega) (by omega)]; rfl]
    exact ev_bind' (next_eq (g.cells _) hx ht) (ev_bind (rnext_ev (g.cells _) hx ht) (ev_pos rfl (ih (i + 1) (by omega))))
theorem SpanColumns : stanzalaw13_SpanColumns.Pure := by
  intro l a b c x hl _ _ hc hx
  have hc := wfu8.1 hc
  have hx := wfu16.1 hx
  refine Ev.rounds ?_
  unfold stanzalaw13_SpanColumns.f
  refine ev_bind awake13 (ev_pos rfl ?_)
  by_cases hlen : (l.length : Int) > 1000
  · exact ev_pos hlen (Ev.now _)
  refine ev_neg hlen (ev_bind (para_ev (by omega) (fun b hb => small_of (hl.2 b hb))) ?_)
  dsimp only
  have g : Good (CL l) := good_CL (by omega)
  have hg := g.len
  obtain ⟨fr, n, hfn, hcut⟩ := cut_eq g (OP l) a b
  have ht : 1 ≤ 1 + c % 64 ∧ 1 + c % 64 ≤ 64 := by omega
  refine ev_bind' hcut ?_
  dsimp only
  obtain ⟨m, hm, hm1⟩ : ∃ m : Nat, mn ((fr + n : Nat) : Int) (wrap64 ((fr : Int) + 20)) = (m : Int) ∧ fr ≤ m ∧ m ≤ fr + n := by
    rw [w64 (by omega) (by omega)]
    unfold mn
    split
    · exact ⟨fr + 20, by omega, by omega, by omega⟩
    · exact ⟨fr + n, rfl, by omega, by omega⟩
  rw [hm, tmodp hc.1, w64 (x := c % 64) (by omega) (by omega), w64 (x := 1 + c % 64) (by omega) (by omega)]
  refine ev_pos (by omega) (ev_pos (by omega) (ev_pos (by omega) (ev_let ?_)))
  rw [Int.toNat_natCast, Int.toNat_natCast, show ((((CL l).take m).drop fr).length : Int) = ((m - fr : Nat) : Int) from by simp; omega]
  exact columns_law g (OP l) (by omega) fr n m hfn (by omega) ht (m - fr) 0 (by omega)
end Go.Proofs.Ytbnoeeflpegcoaa.Pure
