/- SpanCells: how wide a line is, its gaps, what is empty at its end, of any boundaries and ends: as the document tells it. -/
import Derived.Test.YtbnoeeflpegcoaaSpan2
import Derived.Test.YtbnoeeflpegcoaaSpan3
import Derived.Test.YtbnoeeflpegcoaaF30
import Derived.Test.YtbnoeeflpegcoaaF26
import Derived.Test.YtbnoeeflpegcoaaF31
namespace Go.Proofs.Ytbnoeeflpegcoaa.Pure
open Go.RowKit Go.Proofs.YtbnoeeflpegcoaaW.PrintWords Go.Proofs.Ytbnoeeflpegcoaa.F
theorem SpanCells : stanzalaw13_SpanCells.Pure := by
  intro l a b c e hl ha hb hc _
  have hc := wfu8.1 hc
  refine Ev.rounds ?_
  unfold stanzalaw13_SpanCells.f
  refine ev_bind awake13 (ev_pos rfl ?_)
  by_cases hlen : (l.length : Int) > 1000
  · exact ev_pos hlen (Ev.now _)
  refine ev_neg hlen (ev_bind (para_ev (by omega) (fun b hb => small_of (hl.2 b hb))) ?_)
  dsimp only
  have g : Good (CL l) := good_CL (by omega)
  obtain ⟨fr, n, hfn, hcut⟩ := cut_eq g (OP l) a b
  have ht : 1 ≤ 1 + c % 64 ∧ 1 + c % 64 ≤ 64 := by omega
  have hO : (OP l).length = (CL l).length + 1 := by rw [OP_len, CL_len]
  refine ev_bind' hcut ?_
  dsimp only
  rw [tmodp hc.1, w64 (x := c % 64) (by omega) (by omega), w64 (x := 1 + c % 64) (by omega) (by omega)]
  have he : span_Ends.f (CL l) (OP l) ((fr + n : Nat) : Int) = some (rd (OP l) ((fr + n : Nat) : Int), rd (OP l) ((fr + n : Nat) : Int) != 0) := by
    unfold span_Ends.f
    rw [if_pos (by omega), if_pos (by omega)]
  refine ev_bind' he ?_
  refine ev_bind (trim_ev g _ fr n hfn) ?_
  refine ev_bind (rtrim_ev g _ fr n hfn) ?_
  refine ev_pos rfl ?_
  refine ev_bind (cells_ev g _ fr n e ht hfn) ?_
  refine ev_bind (rcells_ev g _ fr n e ht hfn) ?_
  refine ev_pos rfl ?_
  refine ev_bind (gaps_ev g _ fr n hfn) ?_
  refine ev_bind (rgaps_ev g _ fr n hfn) ?_
  refine ev_pos rfl ?_
  have hmk : Ev (fun k => span_Make.f k (CL l) (OP l) (fr : Int) ((fr + n : Nat) : Int) e (1 + c % 64)) ((fr : Int), ((fr + n : Nat) : Int), cel (CL l) fr n e (1 + c % 64), e) := by
    unfold span_Make.f
    exact ev_bind (cells_ev g _ fr n e ht hfn) (Ev.now _)
  refine ev_bind hmk ?_
  refine ev_bind (rline_ev g _ fr n e ht hfn) ?_
  refine ev_pos (by simp) ?_
  refine ev_pos (by omega) ?_
  refine ev_pos (by omega) ?_
  refine ev_pos rfl (ev_ret (by simp))
end Go.Proofs.Ytbnoeeflpegcoaa.Pure
