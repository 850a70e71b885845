/- JustSpreads: for any room and any gaps, just.Spread and the document's Spread are the same list. -/
import Derived.Test.YtbnoeeflpegcoaaJust1
import Derived.Test.YtbnoeeflpegcoaaF6
namespace Go.Proofs.Ytbnoeeflpegcoaa.Pure
open Go.RowKit Go.Proofs.YtbnoeeflpegcoaaW.PrintWords Go.Proofs.Ytbnoeeflpegcoaa.F
theorem JustSpreads : stanzalaw18_JustSpreads.Pure := by
  intro a b _ _
  refine Ev.rounds ?_
  unfold stanzalaw18_JustSpreads.f
  refine ev_bind awake18 (ev_pos rfl (ev_bind (spread_ev a b) (ev_bind (rspread_ev a b) (ev_bind (same_ints _ _ (by have := spr_len a b; omega)) (ev_ret (by simp))))))
end Go.Proofs.Ytbnoeeflpegcoaa.Pure
