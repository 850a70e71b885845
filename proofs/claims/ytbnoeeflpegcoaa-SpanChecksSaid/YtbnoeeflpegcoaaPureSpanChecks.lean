/- SpanChecks: span.Check tells of any way what the document's Check tells. -/
import Derived.Test.YtbnoeeflpegcoaaSpan3
import Derived.Test.YtbnoeeflpegcoaaF25
namespace Go.Proofs.Ytbnoeeflpegcoaa.Pure
open Go.RowKit Go.Proofs.YtbnoeeflpegcoaaW.PrintWords Go.Proofs.Ytbnoeeflpegcoaa.F
theorem SpanChecks : stanzalaw13_SpanChecks.Pure := by
  intro a b c d e l h
  have hc := wfu8.1 h.2.2.1
  refine Ev.rounds ?_
  unfold stanzalaw13_SpanChecks.f
  refine ev_bind awake13 (ev_pos rfl ?_)
  have key : ∃ x, span_Check.f a b c d e l = some x ∧ stanzaref13_Check.f a b c d e l = some x := by
    unfold span_Check.f stanzaref13_Check.f
    by_cases h2 : c ≤ 1
    · have h3 : c = 0 ∨ c = 1 := by omega
      rcases h3 with h3 | h3 <;> subst h3 <;> (repeat' split) <;> first | exact ⟨_, rfl, rfl⟩ | omega
    · (repeat' split) <;> first | exact ⟨_, rfl, rfl⟩ | omega
  obtain ⟨x, h1, h2⟩ := key
  exact ev_bind' h1 (ev_bind' h2 (ev_ret (by simp)))
end Go.Proofs.Ytbnoeeflpegcoaa.Pure
