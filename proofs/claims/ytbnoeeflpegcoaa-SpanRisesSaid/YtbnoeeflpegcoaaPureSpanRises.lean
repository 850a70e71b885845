/- SpanRises: the further a line goes the wider it is, or as wide; what is empty at its end changes nothing. -/
import Derived.Test.YtbnoeeflpegcoaaSpan3
import Derived.Test.YtbnoeeflpegcoaaF20
namespace Go.Proofs.Ytbnoeeflpegcoaa.Pure
open Go.RowKit Go.Proofs.YtbnoeeflpegcoaaW.PrintWords Go.Proofs.Ytbnoeeflpegcoaa.F
theorem rises_l0 {C : List S41} (g : Good C) (O : List Int) (fr : Nat) {t : Int} (ht : 1 ≤ t ∧ t ≤ 64) : ∀ (d n : Nat) (last : Int), fr + n + d = C.length + 1 → last ≤ cel C fr n 2 t →
    Ev (fun k => stanzalaw13_SpanRises.l0 k (fr : Int) t last ((fr + n : Nat) : Int) C O) true := by
  have hg := g.len
  intro d
  induction d with
  | zero =>
    intro n last hn _
    exact Ev.step (fun k => by unfold stanzalaw13_SpanRises.l0; rfl) (ev_neg (by omega) (Ev.now _))
  | succ d ih =>
    intro n last hn hl
    have hfn : fr + n ≤ C.length := by omega
    have hle := trm_le C fr n
    have c1 := cells_ev g O fr n 2 ht hfn
    have c2 := cells_ev g O fr (trm C fr n) 2 ht (by omega)
    have e1 : cel C fr (trm C fr n) 2 t = cel C fr n 2 t := by unfold cel; rw [trm_trm]
    have e2 : gap C fr (trm C fr n) = gap C fr n := by unfold gap; rw [trm_trm]
    refine Ev.step (fun k => by unfold stanzalaw13_SpanRises.l0; rfl) (ev_pos (by omega) ?_)
    refine ev_bind c1 ?_
    refine ev_bind (trim_ev g O fr n hfn) ?_
    refine ev_neg (by omega) ?_
    refine ev_bind c2 ?_
    refine ev_pos e1 ?_
    refine ev_neg (by omega) ?_
    refine ev_bind (gaps_ev g O fr (trm C fr n) (by omega)) ?_
    refine ev_bind (gaps_ev g O fr n hfn) ?_
    refine ev_pos (by rw [e2]) ?_
    rw [show wrap64 (((fr + n : Nat) : Int) + 1) = ((fr + (n + 1) : Nat) : Int) from by rw [w64 (by omega) (by omega)]; omega]
    refine ih (n + 1) _ (by omega) ?_
    have := col_mono g fr ht (trm_mono C fr (Nat.le_add_right n 1))
    unfold cel
    rw [if_neg (by decide)]
    omega
theorem SpanRises : stanzalaw13_SpanRises.Pure := by
  intro l a c hl _ hc
  have hc := wfu8.1 hc
  refine Ev.rounds ?_
  unfold stanzalaw13_SpanRises.f
  refine ev_bind awake13 (ev_pos rfl ?_)
  by_cases hlen : (l.length : Int) > 300
  · exact ev_pos hlen (Ev.now _)
  refine ev_neg hlen (ev_bind (para_ev (by omega) (fun b hb => small_of (hl.2 b hb))) ?_)
  dsimp only
  have g : Good (CL l) := good_CL (by omega)
  obtain ⟨fr, n, hfn, hcut⟩ := cut_eq g (OP l) a a
  have ht : 1 ≤ 1 + c % 64 ∧ 1 + c % 64 ≤ 64 := by omega
  refine ev_bind' hcut ?_
  rw [tmodp hc.1, w64 (x := c % 64) (by omega) (by omega), w64 (x := 1 + c % 64) (by omega) (by omega)]
  exact rises_l0 g (OP l) fr ht ((CL l).length + 1 - fr) 0 0 (by omega) (cel_bd g fr 0 2 ht).1
end Go.Proofs.Ytbnoeeflpegcoaa.Pure
