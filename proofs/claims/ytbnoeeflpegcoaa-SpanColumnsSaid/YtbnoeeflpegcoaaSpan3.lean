/- Layer 13's laws: what they have in common: their Awake, and two boundaries. -/
import Derived.Test.YtbnoeeflpegcoaaSpan1
import Derived.Test.YtbnoeeflpegcoaaF16
import Derived.Test.YtbnoeeflpegcoaaF17
namespace Go.Proofs.Ytbnoeeflpegcoaa.Pure
open Go.RowKit Go.Proofs.YtbnoeeflpegcoaaW.PrintWords Go.Proofs.Ytbnoeeflpegcoaa.F
def ex13 : List S50 := [⟨1, 0, 0, 0⟩, ⟨0, 2, 0, 0⟩, ⟨1, 0, 0, 0⟩, ⟨1, 1, 0, 0⟩]
theorem awake13 : Ev (fun k => stanzalaw13_Awake.f k) true := by
  have g : Good (CL ex13) := good_CL (by decide)
  have hs : ∀ b ∈ ex13, Small b := by
    intro b hb
    simp only [ex13, List.mem_cons, List.not_mem_nil, or_false] at hb
    rcases hb with rfl | rfl | rfl | rfl <;> exact ⟨by decide, by decide, by decide, by decide⟩
  unfold stanzalaw13_Awake.f
  refine ev_bind (para_ev (l := ex13) (by decide) hs) (ev_bind (columns_ev g (OP ex13) 0 4 (t := 4) (by decide) (by decide)) ?_)
  refine ev_pos (by decide) (ev_pos (by decide) (ev_pos (by decide) (ev_pos (by decide) (ev_pos (by decide) (ev_bind (trim_ev g (OP ex13) 0 4 (by decide)) (ev_pos (by decide) (ev_bind (cells_ev g (OP ex13) 0 4 3 (t := 4) (by decide) (by decide)) (ev_pos (by decide) (ev_bind (gaps_ev g (OP ex13) 0 4 (by decide)) (ev_ret (by decide)))))))))))
theorem cut_eq {C : List S41} (g : Good C) (O : List Int) (a b : Int) : ∃ fr n : Nat, fr + n ≤ C.length ∧ stanzalaw13_cut.f C O a b = some ((fr : Int), ((fr + n : Nat) : Int)) := by
  have hg := g.len
  unfold stanzalaw13_cut.f
  have hw : IntKind.u64.wrap ((C.length : Int) + 1) = (C.length : Int) + 1 := by simp [IntKind.wrap, IntKind.signed, IntKind.bits]; omega
  rw [w64 (x := (C.length : Int) + 1) (by omega) (by omega), if_neg (by rw [hw]; omega), u64mod (by omega) (by omega), u64mod (by omega) (by omega)]
  have h1 := Int.emod_nonneg (a % 18446744073709551616) (by omega : (C.length : Int) + 1 ≠ 0)
  have h2 := Int.emod_lt_of_pos (a % 18446744073709551616) (by omega : 0 < (C.length : Int) + 1)
  have h3 := Int.emod_nonneg (b % 18446744073709551616) (by omega : (C.length : Int) + 1 ≠ 0)
  have h4 := Int.emod_lt_of_pos (b % 18446744073709551616) (by omega : 0 < (C.length : Int) + 1)
  generalize (a % 18446744073709551616) % ((C.length : Int) + 1) = x at *
  generalize (b % 18446744073709551616) % ((C.length : Int) + 1) = y at *
  unfold mn mx
  by_cases h : y < x
  · refine ⟨y.toNat, x.toNat - y.toNat, by omega, ?_⟩
    rw [if_pos h, if_neg (by omega)]
    congr 2 <;> omega
  · refine ⟨x.toNat, y.toNat - x.toNat, by omega, ?_⟩
    rw [if_neg h]
    split
    · congr 2 <;> omega
    · congr 2 <;> omega
end Go.Proofs.Ytbnoeeflpegcoaa.Pure
