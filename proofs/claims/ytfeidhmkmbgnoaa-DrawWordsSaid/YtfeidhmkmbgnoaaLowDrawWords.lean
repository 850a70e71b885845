/- The row of DrawWords: for every input the law returns true, and each argument reads afterwards as before; no condition. -/
import Derived.Test.YtfeidhmkmbgnoaaRows
import Derived.Test.YtfeidhmkmbgnoaaVDrawWords3
import Derived.Test.YtfeidhmkmbgnoaaPlDrawWords0
import Derived.Test.YtfeidhmkmbgnoaaXDrawWords0
import Derived.WalkKit
import Derived.ProofKit
import Derived.OpenShut
import Derived.ShutString
import Derived.ChangeOld
import Derived.Below
import Derived.SizedLaws
namespace Go.Proofs.Ytfeidhmkmbgnoaa.drawWords
open Go.ChangeShapes Go.WideShapes Go.ChangeAt Go.RowKit Go.Proofs.YtfeidhmkmbgnoaaW.PrintWords Go.Proofs.Ytfeidhmkmbgnoaa.F
open Go.ChangeMaps (open_string shut_string)
set_option linter.unusedVariables false
theorem own : ownKnob Try.prog.godebug = none := by kernel_rfl
theorem laidOut : laidOutB Try.prog = true := by kernel_rfl
set_option maxRecDepth 100000 in
theorem lifted (os : Os) (started : os.Started) (H : Type) (enc : TypeId × Value → H) :
    ReturnsInHanded {} Try.checked os 10 .any (Rows.drawWordsSpec.pre6 enc Try.prog Try.f10 Rows.drawWordsRow.domain false) (Rows.drawWordsSpec.post enc Try.prog Try.f10 false true false false) := by
  refine returnsInHanded_of_change_sized (C := Try.checked) own started (by kernel_rfl) Try.func10
    (ChangeSpec.witness6 (enc := enc) (C := Try.checked) false ⟨#[], #[.slice none 0 0, .agg #[.int .u8 0, .int .u8 0, .int .u8 0, .int .u16 0, .int .u16 0, .float .f64 0], .bool false], []⟩ 8 (by kernel_rfl) (by kernel_rfl) (by kernel_rfl) (by kernel_rfl)) ?_
  intro W base args ds gs before hval0 hW hcnd hsz0 _
  have hsz : (DataW.weightsEach Try.prog (Try.f10.params.toList ++ Rows.drawWordsSpec.plain.varTypes Try.prog) (ds ++ gs)).all (· ≤ reachBytes) = true := hsz0
  have hval : ∀ (j : Nat) t v, Try.f10.params[j]? = some t → args[j]? = some v → Value.okWide Try.prog W .any base t v := hval0
  have hW' := hW
  obtain ⟨p, q, hA0, hV, rfl, hfz, hnd⟩ := hW
  have hA : DataW.TrodAll enc Try.prog W 0 (fun _ => true) true Try.f10.params.toList args.toList ds p := hA0
  rw [Try.params10] at hA hval hsz
  obtain ⟨v0, vs0, d0, ds0, p0, q0, hargs, rfl, rfl, h0, r0⟩ := trodAll_cons hA
  obtain ⟨v1, vs1, d1, ds1, p1, q1, rfl, rfl, rfl, h1, r1⟩ := trodAll_cons r0
  obtain ⟨v2, vs2, d2, ds2, p2, q2, rfl, rfl, rfl, h2, r2⟩ := trodAll_cons r1
  obtain ⟨rfl, rfl, rfl⟩ := trodAll_nil r2
  obtain rfl : args = #[v0, v1, v2] := by cases args; simp_all
  obtain ⟨rfl, rfl⟩ := trodVars_none hV
  have k0 := h0
  have lt0 : ∀ x ∈ p0, x.block < W.heap.size := by obtain ⟨m, hm⟩ := k0; exact DataW.trod_lt m _ _ _ hm
  obtain ⟨x0, K0, g0⟩ : ∃ x : List (S49), ((Kd.slice 49 k49)).K W x v0.cells.toList ∧ (x.length * 4 ≤ 140737488351232 ∧ ∀ y0 ∈ x, ((Lit.int .u8 y0.f0).wf = true ∧ ((Lit.int .u8 y0.f1).wf = true ∧ ((Lit.int .u8 y0.f2).wf = true ∧ (Lit.int .u8 y0.f3).wf = true)))) := by
    obtain ⟨fuel, hf⟩ := h0
    exact ((opens_slice (B := 4) Try.underlying22 (by kernel_rfl) (by kernel_rfl) (opens_struct Try.underlying49 (by kernel_rfl) (by kernel_rfl) rfl (fun x : S49 => (x.f0, x.f1, x.f2, x.f3)) (fun p => (⟨p.1, p.2.1, p.2.2.1, p.2.2.2⟩ : S49)) (fun _ => rfl) (opens_pair (opens_int Try.underlying5) (opens_pair (opens_int Try.underlying5) (opens_pair (opens_int Try.underlying5) (opens_one (opens_int Try.underlying5))))))) : Opens Try.prog 22 (Kd.slice 49 k49) _) _ _ _ _ _ _ _ _ _ hf (fun b hb => by simpa using List.all_eq_true.1 hsz _ (DataW.weights_mem_each (j := 0) rfl rfl b hb))
  obtain ⟨A0, len0, c0, rfl⟩ := okWide_slice Try.underlying22 (hval 0 22 v0 rfl rfl)
  obtain ⟨A0', c0', e0, hc0, hr0⟩ := K0
  simp [Value.cells] at e0
  obtain ⟨rfl, rfl, rfl⟩ := e0
  have k1 := h1
  have lt1 : ∀ x ∈ p1, x.block < W.heap.size := by obtain ⟨m, hm⟩ := k1; exact DataW.trod_lt m _ _ _ hm
  obtain ⟨x1, K1, g1⟩ : ∃ x : S26, (k26).K W x v1.cells.toList ∧ ((Lit.int .u8 x.f0).wf = true ∧ ((Lit.int .u8 x.f1).wf = true ∧ ((Lit.int .u8 x.f2).wf = true ∧ ((Lit.int .u16 x.f3).wf = true ∧ ((Lit.int .u16 x.f4).wf = true ∧ (Lit.float .f64 x.f5).wf = true))))) := by
    obtain ⟨fuel, hf⟩ := h1
    exact ((opens_struct Try.underlying26 (by kernel_rfl) (by kernel_rfl) rfl (fun x : S26 => (x.f0, x.f1, x.f2, x.f3, x.f4, x.f5)) (fun p => (⟨p.1, p.2.1, p.2.2.1, p.2.2.2.1, p.2.2.2.2.1, p.2.2.2.2.2⟩ : S26)) (fun _ => rfl) (opens_pair (opens_int Try.underlying5) (opens_pair (opens_int Try.underlying5) (opens_pair (opens_int Try.underlying5) (opens_pair (opens_int Try.underlying23) (opens_pair (opens_int Try.underlying23) (opens_one (opens_f64 Try.underlying24)))))))) : Opens Try.prog 26 k26 _) _ _ _ _ _ _ _ _ _ hf (fun b hb => by simpa using List.all_eq_true.1 hsz _ (DataW.weights_mem_each (j := 1) rfl rfl b hb))
  obtain ⟨cs1, rfl, _⟩ := okWide_struct Try.underlying26 (hval 1 26 v1 rfl rfl)
  obtain ⟨cs1⟩ := cs1
  obtain e1 := k26_open K1
  obtain rfl : cs1 = [.int .u8 x1.f0, .int .u8 x1.f1, .int .u8 x1.f2, .int .u16 x1.f3, .int .u16 x1.f4, .float .f64 x1.f5] := e1
  obtain ⟨a2, rfl, rfl, rfl⟩ := open_bool Try.underlying4 (hval 2 4 v2 rfl rfl) h2
  clear hA0 hval0 hsz0 hsz
  obtain ⟨k, h⟩ := Pure.DrawWords x0 x1.f0 x1.f1 x1.f2 x1.f3 x1.f4 x1.f5 a2 g0 g1
  refine (stanzalaw22_DrawWords.calls k _ _ x0 x1.f0 x1.f1 x1.f2 x1.f3 x1.f4 x1.f5 a2 true W hr0 hc0 h ⟨rfl⟩).mono fun e W' ⟨he, bel0⟩ => ?_
  have bel : Below W.heap.size W W' := bel0
  subst he
  exact ⟨_, rfl, _, _, _, [], _, [], hW', trodAll_mk1 (shut_bool Try.underlying4 _), (trodAll_cons_mk (Below.trod laidOut (by kernel_rfl) (of_decide_eq_true (by kernel_rfl)) k0 bel lt0) (trodAll_cons_mk (Below.trod laidOut (by kernel_rfl) (of_decide_eq_true (by kernel_rfl)) k1 bel lt1) (trodAll_cons_mk (shut_bool Try.underlying4 _) trodAll_mk0))), rfl, bel.frame _, fun h => by cases h⟩
theorem over : Rows.drawWordsRow.holds Try.pinned (OpenSpec.ofChange Rows.drawWordsSpec) :=
  OpenClaim.holds_of_wide 10 Try.f10 rfl rfl rfl rfl rfl rfl rfl ⟨rfl, rfl, rfl, rfl, rfl⟩ rfl rfl rfl rfl rfl (by kernel_rfl) Try.func10 (by kernel_rfl)
    (of_decide_eq_true (by kernel_rfl)) (by unfold Func.isWrapper; first | (rw [if_pos (by decide +kernel)]; kernel_rfl) | (rw [if_neg (by decide +kernel)]; exact ⟨rfl, rfl⟩))
    (fun os started H enc _ => lifted os started H enc)
theorem proved : Rows.DrawWordsSaid := over
#print axioms proved
end Go.Proofs.Ytfeidhmkmbgnoaa.drawWords
namespace Go.Proofs.Ytfeidhmkmbgnoaa
/-- The row, under a short name, for the claim. -/
theorem drawWords_holds : Rows.DrawWordsSaid := drawWords.proved
end Go.Proofs.Ytfeidhmkmbgnoaa
