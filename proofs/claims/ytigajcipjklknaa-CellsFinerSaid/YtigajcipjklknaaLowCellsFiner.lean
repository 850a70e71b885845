/- The row of CellsFiner: for every input the law returns true, and each argument reads afterwards as before; no condition. -/
import Derived.Test.YtigajcipjklknaaRows
import Derived.Test.YtigajcipjklknaaVCellsFiner1
import Derived.Test.YtigajcipjklknaaPlCellsFiner0
import Derived.Test.YtigajcipjklknaaXCellsFiner0
import Derived.WalkKit
import Derived.ProofKit
import Derived.OpenShut
import Derived.ShutString
import Derived.ChangeOld
import Derived.Below
import Derived.SizedLaws
namespace Go.Proofs.Ytigajcipjklknaa.cellsFiner
open Go.ChangeShapes Go.WideShapes Go.ChangeAt Go.RowKit Go.Proofs.YtigajcipjklknaaW.PrintWords Go.Proofs.Ytigajcipjklknaa.F
open Go.ChangeMaps (open_string shut_string)
set_option linter.unusedVariables false
theorem own : ownKnob Try.prog.godebug = none := by kernel_rfl
theorem laidOut : laidOutB Try.prog = true := by kernel_rfl
set_option maxRecDepth 100000 in
theorem lifted (os : Os) (started : os.Started) (H : Type) (enc : TypeId × Value → H) :
    ReturnsInHanded {} Try.checked os 5 .any (Rows.cellsFinerSpec.pre6 enc Try.prog Try.f5 Rows.cellsFinerRow.domain false) (Rows.cellsFinerSpec.post enc Try.prog Try.f5 false true false false) := by
  refine returnsInHanded_of_change_sized (C := Try.checked) own started (by kernel_rfl) Try.func5
    (ChangeSpec.witness6 (enc := enc) (C := Try.checked) false ⟨#[], #[.slice none 0 0, .slice none 0 0, .slice none 0 0, .slice none 0 0], []⟩ 8 (by kernel_rfl) (by kernel_rfl) (by kernel_rfl) (by kernel_rfl)) ?_
  intro W base args ds gs before hval0 hW hcnd hsz0 _
  have hsz : (DataW.weightsEach Try.prog (Try.f5.params.toList ++ Rows.cellsFinerSpec.plain.varTypes Try.prog) (ds ++ gs)).all (· ≤ reachBytes) = true := hsz0
  have hval : ∀ (j : Nat) t v, Try.f5.params[j]? = some t → args[j]? = some v → Value.okWide Try.prog W .any base t v := hval0
  have hW' := hW
  obtain ⟨p, q, hA0, hV, rfl, hfz, hnd⟩ := hW
  have hA : DataW.TrodAll enc Try.prog W 0 (fun _ => true) true Try.f5.params.toList args.toList ds p := hA0
  rw [Try.params5] at hA hval hsz
  obtain ⟨v0, vs0, d0, ds0, p0, q0, hargs, rfl, rfl, h0, r0⟩ := trodAll_cons hA
  obtain ⟨v1, vs1, d1, ds1, p1, q1, rfl, rfl, rfl, h1, r1⟩ := trodAll_cons r0
  obtain ⟨v2, vs2, d2, ds2, p2, q2, rfl, rfl, rfl, h2, r2⟩ := trodAll_cons r1
  obtain ⟨v3, vs3, d3, ds3, p3, q3, rfl, rfl, rfl, h3, r3⟩ := trodAll_cons r2
  obtain ⟨rfl, rfl, rfl⟩ := trodAll_nil r3
  obtain rfl : args = #[v0, v1, v2, v3] := by cases args; simp_all
  obtain ⟨rfl, rfl⟩ := trodVars_none hV
  have k0 := h0
  have lt0 : ∀ x ∈ p0, x.block < W.heap.size := by obtain ⟨m, hm⟩ := k0; exact DataW.trod_lt m _ _ _ hm
  obtain ⟨x0, K0, g0⟩ : ∃ x : List Int, ((Kd.slice 5 (Kd.int .u8))).K W x v0.cells.toList ∧ (x.length * 1 ≤ 140737488351232 ∧ ∀ y0 ∈ x, (Lit.int .u8 y0).wf = true) := by
    obtain ⟨fuel, hf⟩ := h0
    exact ((opens_slice (B := 1) Try.underlying22 (by kernel_rfl) (by kernel_rfl) (opens_int Try.underlying5)) : Opens Try.prog 22 (Kd.slice 5 (Kd.int .u8)) _) _ _ _ _ _ _ _ _ _ hf (fun b hb => by simpa using List.all_eq_true.1 hsz _ (DataW.weights_mem_each (j := 0) rfl rfl b hb))
  obtain ⟨A0, len0, c0, rfl⟩ := okWide_slice Try.underlying22 (hval 0 22 v0 rfl rfl)
  obtain ⟨A0', c0', e0, hc0, hr0⟩ := K0
  simp [Value.cells] at e0
  obtain ⟨rfl, rfl, rfl⟩ := e0
  have k1 := h1
  have lt1 : ∀ x ∈ p1, x.block < W.heap.size := by obtain ⟨m, hm⟩ := k1; exact DataW.trod_lt m _ _ _ hm
  obtain ⟨x1, K1, g1⟩ : ∃ x : List Int, ((Kd.slice 5 (Kd.int .u8))).K W x v1.cells.toList ∧ (x.length * 1 ≤ 140737488351232 ∧ ∀ y0 ∈ x, (Lit.int .u8 y0).wf = true) := by
    obtain ⟨fuel, hf⟩ := h1
    exact ((opens_slice (B := 1) Try.underlying22 (by kernel_rfl) (by kernel_rfl) (opens_int Try.underlying5)) : Opens Try.prog 22 (Kd.slice 5 (Kd.int .u8)) _) _ _ _ _ _ _ _ _ _ hf (fun b hb => by simpa using List.all_eq_true.1 hsz _ (DataW.weights_mem_each (j := 1) rfl rfl b hb))
  obtain ⟨A1, len1, c1, rfl⟩ := okWide_slice Try.underlying22 (hval 1 22 v1 rfl rfl)
  obtain ⟨A1', c1', e1, hc1, hr1⟩ := K1
  simp [Value.cells] at e1
  obtain ⟨rfl, rfl, rfl⟩ := e1
  have k2 := h2
  have lt2 : ∀ x ∈ p2, x.block < W.heap.size := by obtain ⟨m, hm⟩ := k2; exact DataW.trod_lt m _ _ _ hm
  obtain ⟨x2, K2, g2⟩ : ∃ x : List Int, ((Kd.slice 5 (Kd.int .u8))).K W x v2.cells.toList ∧ (x.length * 1 ≤ 140737488351232 ∧ ∀ y0 ∈ x, (Lit.int .u8 y0).wf = true) := by
    obtain ⟨fuel, hf⟩ := h2
    exact ((opens_slice (B := 1) Try.underlying22 (by kernel_rfl) (by kernel_rfl) (opens_int Try.underlying5)) : Opens Try.prog 22 (Kd.slice 5 (Kd.int .u8)) _) _ _ _ _ _ _ _ _ _ hf (fun b hb => by simpa using List.all_eq_true.1 hsz _ (DataW.weights_mem_each (j := 2) rfl rfl b hb))
  obtain ⟨A2, len2, c2, rfl⟩ := okWide_slice Try.underlying22 (hval 2 22 v2 rfl rfl)
  obtain ⟨A2', c2', e2, hc2, hr2⟩ := K2
  simp [Value.cells] at e2
  obtain ⟨rfl, rfl, rfl⟩ := e2
  have k3 := h3
  have lt3 : ∀ x ∈ p3, x.block < W.heap.size := by obtain ⟨m, hm⟩ := k3; exact DataW.trod_lt m _ _ _ hm
  obtain ⟨x3, K3, g3⟩ : ∃ x : List Int, ((Kd.slice 5 (Kd.int .u8))).K W x v3.cells.toList ∧ (x.length * 1 ≤ 140737488351232 ∧ ∀ y0 ∈ x, (Lit.int .u8 y0).wf = true) := by
    obtain ⟨fuel, hf⟩ := h3
    exact ((opens_slice (B := 1) Try.underlying22 (by kernel_rfl) (by kernel_rfl) (opens_int Try.underlying5)) : Opens Try.prog 22 (Kd.slice 5 (Kd.int .u8)) _) _ _ _ _ _ _ _ _ _ hf (fun b hb => by simpa using List.all_eq_true.1 hsz _ (DataW.weights_mem_each (j := 3) rfl rfl b hb))
  obtain ⟨A3, len3, c3, rfl⟩ := okWide_slice Try.underlying22 (hval 3 22 v3 rfl rfl)
  obtain ⟨A3', c3', e3, hc3, hr3⟩ := K3
  simp [Value.cells] at e3
  obtain ⟨rfl, rfl, rfl⟩ := e3
  clear hA0 hval0 hsz0 hsz
  obtain ⟨k, h⟩ := Pure.CellsFiner x0 x1 x2 x3 g0 g1 g2 g3
  refine (stanzalaw10_CellsFiner.calls k _ _ x0 _ _ x1 _ _ x2 _ _ x3 true W hr0 hc0 hr1 hc1 hr2 hc2 hr3 hc3 h ⟨rfl⟩).mono fun e W' ⟨he, bel0⟩ => ?_
  have bel : Below W.heap.size W W' := bel0
  subst he
  exact ⟨_, rfl, _, _, _, [], _, [], hW', trodAll_mk1 (shut_bool Try.underlying4 _), (trodAll_cons_mk (Below.trod laidOut (by kernel_rfl) (of_decide_eq_true (by kernel_rfl)) k0 bel lt0) (trodAll_cons_mk (Below.trod laidOut (by kernel_rfl) (of_decide_eq_true (by kernel_rfl)) k1 bel lt1) (trodAll_cons_mk (Below.trod laidOut (by kernel_rfl) (of_decide_eq_true (by kernel_rfl)) k2 bel lt2) (trodAll_cons_mk (Below.trod laidOut (by kernel_rfl) (of_decide_eq_true (by kernel_rfl)) k3 bel lt3) trodAll_mk0)))), rfl, bel.frame _, fun h => by cases h⟩
theorem over : Rows.cellsFinerRow.holds Try.pinned (OpenSpec.ofChange Rows.cellsFinerSpec) :=
  OpenClaim.holds_of_wide 5 Try.f5 rfl rfl rfl rfl rfl rfl rfl ⟨rfl, rfl, rfl, rfl, rfl⟩ rfl rfl rfl rfl rfl (by kernel_rfl) Try.func5 (by kernel_rfl)
    (of_decide_eq_true (by kernel_rfl)) (by unfold Func.isWrapper; first | (rw [if_pos (by decide +kernel)]; kernel_rfl) | (rw [if_neg (by decide +kernel)]; exact ⟨rfl, rfl⟩))
    (fun os started H enc _ => lifted os started H enc)
theorem proved : Rows.CellsFinerSaid := over
#print axioms proved
end Go.Proofs.Ytigajcipjklknaa.cellsFiner
namespace Go.Proofs.Ytigajcipjklknaa
/-- The row, under a short name, for the claim. -/
theorem cellsFiner_holds : Rows.CellsFinerSaid := cellsFiner.proved
end Go.Proofs.Ytigajcipjklknaa
