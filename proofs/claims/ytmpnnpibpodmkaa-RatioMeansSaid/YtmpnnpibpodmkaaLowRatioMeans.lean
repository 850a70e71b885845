/- The row of RatioMeans: for every input the law returns true, and each argument reads afterwards as before; no condition. -/
import Derived.Test.YtmpnnpibpodmkaaRows
import Derived.Test.YtmpnnpibpodmkaaVRatioMeans0
import Derived.Test.YtmpnnpibpodmkaaPlRatioMeans0
import Derived.Test.YtmpnnpibpodmkaaXRatioMeans0
import Derived.WalkKit
import Derived.ProofKit
import Derived.OpenShut
import Derived.ShutString
import Derived.ChangeOld
import Derived.Below
import Derived.SizedLaws
namespace Go.Proofs.Ytmpnnpibpodmkaa.ratioMeans
open Go.ChangeShapes Go.WideShapes Go.ChangeAt Go.RowKit Go.Proofs.YtmpnnpibpodmkaaW.PrintWords Go.Proofs.Ytmpnnpibpodmkaa.F
open Go.ChangeMaps (open_string shut_string)
set_option linter.unusedVariables false
theorem own : ownKnob Try.prog.godebug = none := by kernel_rfl
theorem laidOut : laidOutB Try.prog = true := by kernel_rfl
set_option maxRecDepth 100000 in
theorem lifted (os : Os) (started : os.Started) (H : Type) (enc : TypeId × Value → H) :
    ReturnsInHanded {} Try.checked os 8 .any (Rows.ratioMeansSpec.pre6 enc Try.prog Try.f8 Rows.ratioMeansRow.domain false) (Rows.ratioMeansSpec.post enc Try.prog Try.f8 false true false false) := by
  refine returnsInHanded_of_change_sized (C := Try.checked) own started (by kernel_rfl) Try.func8
    (ChangeSpec.witness6 (enc := enc) (C := Try.checked) false ⟨#[], #[.slice none 0 0], []⟩ 8 (by kernel_rfl) (by kernel_rfl) (by kernel_rfl) (by kernel_rfl)) ?_
  intro W base args ds gs before hval0 hW hcnd hsz0 _
  have hsz : (DataW.weightsEach Try.prog (Try.f8.params.toList ++ Rows.ratioMeansSpec.plain.varTypes Try.prog) (ds ++ gs)).all (· ≤ reachBytes) = true := hsz0
  have hval : ∀ (j : Nat) t v, Try.f8.params[j]? = some t → args[j]? = some v → Value.okWide Try.prog W .any base t v := hval0
  have hW' := hW
  obtain ⟨p, q, hA0, hV, rfl, hfz, hnd⟩ := hW
  have hA : DataW.TrodAll enc Try.prog W 0 (fun _ => true) true Try.f8.params.toList args.toList ds p := hA0
  rw [Try.params8] at hA hval hsz
  obtain ⟨v0, vs0, d0, ds0, p0, q0, hargs, rfl, rfl, h0, r0⟩ := trodAll_cons hA
  obtain ⟨rfl, rfl, rfl⟩ := trodAll_nil r0
  obtain rfl : args = #[v0] := by cases args; simp_all
  obtain ⟨rfl, rfl⟩ := trodVars_none hV
  have k0 := h0
  have lt0 : ∀ x ∈ p0, x.block < W.heap.size := by obtain ⟨m, hm⟩ := k0; exact DataW.trod_lt m _ _ _ hm
  obtain ⟨x0, K0, g0⟩ : ∃ x : List Nat, ((Kd.slice 22 Kd.f64)).K W x v0.cells.toList ∧ (x.length * 8 ≤ 140737488351232 ∧ ∀ y0 ∈ x, (Lit.float .f64 y0).wf = true) := by
    obtain ⟨fuel, hf⟩ := h0
    exact ((opens_slice (B := 8) Try.underlying24 (by kernel_rfl) (by kernel_rfl) (opens_f64 Try.underlying22)) : Opens Try.prog 24 (Kd.slice 22 Kd.f64) _) _ _ _ _ _ _ _ _ _ hf (fun b hb => by simpa using List.all_eq_true.1 hsz _ (DataW.weights_mem_each (j := 0) rfl rfl b hb))
  obtain ⟨A0, len0, c0, rfl⟩ := okWide_slice Try.underlying24 (hval 0 24 v0 rfl rfl)
  obtain ⟨A0', c0', e0, hc0, hr0⟩ := K0
  simp [Value.cells] at e0
  obtain ⟨rfl, rfl, rfl⟩ := e0
  clear hA0 hval0 hsz0 hsz
  obtain ⟨k, h⟩ := Pure.RatioMeans x0 g0
  refine (stanzalaw12_RatioMeans.calls k _ _ x0 true W hr0 hc0 h ⟨rfl⟩).mono fun e W' ⟨he, bel0⟩ => ?_
  have bel : Below W.heap.size W W' := bel0
  subst he
  exact ⟨_, rfl, _, _, _, [], _, [], hW', trodAll_mk1 (shut_bool Try.underlying4 _), (trodAll_cons_mk (Below.trod laidOut (by kernel_rfl) (of_decide_eq_true (by kernel_rfl)) k0 bel lt0) trodAll_mk0), rfl, bel.frame _, fun h => by cases h⟩
theorem over : Rows.ratioMeansRow.holds Try.pinned (OpenSpec.ofChange Rows.ratioMeansSpec) :=
  OpenClaim.holds_of_wide 8 Try.f8 rfl rfl rfl rfl rfl rfl rfl ⟨rfl, rfl, rfl, rfl, rfl⟩ rfl rfl rfl rfl rfl (by kernel_rfl) Try.func8 (by kernel_rfl)
    (of_decide_eq_true (by kernel_rfl)) (by unfold Func.isWrapper; first | (rw [if_pos (by decide +kernel)]; kernel_rfl) | (rw [if_neg (by decide +kernel)]; exact ⟨rfl, rfl⟩))
    (fun os started H enc _ => lifted os started H enc)
theorem proved : Rows.RatioMeansSaid := over
#print axioms proved
end Go.Proofs.Ytmpnnpibpodmkaa.ratioMeans
namespace Go.Proofs.Ytmpnnpibpodmkaa
/-- The row, under a short name, for the claim. -/
theorem ratioMeans_holds : Rows.RatioMeansSaid := ratioMeans.proved
end Go.Proofs.Ytmpnnpibpodmkaa
