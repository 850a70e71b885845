/- The row of PropBlocks: for every input the law returns true, and each argument reads afterwards as before; no condition. -/
import Derived.Test.YtcgbndojpcaboaaRows
import Derived.Test.YtcgbndojpcaboaaVPropBlocks0
import Derived.Test.YtcgbndojpcaboaaPlPropBlocks0
import Derived.Test.YtcgbndojpcaboaaXPropBlocks0
import Derived.WalkKit
import Derived.ProofKit
import Derived.OpenShut
import Derived.ShutString
import Derived.ChangeOld
import Derived.Below
import Derived.SizedLaws
namespace Go.Proofs.Ytcgbndojpcaboaa.propBlocks
open Go.ChangeShapes Go.WideShapes Go.ChangeAt Go.RowKit Go.Proofs.YtcgbndojpcaboaaW.PrintWords Go.Proofs.Ytcgbndojpcaboaa.F
open Go.ChangeMaps (open_string shut_string)
set_option linter.unusedVariables false
theorem own : ownKnob Try.prog.godebug = none := by kernel_rfl
theorem laidOut : laidOutB Try.prog = true := by kernel_rfl
set_option maxRecDepth 100000 in
theorem lifted (os : Os) (started : os.Started) (H : Type) (enc : TypeId × Value → H) :
    ReturnsInHanded {} Try.checked os 5 .any (Rows.propBlocksSpec.pre6 enc Try.prog Try.f5 Rows.propBlocksRow.domain false) (Rows.propBlocksSpec.post enc Try.prog Try.f5 false true false false) := by
  refine returnsInHanded_of_change_sized (C := Try.checked) own started (by kernel_rfl) Try.func5
    (ChangeSpec.witness6 (enc := enc) (C := Try.checked) false ⟨#[], #[.slice none 0 0], []⟩ 8 (by kernel_rfl) (by kernel_rfl) (by kernel_rfl) (by kernel_rfl)) ?_
  intro W base args ds gs before hval0 hW hcnd hsz0 _
  have hsz : (DataW.weightsEach Try.prog (Try.f5.params.toList ++ Rows.propBlocksSpec.plain.varTypes Try.prog) (ds ++ gs)).all (· ≤ reachBytes) = true := hsz0
  have hval : ∀ (j : Nat) t v, Try.f5.params[j]? = some t → args[j]? = some v → Value.okWide Try.prog W .any base t v := hval0
  have hW' := hW
  obtain ⟨p, q, hA0, hV, rfl, hfz, hnd⟩ := hW
  have hA : DataW.TrodAll enc Try.prog W 0 (fun _ => true) true Try.f5.params.toList args.toList ds p := hA0
  rw [Try.params5] at hA hval hsz
  obtain ⟨v0, vs0, d0, ds0, p0, q0, hargs, rfl, rfl, h0, r0⟩ := trodAll_cons hA
  obtain ⟨rfl, rfl, rfl⟩ := trodAll_nil r0
  obtain rfl : args = #[v0] := by cases args; simp_all
  obtain ⟨rfl, rfl⟩ := trodVars_none hV
  have k0 := h0
  have lt0 : ∀ x ∈ p0, x.block < W.heap.size := by obtain ⟨m, hm⟩ := k0; exact DataW.trod_lt m _ _ _ hm
  obtain ⟨x0, K0, g0⟩ : ∃ x : List (S33), ((Kd.slice 33 k33)).K W x v0.cells.toList ∧ (x.length * 16 ≤ 140737488351232 ∧ ∀ y0 ∈ x, ((Lit.int .i32 y0.f0).wf = true ∧ ((Lit.int .i32 y0.f1).wf = true ∧ (Lit.int .i64 y0.f2).wf = true))) := by
    obtain ⟨fuel, hf⟩ := h0
    exact ((opens_slice (B := 16) Try.underlying22 (by kernel_rfl) (by kernel_rfl) (opens_struct Try.underlying33 (by kernel_rfl) (by kernel_rfl) rfl (fun x : S33 => (x.f0, x.f1, x.f2)) (fun p => (⟨p.1, p.2.1, p.2.2⟩ : S33)) (fun _ => rfl) (opens_pair (opens_int Try.underlying21) (opens_pair (opens_int Try.underlying21) (opens_one (opens_int Try.underlying3)))))) : Opens Try.prog 22 (Kd.slice 33 k33) _) _ _ _ _ _ _ _ _ _ hf (fun b hb => by simpa using List.all_eq_true.1 hsz _ (DataW.weights_mem_each (j := 0) rfl rfl b hb))
  obtain ⟨A0, len0, c0, rfl⟩ := okWide_slice Try.underlying22 (hval 0 22 v0 rfl rfl)
  obtain ⟨A0', c0', e0, hc0, hr0⟩ := K0
  simp [Value.cells] at e0
  obtain ⟨rfl, rfl, rfl⟩ := e0
  clear hA0 hval0 hsz0 hsz
  obtain ⟨k, h⟩ := Pure.PropBlocks x0 g0
  refine (stanzalaw02_PropBlocks.calls k _ _ x0 true W hr0 hc0 h ⟨rfl⟩).mono fun e W' ⟨he, bel0⟩ => ?_
  have bel : Below W.heap.size W W' := bel0
  subst he
  exact ⟨_, rfl, _, _, _, [], _, [], hW', trodAll_mk1 (shut_bool Try.underlying4 _), (trodAll_cons_mk (Below.trod laidOut (by kernel_rfl) (of_decide_eq_true (by kernel_rfl)) k0 bel lt0) trodAll_mk0), rfl, bel.frame _, fun h => by cases h⟩
theorem over : Rows.propBlocksRow.holds Try.pinned (OpenSpec.ofChange Rows.propBlocksSpec) :=
  OpenClaim.holds_of_wide 5 Try.f5 rfl rfl rfl rfl rfl rfl rfl ⟨rfl, rfl, rfl, rfl, rfl⟩ rfl rfl rfl rfl rfl (by kernel_rfl) Try.func5 (by kernel_rfl)
    (of_decide_eq_true (by kernel_rfl)) (by unfold Func.isWrapper; first | (rw [if_pos (by decide +kernel)]; kernel_rfl) | (rw [if_neg (by decide +kernel)]; exact ⟨rfl, rfl⟩))
    (fun os started H enc _ => lifted os started H enc)
theorem proved : Rows.PropBlocksSaid := over
#print axioms proved
end Go.Proofs.Ytcgbndojpcaboaa.propBlocks
namespace Go.Proofs.Ytcgbndojpcaboaa
/-- The row, under a short name, for the claim. -/
theorem propBlocks_holds : Rows.PropBlocksSaid := propBlocks.proved
end Go.Proofs.Ytcgbndojpcaboaa
