/- The row of ItemsChecks: for every input the law returns true, and each argument reads afterwards as before; no condition. -/
import Derived.Test.YtigajcipjklknaaRows
import Derived.Test.YtigajcipjklknaaVItemsChecks2
import Derived.Test.YtigajcipjklknaaPlItemsChecks0
import Derived.Test.YtigajcipjklknaaXItemsChecks0
import Derived.WalkKit
import Derived.ProofKit
import Derived.OpenShut
import Derived.ShutString
import Derived.ChangeOld
import Derived.Below
import Derived.SizedLaws
namespace Go.Proofs.Ytigajcipjklknaa.itemsChecks
open Go.ChangeShapes Go.WideShapes Go.ChangeAt Go.RowKit Go.Proofs.YtigajcipjklknaaW.PrintWords Go.Proofs.Ytigajcipjklknaa.F
open Go.ChangeMaps (open_string shut_string)
set_option linter.unusedVariables false
theorem own : ownKnob Try.prog.godebug = none := by kernel_rfl
theorem laidOut : laidOutB Try.prog = true := by kernel_rfl
set_option maxRecDepth 100000 in
theorem lifted (os : Os) (started : os.Started) (H : Type) (enc : TypeId × Value → H) :
    ReturnsInHanded {} Try.checked os 8 .any (Rows.itemsChecksSpec.pre6 enc Try.prog Try.f8 Rows.itemsChecksRow.domain false) (Rows.itemsChecksSpec.post enc Try.prog Try.f8 false true false false) := by
  refine returnsInHanded_of_change_sized (C := Try.checked) own started (by kernel_rfl) Try.func8
    (ChangeSpec.witness6 (enc := enc) (C := Try.checked) false ⟨#[], #[.slice none 0 0, .slice none 0 0, .slice none 0 0, .int .i64 0, .int .i64 0, .int .i64 0], []⟩ 8 (by kernel_rfl) (by kernel_rfl) (by kernel_rfl) (by kernel_rfl)) ?_
  intro W base args ds gs before hval0 hW hcnd hsz0 _
  have hsz : (DataW.weightsEach Try.prog (Try.f8.params.toList ++ Rows.itemsChecksSpec.plain.varTypes Try.prog) (ds ++ gs)).all (· ≤ reachBytes) = true := hsz0
  have hval : ∀ (j : Nat) t v, Try.f8.params[j]? = some t → args[j]? = some v → Value.okWide Try.prog W .any base t v := hval0
  have hW' := hW
  obtain ⟨p, q, hA0, hV, rfl, hfz, hnd⟩ := hW
  have hA : DataW.TrodAll enc Try.prog W 0 (fun _ => true) true Try.f8.params.toList args.toList ds p := hA0
  rw [Try.params8] at hA hval hsz
  obtain ⟨v0, vs0, d0, ds0, p0, q0, hargs, rfl, rfl, h0, r0⟩ := trodAll_cons hA
  obtain ⟨v1, vs1, d1, ds1, p1, q1, rfl, rfl, rfl, h1, r1⟩ := trodAll_cons r0
  obtain ⟨v2, vs2, d2, ds2, p2, q2, rfl, rfl, rfl, h2, r2⟩ := trodAll_cons r1
  obtain ⟨v3, vs3, d3, ds3, p3, q3, rfl, rfl, rfl, h3, r3⟩ := trodAll_cons r2
  obtain ⟨v4, vs4, d4, ds4, p4, q4, rfl, rfl, rfl, h4, r4⟩ := trodAll_cons r3
  obtain ⟨v5, vs5, d5, ds5, p5, q5, rfl, rfl, rfl, h5, r5⟩ := trodAll_cons r4
  obtain ⟨rfl, rfl, rfl⟩ := trodAll_nil r5
  obtain rfl : args = #[v0, v1, v2, v3, v4, v5] := by cases args; simp_all
  obtain ⟨rfl, rfl⟩ := trodVars_none hV
  have k0 := h0
  have lt0 : ∀ x ∈ p0, x.block < W.heap.size := by obtain ⟨m, hm⟩ := k0; exact DataW.trod_lt m _ _ _ hm
  obtain ⟨x0, K0, g0⟩ : ∃ x : List (S48), ((Kd.slice 48 k48)).K W x v0.cells.toList ∧ (x.length * 32 ≤ 140737488351232 ∧ ∀ y0 ∈ x, ((Lit.int .i64 y0.f0).wf = true ∧ ((Lit.int .i64 y0.f1).wf = true ∧ ((Lit.int .i64 y0.f2).wf = true ∧ (Lit.int .u8 y0.f3).wf = true)))) := by
    obtain ⟨fuel, hf⟩ := h0
    exact ((opens_slice (B := 32) Try.underlying34 (by kernel_rfl) (by kernel_rfl) (opens_struct Try.underlying48 (by kernel_rfl) (by kernel_rfl) rfl (fun x : S48 => (x.f0, x.f1, x.f2, x.f3)) (fun p => (⟨p.1, p.2.1, p.2.2.1, p.2.2.2⟩ : S48)) (fun _ => rfl) (opens_pair (opens_int Try.underlying3) (opens_pair (opens_int Try.underlying3) (opens_pair (opens_int Try.underlying3) (opens_one (opens_int Try.underlying46))))))) : Opens Try.prog 34 (Kd.slice 48 k48) _) _ _ _ _ _ _ _ _ _ hf (fun b hb => by simpa using List.all_eq_true.1 hsz _ (DataW.weights_mem_each (j := 0) rfl rfl b hb))
  obtain ⟨A0, len0, c0, rfl⟩ := okWide_slice Try.underlying34 (hval 0 34 v0 rfl rfl)
  obtain ⟨A0', c0', e0, hc0, hr0⟩ := K0
  simp [Value.cells] at e0
  obtain ⟨rfl, rfl, rfl⟩ := e0
  have k1 := h1
  have lt1 : ∀ x ∈ p1, x.block < W.heap.size := by obtain ⟨m, hm⟩ := k1; exact DataW.trod_lt m _ _ _ hm
  obtain ⟨x1, K1, g1⟩ : ∃ x : List Int, ((Kd.slice 5 (Kd.int .u8))).K W x v1.cells.toList ∧ (x.length * 1 ≤ 140737488351232 ∧ ∀ y0 ∈ x, (Lit.int .u8 y0).wf = true) := by
    obtain ⟨fuel, hf⟩ := h1
    exact ((opens_slice (B := 1) Try.underlying22 (by kernel_rfl) (by kernel_rfl) (opens_int Try.underlying5)) : Opens Try.prog 22 (Kd.slice 5 (Kd.int .u8)) _) _ _ _ _ _ _ _ _ _ hf (fun b hb => by simpa using List.all_eq_true.1 hsz _ (DataW.weights_mem_each (j := 1) rfl rfl b hb))
  obtain ⟨A1, len1, c1, rfl⟩ := okWide_slice Try.underlying22 (hval 1 22 v1 rfl rfl)
  obtain ⟨A1', c1', e1, hc1, hr1⟩ := K1
  simp [Value.cells] at e1
  obtain ⟨rfl, rfl, rfl⟩ := e1
  have k2 := h2
  have lt2 : ∀ x ∈ p2, x.block < W.heap.size := by obtain ⟨m, hm⟩ := k2; exact DataW.trod_lt m _ _ _ hm
  obtain ⟨x2, K2, g2⟩ : ∃ x : List (S90), ((Kd.slice 90 k90)).K W x v2.cells.toList ∧ (x.length * 4 ≤ 140737488351232 ∧ ∀ y0 ∈ x, ((Lit.int .u8 y0.f0).wf = true ∧ ((Lit.int .u8 y0.f1).wf = true ∧ ((Lit.int .u8 y0.f2).wf = true ∧ (Lit.int .u8 y0.f3).wf = true)))) := by
    obtain ⟨fuel, hf⟩ := h2
    exact ((opens_slice (B := 4) Try.underlying65 (by kernel_rfl) (by kernel_rfl) (opens_struct Try.underlying90 (by kernel_rfl) (by kernel_rfl) rfl (fun x : S90 => (x.f0, x.f1, x.f2, x.f3)) (fun p => (⟨p.1, p.2.1, p.2.2.1, p.2.2.2⟩ : S90)) (fun _ => rfl) (opens_pair (opens_int Try.underlying5) (opens_pair (opens_int Try.underlying5) (opens_pair (opens_int Try.underlying5) (opens_one (opens_int Try.underlying5))))))) : Opens Try.prog 65 (Kd.slice 90 k90) _) _ _ _ _ _ _ _ _ _ hf (fun b hb => by simpa using List.all_eq_true.1 hsz _ (DataW.weights_mem_each (j := 2) rfl rfl b hb))
  obtain ⟨A2, len2, c2, rfl⟩ := okWide_slice Try.underlying65 (hval 2 65 v2 rfl rfl)
  obtain ⟨A2', c2', e2, hc2, hr2⟩ := K2
  simp [Value.cells] at e2
  obtain ⟨rfl, rfl, rfl⟩ := e2
  obtain ⟨a3, rfl, rfl, rfl, g3⟩ := open_int Try.underlying3 (hval 3 3 v3 rfl rfl) h3
  obtain ⟨a4, rfl, rfl, rfl, g4⟩ := open_int Try.underlying3 (hval 4 3 v4 rfl rfl) h4
  obtain ⟨a5, rfl, rfl, rfl, g5⟩ := open_int Try.underlying3 (hval 5 3 v5 rfl rfl) h5
  clear hA0 hval0 hsz0 hsz
  obtain ⟨k, h⟩ := Pure.ItemsChecks x0 x1 x2 a3 a4 a5 g0 g1 g2 g3 g4 g5
  refine (stanzalaw11_ItemsChecks.calls k _ _ x0 _ _ x1 _ _ x2 a3 a4 a5 true W hr0 hc0 hr1 hc1 hr2 hc2 h ⟨rfl⟩).mono fun e W' ⟨he, bel0⟩ => ?_
  have bel : Below W.heap.size W W' := bel0
  subst he
  exact ⟨_, rfl, _, _, _, [], _, [], hW', trodAll_mk1 (shut_bool Try.underlying4 _), (trodAll_cons_mk (Below.trod laidOut (by kernel_rfl) (of_decide_eq_true (by kernel_rfl)) k0 bel lt0) (trodAll_cons_mk (Below.trod laidOut (by kernel_rfl) (of_decide_eq_true (by kernel_rfl)) k1 bel lt1) (trodAll_cons_mk (Below.trod laidOut (by kernel_rfl) (of_decide_eq_true (by kernel_rfl)) k2 bel lt2) (trodAll_cons_mk (shut_int Try.underlying3 g3) (trodAll_cons_mk (shut_int Try.underlying3 g4) (trodAll_cons_mk (shut_int Try.underlying3 g5) trodAll_mk0)))))), rfl, bel.frame _, fun h => by cases h⟩
theorem over : Rows.itemsChecksRow.holds Try.pinned (OpenSpec.ofChange Rows.itemsChecksSpec) :=
  OpenClaim.holds_of_wide 8 Try.f8 rfl rfl rfl rfl rfl rfl rfl ⟨rfl, rfl, rfl, rfl, rfl⟩ rfl rfl rfl rfl rfl (by kernel_rfl) Try.func8 (by kernel_rfl)
    (of_decide_eq_true (by kernel_rfl)) (by unfold Func.isWrapper; first | (rw [if_pos (by decide +kernel)]; kernel_rfl) | (rw [if_neg (by decide +kernel)]; exact ⟨rfl, rfl⟩))
    (fun os started H enc _ => lifted os started H enc)
theorem proved : Rows.ItemsChecksSaid := over
#print axioms proved
end Go.Proofs.Ytigajcipjklknaa.itemsChecks
namespace Go.Proofs.Ytigajcipjklknaa
/-- The row, under a short name, for the claim. -/
theorem itemsChecks_holds : Rows.ItemsChecksSaid := itemsChecks.proved
end Go.Proofs.Ytigajcipjklknaa
