/- The row of CellsMakes: for every input the law returns true, and each argument reads afterwards as before; no condition. -/
import Derived.Test.YtigajcipjklknaaRows
import Derived.Test.YtigajcipjklknaaVCellsMakes1
import Derived.Test.YtigajcipjklknaaPlCellsMakes0
import Derived.Test.YtigajcipjklknaaXCellsMakes0
import Derived.WalkKit
import Derived.ProofKit
import Derived.OpenShut
import Derived.ShutString
import Derived.ChangeOld
import Derived.Below
import Derived.SizedLaws
namespace Go.Proofs.Ytigajcipjklknaa.cellsMakes
open Go.ChangeShapes Go.WideShapes Go.ChangeAt Go.RowKit Go.Proofs.YtigajcipjklknaaW.PrintWords Go.Proofs.Ytigajcipjklknaa.F
open Go.ChangeMaps (open_string shut_string)
set_option linter.unusedVariables false
theorem v_of_c {k : IntKind} {W : World} {A : Option Addr} {c : Nat} {xs : List Int} {e base : Nat} (h : Kd.C (Kd.int k) W A xs.length xs) (hc : xs.length ≤ c) : Kd.V (Kd.int k) e W base (fun _ => True) (.slice A xs.length c) xs := by
  refine Kd.V_mk hc (fun W' hW => ⟨h.1, h.2.1, fun hn => ?_⟩)
  obtain ⟨ad, e, hr⟩ := h.2.2 hn
  refine ⟨ad, e, fun j p hj => ?_⟩
  obtain ⟨c, hs, hk, hcell⟩ := hr j p hj
  refine ⟨c, hs, hk, fun i u hu => ?_⟩
  have h1 := hcell i u hu
  have h2 := hW _ trivial (World.block_lt_of_cell? W _ h1)
  simpa [World.cell?, h2] using h1
theorem own : ownKnob Try.prog.godebug = none := by kernel_rfl
theorem laidOut : laidOutB Try.prog = true := by kernel_rfl
set_option maxRecDepth 100000 in
theorem lifted (os : Os) (started : os.Started) (H : Type) (enc : TypeId × Value → H) :
    ReturnsInHanded {} Try.checked os 3 .any (Rows.cellsMakesSpec.pre6 enc Try.prog Try.f3 Rows.cellsMakesRow.domain false) (Rows.cellsMakesSpec.post enc Try.prog Try.f3 false true false false) := by
  refine returnsInHanded_of_change_sized (C := Try.checked) own started (by kernel_rfl) Try.func3
    (ChangeSpec.witness6 (enc := enc) (C := Try.checked) false ⟨#[], #[.slice none 0 0, .slice none 0 0, .slice none 0 0, .slice none 0 0], []⟩ 8 (by kernel_rfl) (by kernel_rfl) (by kernel_rfl) (by kernel_rfl)) ?_
  intro W base args ds gs before hval0 hW hcnd hsz0 _
  have hsz : (DataW.weightsEach Try.prog (Try.f3.params.toList ++ Rows.cellsMakesSpec.plain.varTypes Try.prog) (ds ++ gs)).all (· ≤ reachBytes) = true := hsz0
  have hval : ∀ (j : Nat) t v, Try.f3.params[j]? = some t → args[j]? = some v → Value.okWide Try.prog W .any base t v := hval0
  have hW' := hW
  obtain ⟨p, q, hA0, hV, rfl, hfz, hnd⟩ := hW
  have hA : DataW.TrodAll enc Try.prog W 0 (fun _ => true) true Try.f3.params.toList args.toList ds p := hA0
  rw [Try.params3] at hA hval hsz
  obtain ⟨v0, vs0, d0, ds0, p0, q0, hargs, rfl, rfl, h0, r0⟩ := trodAll_cons hA
  obtain ⟨v1, vs1, d1, ds1, p1, q1, rfl, rfl, rfl, h1, r1⟩ := trodAll_cons r0
  obtain ⟨v2, vs2, d2, ds2, p2, q2, rfl, rfl, rfl, h2, r2⟩ := trodAll_cons r1
  obtain ⟨v3, vs3, d3, ds3, p3, q3, rfl, rfl, rfl, h3, r3⟩ := trodAll_cons r2
  obtain ⟨rfl, rfl, rfl⟩ := trodAll_nil r3
  obtain rfl : args = #[v0, v1, v2, v3] := by cases args; simp_all
  obtain ⟨rfl, rfl⟩ := trodVars_none hV
  have k0 := h0
  have lt0 : ∀ x ∈ p0, x.block < W.heap.size := by obtain ⟨m, hm⟩ := k0; exact DataW.trod_lt m _ _ _ hm
  obtain ⟨x0, K0, g0⟩ : ∃ x : List Int, ((Kd.slice 5 (Kd.int .u8))).K W x v0.cells.toList ∧ (x.length * 1 ≤ 140737488351232 ∧ ∀ y0 ∈ x, (Lit.int .u8 y0).wf = true) := by
    obtain ⟨fuel, hf⟩ := h0
    exact ((opens_slice (B := 1) Try.underlying22 (by kernel_rfl) (by kernel_rfl) (opens_int Try.underlying5)) : Opens Try.prog 22 (Kd.slice 5 (Kd.int .u8)) _) _ _ _ _ _ _ _ _ _ hf (fun b hb => by simpa using List.all_eq_true.1 hsz _ (DataW.weights_mem_each (j := 0) rfl rfl b hb))
  obtain ⟨A0, len0, c0, rfl⟩ := okWide_slice Try.underlying22 (hval 0 22 v0 rfl rfl)
  obtain ⟨A0', c0', e0, hc0, hr0⟩ := K0
  simp [Value.cells] at e0
  obtain ⟨rfl, rfl, rfl⟩ := e0
  have k1 := h1
  have lt1 : ∀ x ∈ p1, x.block < W.heap.size := by obtain ⟨m, hm⟩ := k1; exact DataW.trod_lt m _ _ _ hm
  obtain ⟨x1, K1, g1⟩ : ∃ x : List Int, ((Kd.slice 5 (Kd.int .u8))).K W x v1.cells.toList ∧ (x.length * 1 ≤ 140737488351232 ∧ ∀ y0 ∈ x, (Lit.int .u8 y0).wf = true) := by
    obtain ⟨fuel, hf⟩ := h1
    exact ((opens_slice (B := 1) Try.underlying22 (by kernel_rfl) (by kernel_rfl) (opens_int Try.underlying5)) : Opens Try.prog 22 (Kd.slice 5 (Kd.int .u8)) _) _ _ _ _ _ _ _ _ _ hf (fun b hb => by simpa using List.all_eq_true.1 hsz _ (DataW.weights_mem_each (j := 1) rfl rfl b hb))
  obtain ⟨A1, len1, c1, rfl⟩ := okWide_slice Try.underlying22 (hval 1 22 v1 rfl rfl)
  obtain ⟨A1', c1', e1, hc1, hr1⟩ := K1
  simp [Value.cells] at e1
  obtain ⟨rfl, rfl, rfl⟩ := e1
  have k2 := h2
  have lt2 : ∀ x ∈ p2, x.block < W.heap.size := by obtain ⟨m, hm⟩ := k2; exact DataW.trod_lt m _ _ _ hm
  obtain ⟨x2, K2, g2⟩ : ∃ x : List Int, ((Kd.slice 5 (Kd.int .u8))).K W x v2.cells.toList ∧ (x.length * 1 ≤ 140737488351232 ∧ ∀ y0 ∈ x, (Lit.int .u8 y0).wf = true) := by
    obtain ⟨fuel, hf⟩ := h2
    exact ((opens_slice (B := 1) Try.underlying22 (by kernel_rfl) (by kernel_rfl) (opens_int Try.underlying5)) : Opens Try.prog 22 (Kd.slice 5 (Kd.int .u8)) _) _ _ _ _ _ _ _ _ _ hf (fun b hb => by simpa using List.all_eq_true.1 hsz _ (DataW.weights_mem_each (j := 2) rfl rfl b hb))
  obtain ⟨A2, len2, c2, rfl⟩ := okWide_slice Try.underlying22 (hval 2 22 v2 rfl rfl)
  obtain ⟨A2', c2', e2, hc2, hr2⟩ := K2
  simp [Value.cells] at e2
  obtain ⟨rfl, rfl, rfl⟩ := e2
  have k3 := h3
  have lt3 : ∀ x ∈ p3, x.block < W.heap.size := by obtain ⟨m, hm⟩ := k3; exact DataW.trod_lt m _ _ _ hm
  obtain ⟨x3, K3, g3⟩ : ∃ x : List (S45), ((Kd.slice 45 k45)).K W x v3.cells.toList ∧ (x.length * 16 ≤ 140737488351232 ∧ ∀ y0 ∈ x, ((Lit.int .i32 y0.f0).wf = true ∧ ((Lit.int .i32 y0.f1).wf = true ∧ (Lit.int .i64 y0.f2).wf = true))) := by
    obtain ⟨fuel, hf⟩ := h3
    exact ((opens_slice (B := 16) Try.underlying23 (by kernel_rfl) (by kernel_rfl) (opens_struct Try.underlying45 (by kernel_rfl) (by kernel_rfl) rfl (fun x : S45 => (x.f0, x.f1, x.f2)) (fun p => (⟨p.1, p.2.1, p.2.2⟩ : S45)) (fun _ => rfl) (opens_pair (opens_int Try.underlying21) (opens_pair (opens_int Try.underlying21) (opens_one (opens_int Try.underlying3)))))) : Opens Try.prog 23 (Kd.slice 45 k45) _) _ _ _ _ _ _ _ _ _ hf (fun b hb => by simpa using List.all_eq_true.1 hsz _ (DataW.weights_mem_each (j := 3) rfl rfl b hb))
  obtain ⟨A3, len3, c3, rfl⟩ := okWide_slice Try.underlying23 (hval 3 23 v3 rfl rfl)
  obtain ⟨A3', c3', e3, hc3, hr3⟩ := K3
  simp [Value.cells] at e3
  obtain ⟨rfl, rfl, rfl⟩ := e3
  clear hA0 hval0 hsz0 hsz
  obtain ⟨k, h⟩ := Pure.CellsMakes x0 x1 x2 x3 g0 g1 g2 g3
  refine (stanzalaw10_CellsMakes.calls k (fun _ => True) _ _ x0 _ _ x1 _ _ x2 _ _ x3 true W (v_of_c hr0 hc0) hr1 hc1 hr2 hc2 hr3 hc3 h ⟨rfl⟩).mono fun e W' ⟨he, bel0⟩ => ?_
  have bel : Below W.heap.size W W' := bel0
  subst he
  exact ⟨_, rfl, _, _, _, [], _, [], hW', trodAll_mk1 (shut_bool Try.underlying4 _), (trodAll_cons_mk (Below.trod laidOut (by kernel_rfl) (of_decide_eq_true (by kernel_rfl)) k0 bel lt0) (trodAll_cons_mk (Below.trod laidOut (by kernel_rfl) (of_decide_eq_true (by kernel_rfl)) k1 bel lt1) (trodAll_cons_mk (Below.trod laidOut (by kernel_rfl) (of_decide_eq_true (by kernel_rfl)) k2 bel lt2) (trodAll_cons_mk (Below.trod laidOut (by kernel_rfl) (of_decide_eq_true (by kernel_rfl)) k3 bel lt3) trodAll_mk0)))), rfl, bel.frame _, fun h => by cases h⟩
theorem over : Rows.cellsMakesRow.holds Try.pinned (OpenSpec.ofChange Rows.cellsMakesSpec) :=
  OpenClaim.holds_of_wide 3 Try.f3 rfl rfl rfl rfl rfl rfl rfl ⟨rfl, rfl, rfl, rfl, rfl⟩ rfl rfl rfl rfl rfl (by kernel_rfl) Try.func3 (by kernel_rfl)
    (of_decide_eq_true (by kernel_rfl)) (by unfold Func.isWrapper; first | (rw [if_pos (by decide +kernel)]; kernel_rfl) | (rw [if_neg (by decide +kernel)]; exact ⟨rfl, rfl⟩))
    (fun os started H enc _ => lifted os started H enc)
theorem proved : Rows.CellsMakesSaid := over
#print axioms proved
end Go.Proofs.Ytigajcipjklknaa.cellsMakes
namespace Go.Proofs.Ytigajcipjklknaa
/-- The row, under a short name, for the claim. -/
theorem cellsMakes_holds : Rows.CellsMakesSaid := cellsMakes.proved
end Go.Proofs.Ytigajcipjklknaa
