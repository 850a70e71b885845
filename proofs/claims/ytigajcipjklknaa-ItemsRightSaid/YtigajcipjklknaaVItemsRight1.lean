/- Printed by a program: Lean functions that answer as the Go functions do, and the proofs of it. -/
import Derived.Test.YtigajcipjklknaaXItemsRight0
import Derived.Test.YtigajcipjklknaaVItemsRight0
section
namespace Go.Proofs.Ytigajcipjklknaa.F
open Go.RowKit Go.Proofs.YtigajcipjklknaaW.PrintWords Go.Proofs.YtigajcipjklknaaW.PrintLast Go.Proofs.YtigajcipjklknaaW.PrintMore
attribute [local go_sem] max2_int min2_int max_two min_two max_three min_three max_four min_four   -- for this text's walks alone
set_option linter.unusedVariables false
set_option linter.unusedSimpArgs false
mutual
def cells_Make.l0 : Nat → List (S50) → List Int → Option (List (Int × Int × Int)) → List (S48) → List Int → List (S50) → Int → Int → Option ((List (S48)) × List Int)
 | 0, _, _, _, _, _, _, _, _ => none
 | k + 1, x0, x1, x2, x8, x9, x13, x14, x15 => if x15 < x14 then (if 0 ≤ x15 then (if x15 < (x13.length : Int) then (if x15 = 0 then (cells_Make.j1 k x0 x1 x2 x8 x9 x15 x13 x14 x15 true ((rd_T50 x13 x15).f0) ((rd_T50 x13 x15).f1) ((rd_T50 x13 x15).f2)) else (if x15 < (x1.length : Int) then (cells_Make.j1 k x0 x1 x2 x8 x9 x15 x13 x14 x15 ((rd x1 x15) != 0) ((rd_T50 x13 x15).f0) ((rd_T50 x13 x15).f1) ((rd_T50 x13 x15).f2)) else (cells_Make.j1 k x0 x1 x2 x8 x9 x15 x13 x14 x15 false ((rd_T50 x13 x15).f0) ((rd_T50 x13 x15).f1) ((rd_T50 x13 x15).f2)))) else (none)) else (none)) else (if x9.length < 17592186044416 then (some (x8, (x9 ++ [(x0.length : Int)]))) else (none))
def cells_Make.j1 : Nat → List (S50) → List Int → Option (List (Int × Int × Int)) → List (S48) → List Int → Int → List (S50) → Int → Int → Bool → Int → Int → Int → Option ((List (S48)) × List Int)
 | 0, _, _, _, _, _, _, _, _, _, _, _, _, _ => none
 | k + 1, x0, x1, x2, x8, x9, x10, x13, x14, x15, x34, x156000, x156001, x156002 => if x34 = true then ((cells_kind.f x156000).bind fun t157 => (if x8.length < 4398046511104 then ((some (x8 ++ [(⟨x156001, 0, 0, t157⟩ : S48)] : List (S48))).bind fun y158 => (if x9.length < 17592186044416 then ((some (x9 ++ [x10] : List Int)).bind fun y161 => (if 0 ≤ (wrap64 ((y158.length : Int) - 1)) then (if (wrap64 ((y158.length : Int) - 1)) < (y158.length : Int) then (if 0 ≤ (wrap64 ((y161.length : Int) - 1)) then (if (wrap64 ((y161.length : Int) - 1)) < (y161.length : Int) then (if (rd y161 (wrap64 ((y161.length : Int) - 1))) = x10 then ((some (y158.set ((wrap64 ((y158.length : Int) - 1)) : Int).toNat (⟨(rd_T48 y158 (wrap64 ((y158.length : Int) - 1))).f0, wrap64 (((rd_T48 y158 (wrap64 ((y158.length : Int) - 1))).f1) + x156002), (rd_T48 y158 (wrap64 ((y158.length : Int) - 1))).f2, (rd_T48 y158 (wrap64 ((y158.length : Int) - 1))).f3⟩ : S48) : List (S48))).bind fun y167 => ((prop_Table_Of.f x2 x156000).bind fun t169 => (cells_Make.l0 k x0 x1 x2 (y167.set ((wrap64 ((y158.length : Int) - 1)) : Int).toNat (⟨(rd_T48 y167 (wrap64 ((y158.length : Int) - 1))).f0, (rd_T48 y167 (wrap64 ((y158.length : Int) - 1))).f1, mx ((rd_T48 y167 (wrap64 ((y158.length : Int) - 1))).f2) (mn t169 2), (rd_T48 y167 (wrap64 ((y158.length : Int) - 1))).f3⟩ : S48)) y161 x13 x14 (wrap64 (x15 + 1))))) else ((some (y158.set ((wrap64 ((y158.length : Int) - 1)) : Int).toNat (⟨(rd_T48 y158 (wrap64 ((y158.length : Int) - 1))).f0, (rd_T48 y158 (wrap64 ((y158.length : Int) - 1))).f1, (rd_T48 y158 (wrap64 ((y158.length : Int) - 1))).f2, 0⟩ : S48) : List (S48))).bind fun y171 => ((some (y171.set ((wrap64 ((y158.length : Int) - 1)) : Int).toNat (⟨(rd_T48 y171 (wrap64 ((y158.length : Int) - 1))).f0, wrap64 (((rd_T48 y171 (wrap64 ((y158.length : Int) - 1))).f1) + x156002), (rd_T48 y171 (wrap64 ((y158.length : Int) - 1))).f2, (rd_T48 y171 (wrap64 ((y158.length : Int) - 1))).f3⟩ : S48) : List (S48))).bind fun y173 => ((prop_Table_Of.f x2 x156000).bind fun t175 => (cells_Make.l0 k x0 x1 x2 (y173.set ((wrap64 ((y158.length : Int) - 1)) : Int).toNat (⟨(rd_T48 y173 (wrap64 ((y158.length : Int) - 1))).f0, (rd_T48 y173 (wrap64 ((y158.length : Int) - 1))).f1, mx ((rd_T48 y173 (wrap64 ((y158.length : Int) - 1))).f2) (mn t175 2), (rd_T48 y173 (wrap64 ((y158.length : Int) - 1))).f3⟩ : S48)) y161 x13 x14 (wrap64 (x15 + 1))))))) else (none)) else (none)) else (none)) else (none))) else (none))) else (none))) else (if 0 ≤ (wrap64 ((x8.length : Int) - 1)) then (if (wrap64 ((x8.length : Int) - 1)) < (x8.length : Int) then (if 0 ≤ (wrap64 ((x9.length : Int) - 1)) then (if (wrap64 ((x9.length : Int) - 1)) < (x9.length : Int) then (if (rd x9 (wrap64 ((x9.length : Int) - 1))) = x10 then ((some (x8.set ((wrap64 ((x8.length : Int) - 1)) : Int).toNat (⟨(rd_T48 x8 (wrap64 ((x8.length : Int) - 1))).f0, wrap64 (((rd_T48 x8 (wrap64 ((x8.length : Int) - 1))).f1) + x156002), (rd_T48 x8 (wrap64 ((x8.length : Int) - 1))).f2, (rd_T48 x8 (wrap64 ((x8.length : Int) - 1))).f3⟩ : S48) : List (S48))).bind fun y180 => ((prop_Table_Of.f x2 x156000).bind fun t182 => (cells_Make.l0 k x0 x1 x2 (y180.set ((wrap64 ((x8.length : Int) - 1)) : Int).toNat (⟨(rd_T48 y180 (wrap64 ((x8.length : Int) - 1))).f0, (rd_T48 y180 (wrap64 ((x8.length : Int) - 1))).f1, mx ((rd_T48 y180 (wrap64 ((x8.length : Int) - 1))).f2) (mn t182 2), (rd_T48 y180 (wrap64 ((x8.length : Int) - 1))).f3⟩ : S48)) x9 x13 x14 (wrap64 (x15 + 1))))) else ((some (x8.set ((wrap64 ((x8.length : Int) - 1)) : Int).toNat (⟨(rd_T48 x8 (wrap64 ((x8.length : Int) - 1))).f0, (rd_T48 x8 (wrap64 ((x8.length : Int) - 1))).f1, (rd_T48 x8 (wrap64 ((x8.length : Int) - 1))).f2, 0⟩ : S48) : List (S48))).bind fun y184 => ((some (y184.set ((wrap64 ((x8.length : Int) - 1)) : Int).toNat (⟨(rd_T48 y184 (wrap64 ((x8.length : Int) - 1))).f0, wrap64 (((rd_T48 y184 (wrap64 ((x8.length : Int) - 1))).f1) + x156002), (rd_T48 y184 (wrap64 ((x8.length : Int) - 1))).f2, (rd_T48 y184 (wrap64 ((x8.length : Int) - 1))).f3⟩ : S48) : List (S48))).bind fun y186 => ((prop_Table_Of.f x2 x156000).bind fun t188 => (cells_Make.l0 k x0 x1 x2 (y186.set ((wrap64 ((x8.length : Int) - 1)) : Int).toNat (⟨(rd_T48 y186 (wrap64 ((x8.length : Int) - 1))).f0, (rd_T48 y186 (wrap64 ((x8.length : Int) - 1))).f1, mx ((rd_T48 y186 (wrap64 ((x8.length : Int) - 1))).f2) (mn t188 2), (rd_T48 y186 (wrap64 ((x8.length : Int) - 1))).f3⟩ : S48)) x9 x13 x14 (wrap64 (x15 + 1))))))) else (none)) else (none)) else (none)) else (none))
end
def cells_Make.f (k : Nat) (l0 : List (S50)) (l1 : List Int) (a2 : Option (List (Int × Int × Int))) : Option ((List (S48)) × List Int) := cells_Make.l0 k l0 l1 a2 ([] : List (S48)) ([] : List Int) l0 (l0.length : Int) 0
theorem cells_Make.mono_l : ∀ k, (∀ y0 y1 y2 y3 y4 y5 y6 y7, LeO (cells_Make.l0 k y0 y1 y2 y3 y4 y5 y6 y7) (cells_Make.l0 (k + 1) y0 y1 y2 y3 y4 y5 y6 y7)) ∧ (∀ y0 y1 y2 y3 y4 y5 y6 y7 y8 y9 y10 y11 y12, LeO (cells_Make.j1 k y0 y1 y2 y3 y4 y5 y6 y7 y8 y9 y10 y11 y12) (cells_Make.j1 (k + 1) y0 y1 y2 y3 y4 y5 y6 y7 y8 y9 y10 y11 y12))
 | 0 => ⟨fun _ _ _ _ _ _ _ _ r h => by simp [cells_Make.l0] at h, fun _ _ _ _ _ _ _ _ _ _ _ _ _ r h => by simp [cells_Make.j1] at h⟩
 | k + 1 => by
  obtain ⟨ih0, ih1⟩ := cells_Make.mono_l k; refine ⟨?_, ?_⟩
  ·intro y0 y1 y2 y3 y4 y5 y6 y7
   unfold cells_Make.l0
   repeat' (with_reducible first | exact ih0 _ _ _ _ _ _ _ _ | exact ih1 _ _ _ _ _ _ _ _ _ _ _ _ _ | exact LeO.refl _ | exact LeO.none _ | refine LeO.ite ?_ ?_ | refine LeO.bind ?_ (fun _ => ?_))
  ·intro y0 y1 y2 y3 y4 y5 y6 y7 y8 y9 y10 y11 y12
   unfold cells_Make.j1
   repeat' (with_reducible first | exact ih0 _ _ _ _ _ _ _ _ | exact ih1 _ _ _ _ _ _ _ _ _ _ _ _ _ | exact LeO.refl _ | exact LeO.none _ | refine LeO.ite ?_ ?_ | refine LeO.bind ?_ (fun _ => ?_))
theorem cells_Make.mono : ∀ a0 a1 a2 k, LeO (cells_Make.f k a0 a1 a2) (cells_Make.f (k + 1) a0 a1 a2) := by
 intro a0 a1 a2 k
 obtain ⟨ih0, ih1⟩ := cells_Make.mono_l k; unfold cells_Make.f
 repeat' (with_reducible first | exact ih0 _ _ _ _ _ _ _ _ | exact ih1 _ _ _ _ _ _ _ _ _ _ _ _ _ | exact LeO.refl _ | exact LeO.none _ | refine LeO.ite ?_ ?_ | refine LeO.bind ?_ (fun _ => ?_))
def cells_Make.T7 : Bool × List (List Nat × List Nat) := (true, [([], []), ([], []), ([1], [1]), ([], []), ([3], [3]), ([4], [4]), ([2, 5], [2, 5]), ([6], [6]), ([0, 7, 5], [0, 7]), ([8, 8, 0, 1, 2, 3, 4, 5, 6, 7, 8], [0, 8])])
def cells_Make.B7 : List Nat := [0, 0, 2, 0, 8, 24, 62, 126, 255, 511]
theorem cells_Make.tab7 : rtab .any (opsOf Try.f17 7) = cells_Make.T7 := by kernel_rfl
theorem cells_Make.bits7 : waitsOk cells_Make.T7.2 cells_Make.B7 = true := by kernel_rfl
def cells_Make.T12 : Bool × List (List Nat × List Nat) := (true, [([], []), ([0], [0]), ([1], [1]), ([2], [2]), ([], []), ([4], [4]), ([3, 5], [3, 5]), ([0, 0, 1, 2, 3, 4, 5, 6], [0]), ([7, 0, 1, 2, 3, 4, 5, 6], [7]), ([8, 6, 0, 1, 2, 3, 4, 5, 6], [6, 8])])
def cells_Make.B12 : List Nat := [0, 1, 3, 7, 0, 16, 63, 127, 255, 511]
theorem cells_Make.tab12 : rtab .any (opsOf Try.f17 12) = cells_Make.T12 := by kernel_rfl
theorem cells_Make.bits12 : waitsOk cells_Make.T12.2 cells_Make.B12 = true := by kernel_rfl
def cells_Make.T13 : Bool × List (List Nat × List Nat) := (true, [([], []), ([], []), ([1], [1]), ([2], [2]), ([3], [3]), ([], []), ([], []), ([6], [6]), ([5, 7], [5, 7]), ([8], [8]), ([4, 9], [4, 9]), ([0, 0, 1, 2, 3, 4, 5, 6, 7, 8, 9, 10], [0]), ([11, 0, 1, 2, 3, 4, 5, 6, 7, 8, 9, 10], [11]), ([12, 10, 8, 0, 1, 2, 3, 4, 5, 6, 7, 8, 9, 10], [10, 12])])
def cells_Make.B13 : List Nat := [0, 0, 2, 6, 14, 0, 0, 64, 224, 480, 1022, 2047, 4095, 8191]
theorem cells_Make.tab13 : rtab .any (opsOf Try.f17 13) = cells_Make.T13 := by kernel_rfl
theorem cells_Make.bits13 : waitsOk cells_Make.T13.2 cells_Make.B13 = true := by kernel_rfl
set_option maxHeartbeats 8000000 in
set_option maxRecDepth 100000 in
theorem cells_Make.calls (k : Nat) (A0 : Option Addr) (c0 : Nat) (l0 : List (S50)) (A1 : Option Addr) (c1 : Nat) (l1 : List Int) (vt2_ : Value) (a2 : Option (List (Int × Int × Int))) (r1 : List (S48)) (r2 : List Int) (w : World) (hr0 : Kd.C k50 w A0 l0.length l0) (hc0 : l0.length ≤ c0) (hr1 : Kd.C (Kd.int .u8) w A1 l1.length l1) (hc1 : l1.length ≤ c1) (hta2 : TabAt w a2 vt2_) (h : cells_Make.f k l0 l1 a2 = some (r1, r2)) :
  Calls Try.prog 17 #[.slice A0 l0.length c0, .slice A1 l1.length c1, vt2_] w fun e w' => ∃ v0_ v1_ : Value, e = .returned (.tuple #[v0_, v1_]) ∧ Kd.R k48 48 w' w.heap.size (fun _ => True) v0_ r1 ∧ Kd.R (Kd.int .i64) 3 w' w.heap.size (fun _ => True) v1_ r2 ∧ Below w.heap.size w w' := by
 have hu50 := Try.underlying50; have hu48 := Try.underlying48; have HR0 := zA.mk hr0; have HC0 := zA.mk hc0; clear hr0 hc0; have HR1 := zA.mk hr1; have HC1 := zA.mk hc1; clear hr1 hc1; have HTa2 := zA.mk hta2; clear hta2; have HB := zA.mk (Below.refl w.heap.size w); have H : (cells_Make.l0 k l0 l1 a2 ([] : List (S48)) ([] : List Int) l0 (l0.length : Int) 0) = some (r1, r2) := h
 clear h; have H' := zA.mk H
 clear H; go_enter Try.func17, Try.ntmps17
 go_wp2
 go_loopg [8, 9, 15] k (fun kq v8 v9 v15 w' => ∃ (x8_1 : List (S48)) (x9_1 : List Int) (x15_1 : Int), v15 = .int .i64 x15_1 ∧ zA (cells_Make.l0 kq l0 l1 a2 x8_1 x9_1 l0 (l0.length : Int) x15_1 = some (r1, r2)) ∧ zA (kq ≤ k) ∧ zA (Kd.R k48 48 w' w.heap.size (fun _ => True) v8 x8_1) ∧ zA (Kd.R (Kd.int .i64) 3 w' w.heap.size (fun _ => True) v9 x9_1) ∧ zA (Below w.heap.size w w'))
 case atStart => exact ⟨(([] : List (S48))), (([] : List Int)), (0), aZ, H', ⟨Nat.le_refl _⟩, ⟨by first | exact Kd.R_nil _ _ _ _ _ | exact Kd.N_nil _ _ _ _ _ | exact Kd.V_nil _ _ _ _ _ | exact Kd.Q_nil _ _ _ _ _ | exact Kd.S_nil _ _ _ _ _⟩, ⟨by first | exact Kd.R_nil _ _ _ _ _ | exact Kd.N_nil _ _ _ _ _ | exact Kd.V_nil _ _ _ _ _ | exact Kd.Q_nil _ _ _ _ _ | exact Kd.S_nil _ _ _ _ _⟩, ⟨aL HB⟩⟩
 clear H'; obtain ⟨x8_1, x9_1, x15_1, rfl, HA, HK1, HO_8, HO_9, HB⟩ := hrel; cases gk with
 | zero => exact absurd HA.out (by simp [cells_Make.l0])
 | succ k1 =>
  have H := HA.out; clear HA; simp only [cells_Make.l0] at H; by_cases c4 : x15_1 < (l0.length : Int)
  rotate_left
  ·rw [if_neg c4] at H
   have c4b0 : decide (x15_1 < (l0.length : Int)) = false := decide_eq_false c4
   clear c4; by_cases c91 : x9_1.length < 17592186044416
   rotate_left
   ·rw [if_neg c91] at H
    exact absurd H (by simp)
   rw [if_pos c91] at H; have LMc91 := zA.mk c91; clear c91; obtain ⟨y151, hy151⟩ : ∃ y_ : List Int, y_ = (x9_1 ++ [(l0.length : Int)]) := ⟨_, rfl⟩; replace H : (some (x8_1, y151)) = some (r1, r2) := by first | (rw [hy151]; with_reducible exact H) | (have H2_ := (Option.bind_some _ _).symm.trans H; rw [hy151]; with_reducible exact H2_) | (have H2_ := (Option.bind_some _ _).symm.trans H; with_reducible exact H2_) | with_reducible exact H | (rw [hy151]; exact H) | exact H
   have Ny151 := zA.mk hy151; clear hy151; simp only [Option.some.injEq, Prod.mk.injEq] at H; obtain ⟨rfl, rfl⟩ := H; go_wp2_with (first | ((with_reducible refine gate_builtin (b := .append) (xs := #[.tmp 88, .tmp 91]) rfl ?_); (try (refine gate_guard (by rfl) ?_; dsimp only)); at_builtin; refine Kd.R_append (Kd.int .i64) (w0 := w) w.heap.size rfl (.tmp 88) (.tmp 91) 35 3 (.int .i64 0) 8 rfl Try.underlying35 info3 rfl (by decide) (by omega) u9 x9_1 (l0.length : Int) [.int .i64 (l0.length : Int)] (fun _ => True) (fun _ => False) rfl rfl ?aP (fun _ hk => hk.elim) ?aF ?aO ?aB ?aS ?aL ?_; (case aP => exact rfl); (case aB => exact (aL HB)); (case aF => exact (fun _ _ => trivial)); (case aO => exact (aR HO_9)); (case aS => exact (below_size (aL HB))); (case aL => have := LMc91.out; omega); intro v152 w92 ho hb hg hat; rw [← Ny151.out] at ho; replace HO_8 := zA.mk (Kd.R_over' (aR HO_8) (Kd.R_typed (aR HO_9)) (by decide) hg); replace HB := zA.mk (hb); have HO153 := zA.mk (ho); clear HO_9; clear ho hb hg hat))
   go_ret2
   exact ⟨_, _, aX, aR HO_8, aR HO153, aL HB⟩
  rw [if_pos c4] at H; have c4b0 : decide (x15_1 < (l0.length : Int)) = true := decide_eq_true c4
  clear c4; by_cases c5 : 0 ≤ x15_1
  rotate_left
  ·rw [if_neg c5] at H
   exact absurd H (by simp)
  rw [if_pos c5] at H; have c5b0 : decide (0 ≤ x15_1) = true := decide_eq_true c5
  clear c5; by_cases c6 : x15_1 < (l0.length : Int)
  rotate_left
  ·rw [if_neg c6] at H
   exact absurd H (by simp)
  rw [if_pos c6] at H; have c6b0 : decide (x15_1 < (l0.length : Int)) = true := decide_eq_true c6
  clear c6; have HC7 := zA.mk H; clear H; have p154 : 0 ≤ (x15_1 : Int) := aD
  have q154 : x15_1 < (l0.length : Int) := aD
  obtain ⟨ad154, e154, hx154_0, hx154_1, hx154_2⟩ := at_T50 HR0.out x15_1 p154 q154; cases e154
  replace hx154_0 := (HB.out.cell (World.block_lt_of_cell? w _ hx154_0)).trans hx154_0; replace hx154_1 := (HB.out.cell (World.block_lt_of_cell? w _ hx154_1)).trans hx154_1; replace hx154_2 := (HB.out.cell (World.block_lt_of_cell? w _ hx154_2)).trans hx154_2; replace p154 := eq_true p154; replace q154 := eq_true q154; go_upto_region 6 with (first | ((with_reducible refine gate_dst (N := 11) rfl ?_); (try (refine gate_guard (by rfl) ?_; dsimp only)); refine box_event ?hg (N := 11) ?hd (cs := #[.int .i32 0, .int .i64 0, .int .i64 0]) (t := 50) ?hr ?_; (case hd => rfl); (case hg => rfl); (case hr => first | (go_simp; done) | (go_simp; rfl)); intro gb155 hg w8 hbox hb; replace HO_8 := zA.mk (Kd.zO (aR HO_8) hb); replace HO_9 := zA.mk (Kd.zO (aR HO_9) hb); have BK155 := zA.mk (hbox); have GW155 := zA.mk ((by rw [hg]; exact (below_size (aL HB)) : w.heap.size ≤ gb155)); replace HB := zA.mk (below_step (aL HB) hb); have GE155 := GW155; clear hb hbox hg; obtain ⟨hcz9_0, hcz9_1, hcz9_2, hfz9_0, hfz9_1, hfz9_2⟩ := aC3 BK155) | ((with_reducible refine gate_store (t := 50) (p := 11) rfl ?_); refine store_event (t := 50) (p := 11) (v := ?vo_w10) (w1 := (((w8.setCell ⟨gb155, 0, none⟩ (.int .i32 ((rd_T50 l0 x15_1).f0))).setCell ⟨gb155, 1, none⟩ (.int .i64 ((rd_T50 l0 x15_1).f1))).setCell ⟨gb155, 2, none⟩ (.int .i64 ((rd_T50 l0 x15_1).f2)))) ?hg ?ho ?hn ?hr ?_; (case ho => rfl); (case hg => rfl); (case hn => rfl); (case hr => first | (go_simp; done) | (go_simp; rfl)); intro w10 hw; have n0_ : zA (Kd.R k48 48 w10 w.heap.size (fun _ => True) u8 x8_1) := ⟨(by rw [hw]; exact (by (with_reducible repeat (first | apply Kd.zG | apply Kd.zH | apply Kd.zI)); exact Kd.zS (Kd.zP (p := ⟨gb155, 2, none⟩) (Kd.zP (p := ⟨gb155, 1, none⟩) (Kd.zP (p := ⟨gb155, 0, none⟩) (Kd.zT HO_8.out BK155.out (by decide)) (fun _ hk => hk.2) (.int .i32 ((rd_T50 l0 x15_1).f0))) (fun _ hk => hk.2) (.int .i64 ((rd_T50 l0 x15_1).f1))) (fun _ hk => hk.2) (.int .i64 ((rd_T50 l0 x15_1).f2))) (fun _ hk => trivial)))⟩; have n1_ : zA (Kd.R (Kd.int .i64) 3 w10 w.heap.size (fun _ => True) u9 x9_1) := ⟨(by rw [hw]; exact (by (with_reducible repeat (first | apply Kd.zG | apply Kd.zH | apply Kd.zI)); exact Kd.zS (Kd.zP (p := ⟨gb155, 2, none⟩) (Kd.zP (p := ⟨gb155, 1, none⟩) (Kd.zP (p := ⟨gb155, 0, none⟩) (Kd.zT HO_9.out BK155.out (by decide)) (fun _ hk => hk.2) (.int .i32 ((rd_T50 l0 x15_1).f0))) (fun _ hk => hk.2) (.int .i64 ((rd_T50 l0 x15_1).f1))) (fun _ hk => hk.2) (.int .i64 ((rd_T50 l0 x15_1).f2))) (fun _ hk => trivial)))⟩; have n2_ : zA (w10.heap[gb155]? = some (.cells #[.int .i32 ((rd_T50 l0 x15_1).f0), .int .i64 ((rd_T50 l0 x15_1).f1), .int .i64 ((rd_T50 l0 x15_1).f2)] 50 (0, 0))) := ⟨(by rw [hw]; exact (by (with_reducible repeat (first | refine zD ?_ _ | refine zC ?_ | refine zB ?_ _)); refine blk_put (cs := #[.int .i32 ((rd_T50 l0 x15_1).f0), .int .i64 ((rd_T50 l0 x15_1).f1), .int .i64 0]) ?_ 2 _ rfl; (with_reducible repeat (first | refine zD ?_ _ | refine zC ?_ | refine zB ?_ _)); refine blk_put (cs := #[.int .i32 ((rd_T50 l0 x15_1).f0), .int .i64 0, .int .i64 0]) ?_ 1 _ rfl; (with_reducible repeat (first | refine zD ?_ _ | refine zC ?_ | refine zB ?_ _)); refine blk_put (cs := #[.int .i32 0, .int .i64 0, .int .i64 0]) ?_ 0 _ rfl; (with_reducible repeat (first | refine zD ?_ _ | refine zC ?_ | refine zB ?_ _)); exact BK155.out))⟩; have n3_ : zA (Below w.heap.size w w10) := ⟨(by rw [hw]; exact (aL HB))⟩; clear hw; clear HO_8; clear HO_9; clear BK155; clear HB; have HO_8 := n0_; have HO_9 := n1_; have BK155 := n2_; have HB := n3_; clear n0_ n1_ n2_ n3_))
  (try simp only [Act.put, sA_, sB_, sC_])
  go_cut [34] (fun v34 wc => ∃ (kq : Nat) (x34_6 : Bool), v34 = .bool x34_6 ∧ zA (cells_Make.j1 kq l0 l1 a2 x8_1 x9_1 x15_1 l0 (l0.length : Int) x15_1 x34_6 ((rd_T50 l0 x15_1).f0) ((rd_T50 l0 x15_1).f1) ((rd_T50 l0 x15_1).f2) = some (r1, r2)) ∧ zA (kq ≤ k1) ∧ zA (Kd.R k48 48 wc w.heap.size (fun _ => True) u8 x8_1) ∧ zA (Kd.R (Kd.int .i64) 3 wc w.heap.size (fun _ => True) u9 x9_1) ∧ zA (wc.heap[gb155]? = some (.cells #[.int .i32 ((rd_T50 l0 x15_1).f0), .int .i64 ((rd_T50 l0 x15_1).f1), .int .i64 ((rd_T50 l0 x15_1).f2)] 50 (0, 0))) ∧ zA (Below w.heap.size w wc))
  case first =>
   have H := HC7.out; clear HC7; by_cases c11 : x15_1 = 0
   ·rw [if_pos c11] at H
    have c11b0 : (x15_1 == 0) = true := beq_iff_eq.mpr c11
    have c11b1 : (x15_1 != 0) = false := bne_eq_false_iff_eq.mpr c11
    clear c11; (first | rw [c11b0] | (simp only [i64_w, i32_w]; rw [c11b0]) | skip)
    have H' := zA.mk H
    clear H; go_wp2
    go_meet
    case rel => exact ⟨_, (true), aZ, H', ⟨by have := HK1.out; first | omega | exact Nat.le_refl _⟩, ⟨aR HO_8⟩, ⟨aR HO_9⟩, ⟨aB BK155⟩, ⟨aL HB⟩⟩
   rw [if_neg c11] at H; have c11b0 : (x15_1 == 0) = false := beq_eq_false_iff_ne.mpr c11
   have c11b1 : (x15_1 != 0) = true := bne_iff_ne.mpr c11
   (first | rw [c11b0] | (simp only [i64_w, i32_w]; rw [c11b0]) | skip)
   by_cases c12 : x15_1 < (l1.length : Int)
   rotate_left
   ·rw [if_neg c12] at H
    have c12b0 : decide (x15_1 < (l1.length : Int)) = false := decide_eq_false c12
    clear c12; have H' := zA.mk H
    clear H; go_wp2
    go_meet
    case rel => exact ⟨_, (false), aZ, H', ⟨by have := HK1.out; first | omega | exact Nat.le_refl _⟩, ⟨aR HO_8⟩, ⟨aR HO_9⟩, ⟨aB BK155⟩, ⟨aL HB⟩⟩
   rw [if_pos c12] at H; have c12b0 : decide (x15_1 < (l1.length : Int)) = true := decide_eq_true c12
   clear c12; have H' := zA.mk H
   clear H; have p156 : 0 ≤ (x15_1 : Int) := aD
   have q156 : x15_1 < (l1.length : Int) := aD
   obtain ⟨ad156, e156, hx156_0⟩ := Kd.at_int HR1.out x15_1 p156 q156; cases e156
   replace hx156_0 := (HB.out.cell (World.block_lt_of_cell? w _ hx156_0)).trans hx156_0; replace p156 := eq_true p156; replace q156 := eq_true q156; go_wp2
   go_meet
   case rel => exact ⟨_, (((rd l1 x15_1) != 0)), aZ, H', ⟨by have := HK1.out; first | omega | exact Nat.le_refl _⟩, ⟨aR HO_8⟩, ⟨aR HO_9⟩, ⟨aB BK155⟩, ⟨aL HB⟩⟩
  clear HC7; obtain ⟨kq, x34_6, rfl, HA, HJ6, HO_8, HO_9, BK155, HB⟩ := hcut; cases kq with
  | zero => exact absurd HA.out (by simp [cells_Make.j1])
  | succ kj6 =>
   have H := HA.out; clear HA; simp only [cells_Make.j1] at H; by_cases c13 : x34_6 = true
   rotate_left
   ·replace c13 := Bool.eq_false_iff.mpr c13
    subst c13; have H1 : (if 0 ≤ (wrap64 ((x8_1.length : Int) - 1)) then (if (wrap64 ((x8_1.length : Int) - 1)) < (x8_1.length : Int) then (if 0 ≤ (wrap64 ((x9_1.length : Int) - 1)) then (if (wrap64 ((x9_1.length : Int) - 1)) < (x9_1.length : Int) then (if (rd x9_1 (wrap64 ((x9_1.length : Int) - 1))) = x15_1 then ((some (x8_1.set ((wrap64 ((x8_1.length : Int) - 1)) : Int).toNat (⟨(rd_T48 x8_1 (wrap64 ((x8_1.length : Int) - 1))).f0, wrap64 (((rd_T48 x8_1 (wrap64 ((x8_1.length : Int) - 1))).f1) + ((rd_T50 l0 x15_1).f2)), (rd_T48 x8_1 (wrap64 ((x8_1.length : Int) - 1))).f2, (rd_T48 x8_1 (wrap64 ((x8_1.length : Int) - 1))).f3⟩ : S48) : List (S48))).bind fun y180 => ((prop_Table_Of.f a2 ((rd_T50 l0 x15_1).f0)).bind fun t182 => (cells_Make.l0 kj6 l0 l1 a2 (y180.set ((wrap64 ((x8_1.length : Int) - 1)) : Int).toNat (⟨(rd_T48 y180 (wrap64 ((x8_1.length : Int) - 1))).f0, (rd_T48 y180 (wrap64 ((x8_1.length : Int) - 1))).f1, mx ((rd_T48 y180 (wrap64 ((x8_1.length : Int) - 1))).f2) (mn t182 2), (rd_T48 y180 (wrap64 ((x8_1.length : Int) - 1))).f3⟩ : S48)) x9_1 l0 (l0.length : Int) (wrap64 (x15_1 + 1))))) else ((some (x8_1.set ((wrap64 ((x8_1.length : Int) - 1)) : Int).toNat (⟨(rd_T48 x8_1 (wrap64 ((x8_1.length : Int) - 1))).f0, (rd_T48 x8_1 (wrap64 ((x8_1.length : Int) - 1))).f1, (rd_T48 x8_1 (wrap64 ((x8_1.length : Int) - 1))).f2, 0⟩ : S48) : List (S48))).bind fun y184 => ((some (y184.set ((wrap64 ((x8_1.length : Int) - 1)) : Int).toNat (⟨(rd_T48 y184 (wrap64 ((x8_1.length : Int) - 1))).f0, wrap64 (((rd_T48 y184 (wrap64 ((x8_1.length : Int) - 1))).f1) + ((rd_T50 l0 x15_1).f2)), (rd_T48 y184 (wrap64 ((x8_1.length : Int) - 1))).f2, (rd_T48 y184 (wrap64 ((x8_1.length : Int) - 1))).f3⟩ : S48) : List (S48))).bind fun y186 => ((prop_Table_Of.f a2 ((rd_T50 l0 x15_1).f0)).bind fun t188 => (cells_Make.l0 kj6 l0 l1 a2 (y186.set ((wrap64 ((x8_1.length : Int) - 1)) : Int).toNat (⟨(rd_T48 y186 (wrap64 ((x8_1.length : Int) - 1))).f0, (rd_T48 y186 (wrap64 ((x8_1.length : Int) - 1))).f1, mx ((rd_T48 y186 (wrap64 ((x8_1.length : Int) - 1))).f2) (mn t188 2), (rd_T48 y186 (wrap64 ((x8_1.length : Int) - 1))).f3⟩ : S48)) x9_1 l0 (l0.length : Int) (wrap64 (x15_1 + 1))))))) else (none)) else (none)) else (none)) else (none)) = some (r1, r2) := by rw [if_neg (show ¬ (false = true) by decide)] at H; exact H
    clear H; have H := H1; clear H1; obtain ⟨ji57, hji57⟩ : ∃ j_ : Int, (wrap64 ((x8_1.length : Int) - 1)) = j_ := ⟨_, rfl⟩; replace H : (if 0 ≤ (ji57) then (if (ji57) < (x8_1.length : Int) then (if 0 ≤ (wrap64 ((x9_1.length : Int) - 1)) then (if (wrap64 ((x9_1.length : Int) - 1)) < (x9_1.length : Int) then (if (rd x9_1 (wrap64 ((x9_1.length : Int) - 1))) = x15_1 then ((some (x8_1.set ((ji57) : Int).toNat (⟨(rd_T48 x8_1 (ji57)).f0, wrap64 (((rd_T48 x8_1 (ji57)).f1) + ((rd_T50 l0 x15_1).f2)), (rd_T48 x8_1 (ji57)).f2, (rd_T48 x8_1 (ji57)).f3⟩ : S48) : List (S48))).bind fun y180 => ((prop_Table_Of.f a2 ((rd_T50 l0 x15_1).f0)).bind fun t182 => (cells_Make.l0 kj6 l0 l1 a2 (y180.set ((ji57) : Int).toNat (⟨(rd_T48 y180 (ji57)).f0, (rd_T48 y180 (ji57)).f1, mx ((rd_T48 y180 (ji57)).f2) (mn t182 2), (rd_T48 y180 (ji57)).f3⟩ : S48)) x9_1 l0 (l0.length : Int) (wrap64 (x15_1 + 1))))) else ((some (x8_1.set ((ji57) : Int).toNat (⟨(rd_T48 x8_1 (ji57)).f0, (rd_T48 x8_1 (ji57)).f1, (rd_T48 x8_1 (ji57)).f2, 0⟩ : S48) : List (S48))).bind fun y184 => ((some (y184.set ((ji57) : Int).toNat (⟨(rd_T48 y184 (ji57)).f0, wrap64 (((rd_T48 y184 (ji57)).f1) + ((rd_T50 l0 x15_1).f2)), (rd_T48 y184 (ji57)).f2, (rd_T48 y184 (ji57)).f3⟩ : S48) : List (S48))).bind fun y186 => ((prop_Table_Of.f a2 ((rd_T50 l0 x15_1).f0)).bind fun t188 => (cells_Make.l0 kj6 l0 l1 a2 (y186.set ((ji57) : Int).toNat (⟨(rd_T48 y186 (ji57)).f0, (rd_T48 y186 (ji57)).f1, mx ((rd_T48 y186 (ji57)).f2) (mn t188 2), (rd_T48 y186 (ji57)).f3⟩ : S48)) x9_1 l0 (l0.length : Int) (wrap64 (x15_1 + 1))))))) else (none)) else (none)) else (none)) else (none)) = some (r1, r2) := by first | (rw [hji57] at H; exact H) | (simp only [hji57] at H ⊢; exact H)
    have hji57w : (IntKind.i64.wrap ((x8_1.length : Int) - 1)) = ji57 := (i64_w _).trans hji57
    by_cases c58 : 0 ≤ (ji57)
    rotate_left
    ·rw [if_neg c58] at H
     exact absurd H (by simp)
    rw [if_pos c58] at H; have c58b0 : decide (0 ≤ (ji57)) = true := decide_eq_true c58
    clear c58; by_cases c59 : (ji57) < (x8_1.length : Int)
    rotate_left
    ·rw [if_neg c59] at H
     exact absurd H (by simp)
    rw [if_pos c59] at H; have c59b0 : decide ((ji57) < (x8_1.length : Int)) = true := decide_eq_true c59
    clear c59; obtain ⟨ji60, hji60⟩ : ∃ j_ : Int, (wrap64 ((x9_1.length : Int) - 1)) = j_ := ⟨_, rfl⟩; replace H : (if 0 ≤ (ji60) then (if (ji60) < (x9_1.length : Int) then (if (rd x9_1 (ji60)) = x15_1 then ((some (x8_1.set ((ji57) : Int).toNat (⟨(rd_T48 x8_1 (ji57)).f0, wrap64 (((rd_T48 x8_1 (ji57)).f1) + ((rd_T50 l0 x15_1).f2)), (rd_T48 x8_1 (ji57)).f2, (rd_T48 x8_1 (ji57)).f3⟩ : S48) : List (S48))).bind fun y180 => ((prop_Table_Of.f a2 ((rd_T50 l0 x15_1).f0)).bind fun t182 => (cells_Make.l0 kj6 l0 l1 a2 (y180.set ((ji57) : Int).toNat (⟨(rd_T48 y180 (ji57)).f0, (rd_T48 y180 (ji57)).f1, mx ((rd_T48 y180 (ji57)).f2) (mn t182 2), (rd_T48 y180 (ji57)).f3⟩ : S48)) x9_1 l0 (l0.length : Int) (wrap64 (x15_1 + 1))))) else ((some (x8_1.set ((ji57) : Int).toNat (⟨(rd_T48 x8_1 (ji57)).f0, (rd_T48 x8_1 (ji57)).f1, (rd_T48 x8_1 (ji57)).f2, 0⟩ : S48) : List (S48))).bind fun y184 => ((some (y184.set ((ji57) : Int).toNat (⟨(rd_T48 y184 (ji57)).f0, wrap64 (((rd_T48 y184 (ji57)).f1) + ((rd_T50 l0 x15_1).f2)), (rd_T48 y184 (ji57)).f2, (rd_T48 y184 (ji57)).f3⟩ : S48) : List (S48))).bind fun y186 => ((prop_Table_Of.f a2 ((rd_T50 l0 x15_1).f0)).bind fun t188 => (cells_Make.l0 kj6 l0 l1 a2 (y186.set ((ji57) : Int).toNat (⟨(rd_T48 y186 (ji57)).f0, (rd_T48 y186 (ji57)).f1, mx ((rd_T48 y186 (ji57)).f2) (mn t188 2), (rd_T48 y186 (ji57)).f3⟩ : S48)) x9_1 l0 (l0.length : Int) (wrap64 (x15_1 + 1))))))) else (none)) else (none)) = some (r1, r2) := by first | (rw [hji60] at H; exact H) | (simp only [hji60] at H ⊢; exact H)
    have hji60w : (IntKind.i64.wrap ((x9_1.length : Int) - 1)) = ji60 := (i64_w _).trans hji60
    by_cases c61 : 0 ≤ (ji60)
    rotate_left
    ·rw [if_neg c61] at H
     exact absurd H (by simp)
    rw [if_pos c61] at H; have c61b0 : decide (0 ≤ (ji60)) = true := decide_eq_true c61
    clear c61; by_cases c62 : (ji60) < (x9_1.length : Int)
    rotate_left
    ·rw [if_neg c62] at H
     exact absurd H (by simp)
    rw [if_pos c62] at H; have c62b0 : decide ((ji60) < (x9_1.length : Int)) = true := decide_eq_true c62
    clear c62; by_cases c63 : (rd x9_1 (ji60)) = x15_1
    ·rw [if_pos c63] at H
     have c63b0 : ((rd x9_1 (ji60)) == x15_1) = true := beq_iff_eq.mpr c63
     have c63b1 : ((rd x9_1 (ji60)) != x15_1) = false := bne_eq_false_iff_eq.mpr c63
     clear c63; obtain ⟨y180, hy180⟩ : ∃ y_ : List (S48), y_ = (x8_1.set ((ji57) : Int).toNat (⟨(rd_T48 x8_1 (ji57)).f0, wrap64 (((rd_T48 x8_1 (ji57)).f1) + ((rd_T50 l0 x15_1).f2)), (rd_T48 x8_1 (ji57)).f2, (rd_T48 x8_1 (ji57)).f3⟩ : S48)) := ⟨_, rfl⟩; replace H : ((prop_Table_Of.f a2 ((rd_T50 l0 x15_1).f0)).bind fun t182 => (cells_Make.l0 kj6 l0 l1 a2 (y180.set ((ji57) : Int).toNat (⟨(rd_T48 y180 (ji57)).f0, (rd_T48 y180 (ji57)).f1, mx ((rd_T48 y180 (ji57)).f2) (mn t182 2), (rd_T48 y180 (ji57)).f3⟩ : S48)) x9_1 l0 (l0.length : Int) (wrap64 (x15_1 + 1)))) = some (r1, r2) := by first | (rw [hy180]; with_reducible exact H) | (have H2_ := (Option.bind_some _ _).symm.trans H; rw [hy180]; with_reducible exact H2_) | (have H2_ := (Option.bind_some _ _).symm.trans H; with_reducible exact H2_) | with_reducible exact H | (rw [hy180]; exact H) | exact H
     have Ny180 := zA.mk hy180; clear hy180; replace H := Option.bind_eq_some_iff.mp H; obtain ⟨t182, A650, H⟩ := H; replace H : (cells_Make.l0 kj6 l0 l1 a2 (y180.set ((ji57) : Int).toNat (⟨(rd_T48 y180 (ji57)).f0, (rd_T48 y180 (ji57)).f1, mx ((rd_T48 y180 (ji57)).f2) (mn t182 2), (rd_T48 y180 (ji57)).f3⟩ : S48)) x9_1 l0 (l0.length : Int) (wrap64 (x15_1 + 1))) = some (r1, r2) := H; have A65 := zA.mk A650; clear A650; obtain ⟨ji66, hji66⟩ : ∃ j_ : Int, (mn t182 2) = j_ := ⟨_, rfl⟩; replace H : (cells_Make.l0 kj6 l0 l1 a2 (y180.set ((ji57) : Int).toNat (⟨(rd_T48 y180 (ji57)).f0, (rd_T48 y180 (ji57)).f1, mx ((rd_T48 y180 (ji57)).f2) (ji66), (rd_T48 y180 (ji57)).f3⟩ : S48)) x9_1 l0 (l0.length : Int) (wrap64 (x15_1 + 1))) = some (r1, r2) := by first | (rw [hji66] at H; exact H) | (simp only [hji66] at H ⊢; exact H)
     (try rw [hji66] at A65)
     (try (have hji66h : ji66 ≤ 2 := by (rw [← hji66]; unfold mn; (repeat' split) <;> omega)))
     (try (have hji66g : ji66 ≤ 64 := by omega))
     have hji66_ : (if 2 < t182 then 2 else t182) = ji66 := hji66
     obtain ⟨ji67, hji67⟩ : ∃ j_ : Int, (mx ((rd_T48 y180 (ji57)).f2) (ji66)) = j_ := ⟨_, rfl⟩; replace H : (cells_Make.l0 kj6 l0 l1 a2 (y180.set ((ji57) : Int).toNat (⟨(rd_T48 y180 (ji57)).f0, (rd_T48 y180 (ji57)).f1, ji67, (rd_T48 y180 (ji57)).f3⟩ : S48)) x9_1 l0 (l0.length : Int) (wrap64 (x15_1 + 1))) = some (r1, r2) := by first | (rw [hji67] at H; exact H) | (simp only [hji67] at H ⊢; exact H)
     (try rw [hji67] at A65)
     have hji67_ : (if ((rd_T48 y180 (ji57)).f2) < (ji66) then (ji66) else ((rd_T48 y180 (ji57)).f2)) = ji67 := hji67
     obtain ⟨y183, hy183⟩ : ∃ y_ : List (S48), y_ = (y180.set ((ji57) : Int).toNat (⟨(rd_T48 y180 (ji57)).f0, (rd_T48 y180 (ji57)).f1, ji67, (rd_T48 y180 (ji57)).f3⟩ : S48)) := ⟨_, rfl⟩; replace H : (cells_Make.l0 kj6 l0 l1 a2 y183 x9_1 l0 (l0.length : Int) (wrap64 (x15_1 + 1))) = some (r1, r2) := by first | (rw [hy183]; with_reducible exact H) | (have H2_ := (Option.bind_some _ _).symm.trans H; rw [hy183]; with_reducible exact H2_) | (have H2_ := (Option.bind_some _ _).symm.trans H; with_reducible exact H2_) | with_reducible exact H | (rw [hy183]; exact H) | exact H
     have Ny183 := zA.mk hy183; clear hy183; have H' := zA.mk H
     clear H; obtain ⟨Ao69, co69, eo69⟩ := Kd.zQ HO_8.out; subst eo69; have p177 : 0 ≤ ((ji57) : Int) := aD
     have q177 : (ji57) < (x8_1.length : Int) := aD
     obtain ⟨ad177, e177, hx177_0, hx177_1, hx177_2, hx177_3⟩ := at_T48 (Kd.zN HO_8.out).2.2 (ji57) p177 q177; cases e177
     replace p177 := eq_true p177; replace q177 := eq_true q177; obtain ⟨Ao70, co70, eo70⟩ := Kd.zQ HO_9.out; subst eo70; have p178 : 0 ≤ ((ji60) : Int) := aD
     have q178 : (ji60) < (x9_1.length : Int) := aD
     obtain ⟨ad178, e178, hx178_0⟩ := Kd.at_int (Kd.zN HO_9.out).2.2 (ji60) p178 q178; cases e178
     replace p178 := eq_true p178; replace q178 := eq_true q178; try go_wp2
     replace HO_8 := zA.mk (Kd.zI HO_8.out); replace HO_9 := zA.mk (Kd.zI HO_9.out); replace BK155 := zA.mk (zC BK155.out); replace HB := zA.mk (below_drew1 HB.out); have p179 : 0 ≤ ((ji57) : Int) := aD
     have q179 : (ji57) < (x8_1.length : Int) := aD
     obtain ⟨ad179, e179, hx179_0, hx179_1, hx179_2, hx179_3⟩ := at_T48 (Kd.zN HO_8.out).2.2 (ji57) p179 q179; obtain rfl : ad177 = ad179 := (by injection e179)
     replace p179 := eq_true p179; replace q179 := eq_true q179; have p64 : 0 ≤ ((ji57) : Int) := aD
     have q64 : ((ji57) : Int) < ((x8_1.length : Int) : Int) := aD
     obtain ⟨go64, co64, eo64, gb64, gl64, cl64, HG64⟩ := Kd.R_form HO_8.out (by omega)
     (first | cases eo64 | (injection eo64 with ea_ en_ ec_; (first | subst ea_ | (injection ea_ with ea_; subst ea_)); subst ec_; clear en_))
     have GB64 := zA.mk gb64; have GG64 := zA.mk HG64; clear gb64 gl64 HG64; (first | simp only [add_plain] at hx177_0 | skip)
     (first | simp only [add_plain] at hx177_1 | skip)
     (first | simp only [add_plain] at hx177_2 | skip)
     (first | simp only [add_plain] at hx177_3 | skip)
     (first | simp only [add_plain] at hx179_0 | skip)
     (first | simp only [add_plain] at hx179_1 | skip)
     (first | simp only [add_plain] at hx179_2 | skip)
     (first | simp only [add_plain] at hx179_3 | skip)
     obtain ⟨ce64, hcl64, hM64, hcc64, hfr64⟩ := Kd.R_elem HO_8.out z48 ((ji57) : Int) p64 q64; obtain rfl := k48_openM hM64
     have hx64_0 : World.cell? _ ⟨go64, ((ji57) : Int).toNat * 4, none⟩ = some (.int .i64 ((rd_T48 x8_1 (ji57)).f0)) := hcc64 0 _ rfl
     have hx64_1 : World.cell? _ ⟨go64, ((ji57) : Int).toNat * 4 + 1, none⟩ = some (.int .i64 ((rd_T48 x8_1 (ji57)).f1)) := hcc64 1 _ rfl
     have hx64_2 : World.cell? _ ⟨go64, ((ji57) : Int).toNat * 4 + 2, none⟩ = some (.int .i64 ((rd_T48 x8_1 (ji57)).f2)) := hcc64 2 _ rfl
     have hx64_3 : World.cell? _ ⟨go64, ((ji57) : Int).toNat * 4 + 3, none⟩ = some (.int .u8 ((rd_T48 x8_1 (ji57)).f3)) := hcc64 3 _ rfl
     have hf64_0 : World.frozen? _ ⟨go64, ((ji57) : Int).toNat * 4, none⟩ = false := hfr64 0
     have hf64_1 : World.frozen? _ ⟨go64, ((ji57) : Int).toNat * 4 + 1, none⟩ = false := hfr64 1
     have hf64_2 : World.frozen? _ ⟨go64, ((ji57) : Int).toNat * 4 + 2, none⟩ = false := hfr64 2
     have hf64_3 : World.frozen? _ ⟨go64, ((ji57) : Int).toNat * 4 + 3, none⟩ = false := hfr64 3
     (try clear hcl64); (try clear hcc64); (try clear hfr64); (try clear hM64)
     replace p64 := eq_true p64; replace q64 := eq_true q64; obtain ⟨ce72, hcl72, hM72, hcc72, hfr72⟩ := Kd.R_elem HO_8.out z48 ((ji57) : Int) (aD) (by have h_ : ((ji57) : Int) < ((x8_1.length : Int) : Int) := aD; first | exact h_ | (have e_ := (Kd.zN HO_8.out).1; omega) | simpa using h_)
     obtain rfl := k48_openM hM72
     have HP72 := (Kd.R_seg HO_8.out ((ji57) : Int) (aD) (by have h_ : ((ji57) : Int) < ((x8_1.length : Int) : Int) := aD; first | exact h_ | (have e_ := (Kd.zN HO_8.out).1; omega) | simpa using h_) (seg := [.int .i64 (wrap64 (((rd_T48 x8_1 (ji57)).f1) + ((rd_T50 l0 x15_1).f2)))]) (j := 1) hcl72 hcc72 (show 2 ≤ 4 from by decide) (x' := (⟨(rd_T48 x8_1 (ji57)).f0, wrap64 (((rd_T48 x8_1 (ji57)).f1) + ((rd_T50 l0 x15_1).f2)), (rd_T48 x8_1 (ji57)).f2, (rd_T48 x8_1 (ji57)).f3⟩ : S48)) (k48_mkM _ _ _ (⟨(rd_T48 x8_1 (ji57)).f0, wrap64 (((rd_T48 x8_1 (ji57)).f1) + ((rd_T50 l0 x15_1).f2)), (rd_T48 x8_1 (ji57)).f2, (rd_T48 x8_1 (ji57)).f3⟩ : S48) ) (fun _ hk => hk)).1
     rw [← Ny180.out] at HP72; have HQ72 := zA.mk HP72; clear hcl72 hcc72 hfr72 hM72 HP72; refine start_ (n := 10) (S := fun w' => w'.cell? ⟨gb155, 0, none⟩ = some (.int .i32 ((rd_T50 l0 x15_1).f0)) ∧ w'.cell? ⟨gb155, 1, none⟩ = some (.int .i64 ((rd_T50 l0 x15_1).f1)) ∧ w'.cell? ⟨gb155, 2, none⟩ = some (.int .i64 ((rd_T50 l0 x15_1).f2)) ∧ w'.cell? ⟨go64, (((ji57)).toNat * 4), none⟩ = some (.int .i64 ((rd_T48 x8_1 (ji57)).f0)) ∧ w'.cell? ⟨go64, (((ji57)).toNat * 4) + 1, none⟩ = some (.int .i64 ((rd_T48 x8_1 (ji57)).f1)) ∧ w'.cell? ⟨go64, (((ji57)).toNat * 4) + 2, none⟩ = some (.int .i64 ((rd_T48 x8_1 (ji57)).f2)) ∧ w'.cell? ⟨go64, (((ji57)).toNat * 4) + 3, none⟩ = some (.int .u8 ((rd_T48 x8_1 (ji57)).f3))) (ds := [9]) #[false, false, false, false, false, false, false, false, false, false] (by kernel_rfl) rfl rfl ⟨(zE BK155.out 0).trans rfl, (zE BK155.out 1).trans rfl, (zE BK155.out 2).trans rfl, hx179_0, hx179_1, hx179_2, hx179_3⟩ (fun hHeld => ?_); refine with_tabW cells_Make.tab12 cells_Make.bits12 (fun HT_ HW_ => ?_)
     generalize wc.drew = w71 at HO_8 HO_9 BK155 HB GG64 HQ72 hf64_0 hf64_1 hf64_2 hf64_3 hx177_0 hx177_1 hx177_2 hx177_3 hx179_0 hx179_1 hx179_2 hx179_3 hx64_0 hx64_1 hx64_2 hx64_3 hHeld ⊢
     refine aP 0 (some 64) (tf_ 1 10) HT_ ?_
     refine aP 1 (some 65) (tf_ 2 10) HT_ ?_
     refine aP 2 (some 66) (tf_ 3 10) HT_ ?_
     refine aP 4 (some 68) (tb_ 23 10) HT_ ?_
     refine take_ (i := 3) (N := some 67) (v := ?_) (a' := ?_) (tf_ 5 10) rfl rfl (take_ofW HT_.out HW_.out (by kernel_rfl)) (fun _ _ _ h => h) (Or.inl ⟨by rfl, ?_⟩) hHeld ?_ ?_
     rotate_left
     ·rintro w' ⟨s0, s1, s2, s3, s4, s5, s6⟩
      go_simp
      with_reducible rfl
     rotate_left
     ·simp only [Act.put, sA_, sB_, sC_, i64_w, i32_w]
      rfl
     refine take_ (i := 5) (N := some 69) (v := ?_) (a' := ?_) (tf_ 6 10) rfl rfl (take_ofW HT_.out HW_.out (by kernel_rfl)) (fun _ _ _ h => h) (Or.inl ⟨by rfl, ?_⟩) hHeld ?_ ?_
     rotate_left
     ·rintro w' ⟨s0, s1, s2, s3, s4, s5, s6⟩
      go_simp
      with_reducible rfl
     rotate_left
     ·simp only [Act.put, sA_, sB_, sC_, i64_w, i32_w]
      rfl
     refine aP 6 (some 70) (tf_ 7 10) HT_ ?_
     refine aP 7 (some 71) (tf_ 8 10) HT_ ?_
     refine aP 8 (some 72) (tf_ 9 10) HT_ ?_
     refine last_ (i := 9) (N := none) (tb_ 1023 10) rfl rfl (one_of HT_.out (by kernel_rfl)) (by decide) (fun K hK => ?_)
     refine skip_ (w1 := ?_) (by rfl) rfl ?_ ?_
     rotate_left
     ·go_simp
      rfl
     refine hK.out _ _ ?_
     clear hK K; refine done_ (done_of HT_.out (by kernel_rfl)) ?_
     try go_wp2
     have n0_ : zA (Kd.R k48 48 (w71.setCell ⟨go64, ((ji57) : Int).toNat * 4 + 1, none⟩ (.int .i64 (wrap64 (((rd_T48 x8_1 (ji57)).f1) + ((rd_T50 l0 x15_1).f2))))) w.heap.size (fun _ => True) (.slice (some ⟨go64, 0, none⟩) x8_1.length co69) y180) := ⟨aR HQ72⟩
     have n1_ : zA (Kd.R (Kd.int .i64) 3 (w71.setCell ⟨go64, ((ji57) : Int).toNat * 4 + 1, none⟩ (.int .i64 (wrap64 (((rd_T48 x8_1 (ji57)).f1) + ((rd_T50 l0 x15_1).f2))))) w.heap.size (fun _ => True) (.slice (some ad178) x9_1.length co70) x9_1) := ⟨by (with_reducible repeat (first | apply Kd.zG | apply Kd.zH | apply Kd.zI)); exact Kd.zS (Kd.zP (p := ⟨go64, ((ji57) : Int).toNat * 4 + 1, none⟩) (Kd.zT HO_9.out GG64.out (by decide)) (fun _ hk => hk.2) (.int .i64 (wrap64 (((rd_T48 x8_1 (ji57)).f1) + ((rd_T50 l0 x15_1).f2))))) (fun _ hk => trivial)⟩
     have n2_ : zA ((w71.setCell ⟨go64, ((ji57) : Int).toNat * 4 + 1, none⟩ (.int .i64 (wrap64 (((rd_T48 x8_1 (ji57)).f1) + ((rd_T50 l0 x15_1).f2))))).heap[gb155]? = some (.cells #[.int .i32 ((rd_T50 l0 x15_1).f0), .int .i64 ((rd_T50 l0 x15_1).f1), .int .i64 ((rd_T50 l0 x15_1).f2)] 50 (0, 0))) := ⟨by (with_reducible repeat (first | refine zD ?_ _ | refine zC ?_ | refine zB ?_ _)); refine blk_far ?_ (by have h_ := Kd.R_ne HO_8.out BK155.out (by decide); intro e_; exact h_ (by rw [e_]; rfl)) _; (with_reducible repeat (first | refine zD ?_ _ | refine zC ?_ | refine zB ?_ _)); exact BK155.out⟩
     have n3_ : zA (Below w.heap.size w (w71.setCell ⟨go64, ((ji57) : Int).toNat * 4 + 1, none⟩ (.int .i64 (wrap64 (((rd_T48 x8_1 (ji57)).f1) + ((rd_T50 l0 x15_1).f2)))))) := ⟨aL HB⟩
     (try clear HO_8)
     (try clear HO_9)
     (try clear BK155)
     (try clear HB)
     generalize (w71.setCell ⟨go64, ((ji57) : Int).toNat * 4 + 1, none⟩ (.int .i64 (wrap64 (((rd_T48 x8_1 (ji57)).f1) + ((rd_T50 l0 x15_1).f2))))) = w73 at n0_ n1_ n2_ n3_ ⊢
     have HO_8 := n0_; have HO_9 := n1_; have BK155 := n2_; have HB := n3_; clear n0_ n1_ n2_ n3_; replace HO_8 := zA.mk (Kd.zI HO_8.out); replace HO_9 := zA.mk (Kd.zI HO_9.out); replace BK155 := zA.mk (zC BK155.out); replace HB := zA.mk (below_drew1 HB.out); have p181 : 0 ≤ ((ji57) : Int) := aD
     have q181 : (ji57) < (y180.length : Int) := (by have h_ : ((ji57) : Int) < ((x8_1.length : Int) : Int) := aD; first | (have e_ := (Kd.zN HO_8.out).1; omega) | simpa only [Ny180.out, List.length_set] using h_)
     have ql181 : (((ji57) : Int) < ((x8_1.length : Int) : Int)) = True := eq_true (aD)
     obtain ⟨ad181, e181, hx181_0, hx181_1, hx181_2, hx181_3⟩ := at_T48 (Kd.zN HO_8.out).2.2 (ji57) p181 q181; obtain rfl : (⟨go64, 0, none⟩ : Addr) = ad181 := (by injection e181)
     (first | simp only [add_plain] at hx181_0 | simp only [add_at] at hx181_0 | simp only [Addr.add, Nat.zero_add] at hx181_0 | skip)
     (first | simp only [add_plain] at hx181_1 | simp only [add_at] at hx181_1 | simp only [Addr.add, Nat.zero_add] at hx181_1 | skip)
     (first | simp only [add_plain] at hx181_2 | simp only [add_at] at hx181_2 | simp only [Addr.add, Nat.zero_add] at hx181_2 | skip)
     (first | simp only [add_plain] at hx181_3 | simp only [add_at] at hx181_3 | simp only [Addr.add, Nat.zero_add] at hx181_3 | skip)
     replace p181 := eq_true p181; replace q181 := eq_true q181; refine start_ (n := 14) (S := fun w' => w'.cell? ⟨gb155, 0, none⟩ = some (.int .i32 ((rd_T50 l0 x15_1).f0)) ∧ w'.cell? ⟨gb155, 1, none⟩ = some (.int .i64 ((rd_T50 l0 x15_1).f1)) ∧ w'.cell? ⟨gb155, 2, none⟩ = some (.int .i64 ((rd_T50 l0 x15_1).f2)) ∧ w'.cell? ⟨go64, ((ji57)).toNat * 4, none⟩ = some (.int .i64 ((rd_T48 y180 (ji57)).f0)) ∧ w'.cell? ⟨go64, ((ji57)).toNat * 4 + 1, none⟩ = some (.int .i64 ((rd_T48 y180 (ji57)).f1)) ∧ w'.cell? ⟨go64, ((ji57)).toNat * 4 + 2, none⟩ = some (.int .i64 ((rd_T48 y180 (ji57)).f2)) ∧ w'.cell? ⟨go64, ((ji57)).toNat * 4 + 3, none⟩ = some (.int .u8 ((rd_T48 y180 (ji57)).f3))) (ds := [13]) #[false, false, false, false, false, false, false, false, false, false, false, false, false, false] (by kernel_rfl) rfl rfl ⟨(zE BK155.out 0).trans rfl, (zE BK155.out 1).trans rfl, (zE BK155.out 2).trans rfl, hx181_0, hx181_1, hx181_2, hx181_3⟩ (fun hHeld => ?_); refine with_tabW cells_Make.tab13 cells_Make.bits13 (fun HT_ HW_ => ?_)
     generalize w73.drew = w74 at HO_8 HO_9 BK155 HB HQ72 hx181_0 hx181_1 hx181_2 hx181_3 hHeld ⊢
     refine aP 0 (some 73) (tf_ 1 14) HT_ ?_
     refine aP 1 (some 74) (tf_ 2 14) HT_ ?_
     refine aP 2 (some 75) (tf_ 3 14) HT_ ?_
     refine aP 3 (some 76) (tf_ 4 14) HT_ ?_
     refine aP 5 (some 78) (tb_ 47 14) HT_ ?_
     refine aP 6 (some 79) (tb_ 111 14) HT_ ?_
     refine take_ (i := 4) (N := some 77) (v := ?_) (a' := ?_) (tf_ 7 14) rfl rfl (take_ofW HT_.out HW_.out (by kernel_rfl)) (fun _ _ _ h => h) (Or.inl ⟨by rfl, ?_⟩) hHeld ?_ ?_
     rotate_left
     ·rintro w' ⟨s0, s1, s2, s3, s4, s5, s6⟩
      go_simp
      with_reducible rfl
     rotate_left
     ·simp only [Act.put, sA_, sB_, sC_, i64_w, i32_w]
      rfl
     refine take_ (i := 7) (N := some 80) (v := ?_) (a' := ?_) (tf_ 8 14) rfl rfl (take_ofW HT_.out HW_.out (by kernel_rfl)) (fun _ _ _ h => h) (Or.inl ⟨by rfl, ?_⟩) hHeld ?_ ?_
     rotate_left
     ·rintro w' ⟨s0, s1, s2, s3, s4, s5, s6⟩
      go_simp
      with_reducible rfl
     rotate_left
     ·simp only [Act.put, sA_, sB_, sC_, i64_w, i32_w]
      rfl
     refine one_ (i := 8) (N := some 81) (tb_ 511 14) rfl rfl (one_of HT_.out (by kernel_rfl)) (by decide) (fun K hK => ?_)
     refine goes_ Try.func22 (by kernel_rfl) rfl #[vt2_, .int .i32 ((rd_T50 l0 x15_1).f0)] (by rfl) rfl rfl aT ?_
     with_reducible refine (prop_Table_Of.calls vt2_ a2 ((rd_T50 l0 x15_1).f0) t182 _ ?side1 A65.out).mono ?_
     (case side1 => exact TabAt.below HTa2.out (aL HB))
     rintro e w' ⟨rfl, ⟨nd, rfl⟩⟩
     refine ⟨_, rfl, ?_⟩
     have p68 : 0 ≤ ((ji57) : Int) := aD
     have q68 : ((ji57) : Int) < ((x8_1.length : Int) : Int) := aD
     obtain ⟨ce68, hcl68, hM68, hcc68, hfr68⟩ := Kd.R_elem HO_8.out z48 ((ji57) : Int) p68 q68; obtain rfl := k48_openM hM68
     have hx68_0 : World.cell? _ ⟨go64, ((ji57) : Int).toNat * 4, none⟩ = some (.int .i64 ((rd_T48 y180 (ji57)).f0)) := hcc68 0 _ rfl
     have hx68_1 : World.cell? _ ⟨go64, ((ji57) : Int).toNat * 4 + 1, none⟩ = some (.int .i64 ((rd_T48 y180 (ji57)).f1)) := hcc68 1 _ rfl
     have hx68_2 : World.cell? _ ⟨go64, ((ji57) : Int).toNat * 4 + 2, none⟩ = some (.int .i64 ((rd_T48 y180 (ji57)).f2)) := hcc68 2 _ rfl
     have hx68_3 : World.cell? _ ⟨go64, ((ji57) : Int).toNat * 4 + 3, none⟩ = some (.int .u8 ((rd_T48 y180 (ji57)).f3)) := hcc68 3 _ rfl
     have hf68_0 : World.frozen? _ ⟨go64, ((ji57) : Int).toNat * 4, none⟩ = false := hfr68 0
     have hf68_1 : World.frozen? _ ⟨go64, ((ji57) : Int).toNat * 4 + 1, none⟩ = false := hfr68 1
     have hf68_2 : World.frozen? _ ⟨go64, ((ji57) : Int).toNat * 4 + 2, none⟩ = false := hfr68 2
     have hf68_3 : World.frozen? _ ⟨go64, ((ji57) : Int).toNat * 4 + 3, none⟩ = false := hfr68 3
     (try clear hcl68); (try clear hcc68); (try clear hfr68); (try clear hM68)
     replace p68 := eq_true p68; replace q68 := eq_true q68; obtain ⟨cx75, gx75⟩ := Kd.R_typed HO_8.out _ rfl; have GG75_ := zA.mk gx75; clear gx75; obtain ⟨ce75, hcl75, hM75, hcc75, hfr75⟩ := Kd.R_elem HO_8.out z48 ((ji57) : Int) (aD) (by have h_ : ((ji57) : Int) < ((x8_1.length : Int) : Int) := aD; first | exact h_ | (have e_ := (Kd.zN HO_8.out).1; omega) | simpa using h_)
     obtain rfl := k48_openM hM75
     have HP75 := (Kd.R_seg HO_8.out ((ji57) : Int) (aD) (by have h_ : ((ji57) : Int) < ((x8_1.length : Int) : Int) := aD; first | exact h_ | (have e_ := (Kd.zN HO_8.out).1; omega) | simpa using h_) (seg := [.int .i64 ji67]) (j := 2) hcl75 hcc75 (show 3 ≤ 4 from by decide) (x' := (⟨(rd_T48 y180 (ji57)).f0, (rd_T48 y180 (ji57)).f1, ji67, (rd_T48 y180 (ji57)).f3⟩ : S48)) (k48_mkM _ _ _ (⟨(rd_T48 y180 (ji57)).f0, (rd_T48 y180 (ji57)).f1, ji67, (rd_T48 y180 (ji57)).f3⟩ : S48) ) (fun _ hk => hk)).1
     rw [← Ny183.out] at HP75; have HQ75 := zA.mk HP75; clear hcl75 hcc75 hfr75 hM75 HP75; refine hK.out _ _ ⟨(zE BK155.out 0).trans rfl, (zE BK155.out 1).trans rfl, (zE BK155.out 2).trans rfl, hHeld.2.2.2.1, hHeld.2.2.2.2.1, hHeld.2.2.2.2.2.1, hHeld.2.2.2.2.2.2⟩ (fun hHeld => ?_)
     clear hK K; refine norm_ (a' := ?_) ?_ ?_
     rotate_left
     ·show Act.put _ (some 81) _ = _
      simp only [Act.put, sA_, sB_, sC_, i64_w, i32_w]; rfl
     refine aP 9 (some 82) (tf_ 10 14) HT_ ?_
     refine aP 10 (some 83) (tf_ 11 14) HT_ ?_
     refine aP 11 (some 84) (tf_ 12 14) HT_ ?_
     refine aP 12 (some 85) (tf_ 13 14) HT_ ?_
     refine last_ (i := 13) (N := none) (tb_ 16383 14) rfl rfl (one_of HT_.out (by kernel_rfl)) (by decide) (fun K hK => ?_)
     refine skip_ (w1 := ?_) (by rfl) rfl ?_ ?_
     rotate_left
     ·go_simp
      rfl
     refine hK.out _ _ ?_
     clear hK K; refine done_ (done_of HT_.out (by kernel_rfl)) ?_
     try go_wp2
     go_roundg kj6
     case measure => have := HK1.out; have := HJ6.out; omega
     case rel => exact ⟨(y183), (x9_1), (wrap64 (x15_1 + 1)), aZ, H', ⟨by have := HK1.out; have := HJ6.out; omega⟩, ⟨aR HQ75⟩, ⟨by (with_reducible repeat (first | apply Kd.zG | apply Kd.zH | apply Kd.zI)); exact Kd.zS (Kd.zP (p := ⟨go64, ((ji57) : Int).toNat * 4 + 2, none⟩) (Kd.zT HO_9.out GG75_.out (by decide)) (fun _ hk => hk.2) (.int .i64 ji67)) (fun _ hk => trivial)⟩, ⟨aL HB⟩⟩
    rw [if_neg c63] at H; have c63b0 : ((rd x9_1 (ji60)) == x15_1) = false := beq_eq_false_iff_ne.mpr c63
    have c63b1 : ((rd x9_1 (ji60)) != x15_1) = true := bne_iff_ne.mpr c63
    obtain ⟨y184, hy184⟩ : ∃ y_ : List (S48), y_ = (x8_1.set ((ji57) : Int).toNat (⟨(rd_T48 x8_1 (ji57)).f0, (rd_T48 x8_1 (ji57)).f1, (rd_T48 x8_1 (ji57)).f2, 0⟩ : S48)) := ⟨_, rfl⟩; replace H : ((some (y184.set ((ji57) : Int).toNat (⟨(rd_T48 y184 (ji57)).f0, wrap64 (((rd_T48 y184 (ji57)).f1) + ((rd_T50 l0 x15_1).f2)), (rd_T48 y184 (ji57)).f2, (rd_T48 y184 (ji57)).f3⟩ : S48) : List (S48))).bind fun y186 => ((prop_Table_Of.f a2 ((rd_T50 l0 x15_1).f0)).bind fun t188 => (cells_Make.l0 kj6 l0 l1 a2 (y186.set ((ji57) : Int).toNat (⟨(rd_T48 y186 (ji57)).f0, (rd_T48 y186 (ji57)).f1, mx ((rd_T48 y186 (ji57)).f2) (mn t188 2), (rd_T48 y186 (ji57)).f3⟩ : S48)) x9_1 l0 (l0.length : Int) (wrap64 (x15_1 + 1))))) = some (r1, r2) := by first | (rw [hy184]; with_reducible exact H) | (have H2_ := (Option.bind_some _ _).symm.trans H; rw [hy184]; with_reducible exact H2_) | (have H2_ := (Option.bind_some _ _).symm.trans H; with_reducible exact H2_) | with_reducible exact H | (rw [hy184]; exact H) | exact H
    have Ny184 := zA.mk hy184; clear hy184; obtain ⟨y186, hy186⟩ : ∃ y_ : List (S48), y_ = (y184.set ((ji57) : Int).toNat (⟨(rd_T48 y184 (ji57)).f0, wrap64 (((rd_T48 y184 (ji57)).f1) + ((rd_T50 l0 x15_1).f2)), (rd_T48 y184 (ji57)).f2, (rd_T48 y184 (ji57)).f3⟩ : S48)) := ⟨_, rfl⟩; replace H : ((prop_Table_Of.f a2 ((rd_T50 l0 x15_1).f0)).bind fun t188 => (cells_Make.l0 kj6 l0 l1 a2 (y186.set ((ji57) : Int).toNat (⟨(rd_T48 y186 (ji57)).f0, (rd_T48 y186 (ji57)).f1, mx ((rd_T48 y186 (ji57)).f2) (mn t188 2), (rd_T48 y186 (ji57)).f3⟩ : S48)) x9_1 l0 (l0.length : Int) (wrap64 (x15_1 + 1)))) = some (r1, r2) := by first | (rw [hy186]; with_reducible exact H) | (have H2_ := (Option.bind_some _ _).symm.trans H; rw [hy186]; with_reducible exact H2_) | (have H2_ := (Option.bind_some _ _).symm.trans H; with_reducible exact H2_) | with_reducible exact H | (rw [hy186]; exact H) | exact H
    have Ny186 := zA.mk hy186; clear hy186; replace H := Option.bind_eq_some_iff.mp H; obtain ⟨t188, A780, H⟩ := H; replace H : (cells_Make.l0 kj6 l0 l1 a2 (y186.set ((ji57) : Int).toNat (⟨(rd_T48 y186 (ji57)).f0, (rd_T48 y186 (ji57)).f1, mx ((rd_T48 y186 (ji57)).f2) (mn t188 2), (rd_T48 y186 (ji57)).f3⟩ : S48)) x9_1 l0 (l0.length : Int) (wrap64 (x15_1 + 1))) = some (r1, r2) := H; have A78 := zA.mk A780; clear A780; obtain ⟨ji79, hji79⟩ : ∃ j_ : Int, (mn t188 2) = j_ := ⟨_, rfl⟩; replace H : (cells_Make.l0 kj6 l0 l1 a2 (y186.set ((ji57) : Int).toNat (⟨(rd_T48 y186 (ji57)).f0, (rd_T48 y186 (ji57)).f1, mx ((rd_T48 y186 (ji57)).f2) (ji79), (rd_T48 y186 (ji57)).f3⟩ : S48)) x9_1 l0 (l0.length : Int) (wrap64 (x15_1 + 1))) = some (r1, r2) := by first | (rw [hji79] at H; exact H) | (simp only [hji79] at H ⊢; exact H)
    (try rw [hji79] at A78)
    (try (have hji79h : ji79 ≤ 2 := by (rw [← hji79]; unfold mn; (repeat' split) <;> omega)))
    (try (have hji79g : ji79 ≤ 64 := by omega))
    have hji79_ : (if 2 < t188 then 2 else t188) = ji79 := hji79
    obtain ⟨ji80, hji80⟩ : ∃ j_ : Int, (mx ((rd_T48 y186 (ji57)).f2) (ji79)) = j_ := ⟨_, rfl⟩; replace H : (cells_Make.l0 kj6 l0 l1 a2 (y186.set ((ji57) : Int).toNat (⟨(rd_T48 y186 (ji57)).f0, (rd_T48 y186 (ji57)).f1, ji80, (rd_T48 y186 (ji57)).f3⟩ : S48)) x9_1 l0 (l0.length : Int) (wrap64 (x15_1 + 1))) = some (r1, r2) := by first | (rw [hji80] at H; exact H) | (simp only [hji80] at H ⊢; exact H)
    (try rw [hji80] at A78)
    have hji80_ : (if ((rd_T48 y186 (ji57)).f2) < (ji79) then (ji79) else ((rd_T48 y186 (ji57)).f2)) = ji80 := hji80
    obtain ⟨y189, hy189⟩ : ∃ y_ : List (S48), y_ = (y186.set ((ji57) : Int).toNat (⟨(rd_T48 y186 (ji57)).f0, (rd_T48 y186 (ji57)).f1, ji80, (rd_T48 y186 (ji57)).f3⟩ : S48)) := ⟨_, rfl⟩; replace H : (cells_Make.l0 kj6 l0 l1 a2 y189 x9_1 l0 (l0.length : Int) (wrap64 (x15_1 + 1))) = some (r1, r2) := by first | (rw [hy189]; with_reducible exact H) | (have H2_ := (Option.bind_some _ _).symm.trans H; rw [hy189]; with_reducible exact H2_) | (have H2_ := (Option.bind_some _ _).symm.trans H; with_reducible exact H2_) | with_reducible exact H | (rw [hy189]; exact H) | exact H
    have Ny189 := zA.mk hy189; clear hy189; have H' := zA.mk H
    clear H; obtain ⟨Ao82, co82, eo82⟩ := Kd.zQ HO_8.out; subst eo82; have p177 : 0 ≤ ((ji57) : Int) := aD
    have q177 : (ji57) < (x8_1.length : Int) := aD
    obtain ⟨ad177, e177, hx177_0, hx177_1, hx177_2, hx177_3⟩ := at_T48 (Kd.zN HO_8.out).2.2 (ji57) p177 q177; cases e177
    replace p177 := eq_true p177; replace q177 := eq_true q177; obtain ⟨Ao83, co83, eo83⟩ := Kd.zQ HO_9.out; subst eo83; have p178 : 0 ≤ ((ji60) : Int) := aD
    have q178 : (ji60) < (x9_1.length : Int) := aD
    obtain ⟨ad178, e178, hx178_0⟩ := Kd.at_int (Kd.zN HO_9.out).2.2 (ji60) p178 q178; cases e178
    replace p178 := eq_true p178; replace q178 := eq_true q178; have p76 : 0 ≤ ((ji57) : Int) := aD
    have q76 : ((ji57) : Int) < ((x8_1.length : Int) : Int) := aD
    obtain ⟨go76, co76, eo76, gb76, gl76, cl76, HG76⟩ := Kd.R_form HO_8.out (by omega)
    (first | cases eo76 | (injection eo76 with ea_ en_ ec_; (first | subst ea_ | (injection ea_ with ea_; subst ea_)); subst ec_; clear en_))
    have GB76 := zA.mk gb76; have GG76 := zA.mk HG76; clear gb76 gl76 HG76; (first | simp only [add_plain] at hx177_0 | skip)
    (first | simp only [add_plain] at hx177_1 | skip)
    (first | simp only [add_plain] at hx177_2 | skip)
    (first | simp only [add_plain] at hx177_3 | skip)
    obtain ⟨ce76, hcl76, hM76, hcc76, hfr76⟩ := Kd.R_elem HO_8.out z48 ((ji57) : Int) p76 q76; obtain rfl := k48_openM hM76
    have hx76_0 : wc.cell? ⟨go76, ((ji57) : Int).toNat * 4, none⟩ = some (.int .i64 ((rd_T48 x8_1 (ji57)).f0)) := hcc76 0 _ rfl
    have hx76_1 : wc.cell? ⟨go76, ((ji57) : Int).toNat * 4 + 1, none⟩ = some (.int .i64 ((rd_T48 x8_1 (ji57)).f1)) := hcc76 1 _ rfl
    have hx76_2 : wc.cell? ⟨go76, ((ji57) : Int).toNat * 4 + 2, none⟩ = some (.int .i64 ((rd_T48 x8_1 (ji57)).f2)) := hcc76 2 _ rfl
    have hx76_3 : wc.cell? ⟨go76, ((ji57) : Int).toNat * 4 + 3, none⟩ = some (.int .u8 ((rd_T48 x8_1 (ji57)).f3)) := hcc76 3 _ rfl
    have hf76_0 : wc.frozen? ⟨go76, ((ji57) : Int).toNat * 4, none⟩ = false := hfr76 0
    have hf76_1 : wc.frozen? ⟨go76, ((ji57) : Int).toNat * 4 + 1, none⟩ = false := hfr76 1
    have hf76_2 : wc.frozen? ⟨go76, ((ji57) : Int).toNat * 4 + 2, none⟩ = false := hfr76 2
    have hf76_3 : wc.frozen? ⟨go76, ((ji57) : Int).toNat * 4 + 3, none⟩ = false := hfr76 3
    (try clear hcl76); (try clear hcc76); (try clear hfr76); (try clear hM76)
    replace p76 := eq_true p76; replace q76 := eq_true q76; have HX84 := zA.mk (show Kd.R k48 48 wc w.heap.size (fun _ => True) (.slice (some ⟨go76, 0, none⟩) x8_1.length co82) x8_1 from (aR HO_8))
    obtain ⟨ce84, hcl84, hM84, hcc84, hfr84⟩ := Kd.R_elem HX84.out z48 ((ji57) : Int) (aD) (by have h_ : ((ji57) : Int) < ((x8_1.length : Int) : Int) := aD; first | exact h_ | (have e_ := (Kd.zN HO_8.out).1; omega) | simpa using h_)
    obtain rfl := k48_openM hM84
    have HP84 := Kd.R_seg HX84.out ((ji57) : Int) (aD) (by have h_ : ((ji57) : Int) < ((x8_1.length : Int) : Int) := aD; first | exact h_ | (have e_ := (Kd.zN HO_8.out).1; omega) | simpa using h_) (seg := [.int .u8 0]) (j := 3) hcl84 hcc84 (show 4 ≤ 4 from by decide) (x' := (⟨(rd_T48 x8_1 (ji57)).f0, (rd_T48 x8_1 (ji57)).f1, (rd_T48 x8_1 (ji57)).f2, 0⟩ : S48)) (k48_mkM _ _ _ (⟨(rd_T48 x8_1 (ji57)).f0, (rd_T48 x8_1 (ji57)).f1, (rd_T48 x8_1 (ji57)).f2, 0⟩ : S48) ) (fun _ hk => hk)
    have hx84_3 := hcc84 3 _ rfl; (try simp only [show (k48).sz = 4 from rfl, Nat.mul_one, Nat.add_zero] at hx84_3)
    have hf84_3 := hfr84 3; (try simp only [show (k48).sz = 4 from rfl, Nat.mul_one, Nat.add_zero] at hf84_3)
    (try clear hcl84); (try clear hcc84); (try clear hfr84); (try clear hM84)
    try go_wp2_with (first | ((with_reducible refine gate_store (t := 46) (p := 63) rfl ?_); refine store_event (t := 46) (p := 63) (v := ?vo_w85) (w1 := (wc.setCell ⟨go76, ((ji57) : Int).toNat * 4 + 3, none⟩ (.int .u8 0))) ?hg ?ho ?hn ?hr ?_; (case ho => rfl); (case hg => rfl); (case hn => rfl); (case hr => first | (go_simp; done) | (go_simp; rfl)); intro w85 hw; have hg : wc.grownBy w85 (some go76) := (by rw [hw]; exact HP84.2); have hp_ : Kd.R k48 48 w85 w.heap.size (fun _ => True) (.slice (some ⟨go76, 0, none⟩) x8_1.length co82) y184 := (by rw [hw, Ny184.out]; exact HP84.1); clear HP84; replace HO_9 := zA.mk (Kd.R_over' (v := (.slice (some ⟨go76, 0, none⟩) x8_1.length co82)) (aR HO_9) (Kd.R_typed HO_8.out) (by decide) hg); replace BK155 := zA.mk (blk_grown (g := gb155) (o := .cells #[.int .i32 ((rd_T50 l0 x15_1).f0), .int .i64 ((rd_T50 l0 x15_1).f1), .int .i64 ((rd_T50 l0 x15_1).f2)] 50 (0, 0)) (aB BK155) hg (Kd.R_ne HO_8.out BK155.out (by decide))); replace HO_8 := zA.mk (hp_); replace HB := zA.mk ((by rw [hw]; exact below_set (HB.out) GB76.out : Below w.heap.size w w85)); clear hg hw hp_))
    replace HO_8 := zA.mk (Kd.zI HO_8.out); replace HO_9 := zA.mk (Kd.zI HO_9.out); replace BK155 := zA.mk (zC BK155.out); replace HB := zA.mk (below_drew1 HB.out); have p185 : 0 ≤ ((ji57) : Int) := aD
    have q185 : (ji57) < (y184.length : Int) := (by have h_ : ((ji57) : Int) < ((x8_1.length : Int) : Int) := aD; first | (have e_ := (Kd.zN HO_8.out).1; omega) | simpa only [Ny184.out, List.length_set] using h_)
    have ql185 : (((ji57) : Int) < ((x8_1.length : Int) : Int)) = True := eq_true (aD)
    obtain ⟨ad185, e185, hx185_0, hx185_1, hx185_2, hx185_3⟩ := at_T48 (Kd.zN HO_8.out).2.2 (ji57) p185 q185; obtain rfl : (⟨go76, 0, none⟩ : Addr) = ad185 := (by injection e185)
    (first | simp only [add_plain] at hx185_0 | simp only [add_at] at hx185_0 | simp only [Addr.add, Nat.zero_add] at hx185_0 | skip)
    (first | simp only [add_plain] at hx185_1 | simp only [add_at] at hx185_1 | simp only [Addr.add, Nat.zero_add] at hx185_1 | skip)
    (first | simp only [add_plain] at hx185_2 | simp only [add_at] at hx185_2 | simp only [Addr.add, Nat.zero_add] at hx185_2 | skip)
    (first | simp only [add_plain] at hx185_3 | simp only [add_at] at hx185_3 | simp only [Addr.add, Nat.zero_add] at hx185_3 | skip)
    replace p185 := eq_true p185; replace q185 := eq_true q185; have p77 : 0 ≤ ((ji57) : Int) := aD
    have q77 : ((ji57) : Int) < ((x8_1.length : Int) : Int) := aD
    obtain ⟨ce77, hcl77, hM77, hcc77, hfr77⟩ := Kd.R_elem HO_8.out z48 ((ji57) : Int) p77 q77; obtain rfl := k48_openM hM77
    have hx77_0 : World.cell? _ ⟨go76, ((ji57) : Int).toNat * 4, none⟩ = some (.int .i64 ((rd_T48 y184 (ji57)).f0)) := hcc77 0 _ rfl
    have hx77_1 : World.cell? _ ⟨go76, ((ji57) : Int).toNat * 4 + 1, none⟩ = some (.int .i64 ((rd_T48 y184 (ji57)).f1)) := hcc77 1 _ rfl
    have hx77_2 : World.cell? _ ⟨go76, ((ji57) : Int).toNat * 4 + 2, none⟩ = some (.int .i64 ((rd_T48 y184 (ji57)).f2)) := hcc77 2 _ rfl
    have hx77_3 : World.cell? _ ⟨go76, ((ji57) : Int).toNat * 4 + 3, none⟩ = some (.int .u8 ((rd_T48 y184 (ji57)).f3)) := hcc77 3 _ rfl
    have hf77_0 : World.frozen? _ ⟨go76, ((ji57) : Int).toNat * 4, none⟩ = false := hfr77 0
    have hf77_1 : World.frozen? _ ⟨go76, ((ji57) : Int).toNat * 4 + 1, none⟩ = false := hfr77 1
    have hf77_2 : World.frozen? _ ⟨go76, ((ji57) : Int).toNat * 4 + 2, none⟩ = false := hfr77 2
    have hf77_3 : World.frozen? _ ⟨go76, ((ji57) : Int).toNat * 4 + 3, none⟩ = false := hfr77 3
    (try clear hcl77); (try clear hcc77); (try clear hfr77); (try clear hM77)
    replace p77 := eq_true p77; replace q77 := eq_true q77; obtain ⟨cx87, gx87⟩ := Kd.R_typed HO_8.out _ rfl; have GG87_ := zA.mk gx87; clear gx87; obtain ⟨ce87, hcl87, hM87, hcc87, hfr87⟩ := Kd.R_elem HO_8.out z48 ((ji57) : Int) (aD) (by have h_ : ((ji57) : Int) < ((x8_1.length : Int) : Int) := aD; first | exact h_ | (have e_ := (Kd.zN HO_8.out).1; omega) | simpa using h_)
    obtain rfl := k48_openM hM87
    have HP87 := (Kd.R_seg HO_8.out ((ji57) : Int) (aD) (by have h_ : ((ji57) : Int) < ((x8_1.length : Int) : Int) := aD; first | exact h_ | (have e_ := (Kd.zN HO_8.out).1; omega) | simpa using h_) (seg := [.int .i64 (wrap64 (((rd_T48 y184 (ji57)).f1) + ((rd_T50 l0 x15_1).f2)))]) (j := 1) hcl87 hcc87 (show 2 ≤ 4 from by decide) (x' := (⟨(rd_T48 y184 (ji57)).f0, wrap64 (((rd_T48 y184 (ji57)).f1) + ((rd_T50 l0 x15_1).f2)), (rd_T48 y184 (ji57)).f2, (rd_T48 y184 (ji57)).f3⟩ : S48)) (k48_mkM _ _ _ (⟨(rd_T48 y184 (ji57)).f0, wrap64 (((rd_T48 y184 (ji57)).f1) + ((rd_T50 l0 x15_1).f2)), (rd_T48 y184 (ji57)).f2, (rd_T48 y184 (ji57)).f3⟩ : S48) ) (fun _ hk => hk)).1
    rw [← Ny186.out] at HP87; have HQ87 := zA.mk HP87; clear hcl87 hcc87 hfr87 hM87 HP87; refine start_ (n := 10) (S := fun w' => w'.cell? ⟨gb155, 0, none⟩ = some (.int .i32 ((rd_T50 l0 x15_1).f0)) ∧ w'.cell? ⟨gb155, 1, none⟩ = some (.int .i64 ((rd_T50 l0 x15_1).f1)) ∧ w'.cell? ⟨gb155, 2, none⟩ = some (.int .i64 ((rd_T50 l0 x15_1).f2)) ∧ w'.cell? ⟨go76, ((ji57)).toNat * 4, none⟩ = some (.int .i64 ((rd_T48 y184 (ji57)).f0)) ∧ w'.cell? ⟨go76, ((ji57)).toNat * 4 + 1, none⟩ = some (.int .i64 ((rd_T48 y184 (ji57)).f1)) ∧ w'.cell? ⟨go76, ((ji57)).toNat * 4 + 2, none⟩ = some (.int .i64 ((rd_T48 y184 (ji57)).f2)) ∧ w'.cell? ⟨go76, ((ji57)).toNat * 4 + 3, none⟩ = some (.int .u8 ((rd_T48 y184 (ji57)).f3))) (ds := [9]) #[false, false, false, false, false, false, false, false, false, false] (by kernel_rfl) rfl rfl ⟨(zE BK155.out 0).trans rfl, (zE BK155.out 1).trans rfl, (zE BK155.out 2).trans rfl, hx185_0, hx185_1, hx185_2, hx185_3⟩ (fun hHeld => ?_); refine with_tabW cells_Make.tab12 cells_Make.bits12 (fun HT_ HW_ => ?_)
    generalize w85.drew = w86 at HO_8 HO_9 BK155 HB GG87_ HQ87 hf77_0 hf77_1 hf77_2 hf77_3 hx185_0 hx185_1 hx185_2 hx185_3 hx77_0 hx77_1 hx77_2 hx77_3 hHeld ⊢
    refine aP 0 (some 64) (tf_ 1 10) HT_ ?_
    refine aP 1 (some 65) (tf_ 2 10) HT_ ?_
    refine aP 2 (some 66) (tf_ 3 10) HT_ ?_
    refine aP 4 (some 68) (tb_ 23 10) HT_ ?_
    refine take_ (i := 3) (N := some 67) (v := ?_) (a' := ?_) (tf_ 5 10) rfl rfl (take_ofW HT_.out HW_.out (by kernel_rfl)) (fun _ _ _ h => h) (Or.inl ⟨by rfl, ?_⟩) hHeld ?_ ?_
    rotate_left
    ·rintro w' ⟨s0, s1, s2, s3, s4, s5, s6⟩
     go_simp
     with_reducible rfl
    rotate_left
    ·simp only [Act.put, sA_, sB_, sC_, i64_w, i32_w]
     rfl
    refine take_ (i := 5) (N := some 69) (v := ?_) (a' := ?_) (tf_ 6 10) rfl rfl (take_ofW HT_.out HW_.out (by kernel_rfl)) (fun _ _ _ h => h) (Or.inl ⟨by rfl, ?_⟩) hHeld ?_ ?_
    rotate_left
    ·rintro w' ⟨s0, s1, s2, s3, s4, s5, s6⟩
     go_simp
     with_reducible rfl
    rotate_left
    ·simp only [Act.put, sA_, sB_, sC_, i64_w, i32_w]
     rfl
    refine aP 6 (some 70) (tf_ 7 10) HT_ ?_
    refine aP 7 (some 71) (tf_ 8 10) HT_ ?_
    refine aP 8 (some 72) (tf_ 9 10) HT_ ?_
    refine last_ (i := 9) (N := none) (tb_ 1023 10) rfl rfl (one_of HT_.out (by kernel_rfl)) (by decide) (fun K hK => ?_)
    refine skip_ (w1 := ?_) (by rfl) rfl ?_ ?_
    rotate_left
    ·go_simp
     rfl
    refine hK.out _ _ ?_
    clear hK K; refine done_ (done_of HT_.out (by kernel_rfl)) ?_
    try go_wp2
    have n0_ : zA (Kd.R k48 48 (w86.setCell ⟨go76, ((ji57) : Int).toNat * 4 + 1, none⟩ (.int .i64 (wrap64 (((rd_T48 y184 (ji57)).f1) + ((rd_T50 l0 x15_1).f2))))) w.heap.size (fun _ => True) (.slice (some ⟨go76, 0, none⟩) x8_1.length co82) y186) := ⟨aR HQ87⟩
    have n1_ : zA (Kd.R (Kd.int .i64) 3 (w86.setCell ⟨go76, ((ji57) : Int).toNat * 4 + 1, none⟩ (.int .i64 (wrap64 (((rd_T48 y184 (ji57)).f1) + ((rd_T50 l0 x15_1).f2))))) w.heap.size (fun _ => True) (.slice (some ad178) x9_1.length co83) x9_1) := ⟨by (with_reducible repeat (first | apply Kd.zG | apply Kd.zH | apply Kd.zI)); exact Kd.zS (Kd.zP (p := ⟨go76, ((ji57) : Int).toNat * 4 + 1, none⟩) (Kd.zT HO_9.out GG87_.out (by decide)) (fun _ hk => hk.2) (.int .i64 (wrap64 (((rd_T48 y184 (ji57)).f1) + ((rd_T50 l0 x15_1).f2))))) (fun _ hk => trivial)⟩
    have n2_ : zA ((w86.setCell ⟨go76, ((ji57) : Int).toNat * 4 + 1, none⟩ (.int .i64 (wrap64 (((rd_T48 y184 (ji57)).f1) + ((rd_T50 l0 x15_1).f2))))).heap[gb155]? = some (.cells #[.int .i32 ((rd_T50 l0 x15_1).f0), .int .i64 ((rd_T50 l0 x15_1).f1), .int .i64 ((rd_T50 l0 x15_1).f2)] 50 (0, 0))) := ⟨by (with_reducible repeat (first | refine zD ?_ _ | refine zC ?_ | refine zB ?_ _)); refine blk_far ?_ (by have h_ := Kd.R_ne HO_8.out BK155.out (by decide); intro e_; exact h_ (by rw [e_]; rfl)) _; (with_reducible repeat (first | refine zD ?_ _ | refine zC ?_ | refine zB ?_ _)); exact BK155.out⟩
    have n3_ : zA (Below w.heap.size w (w86.setCell ⟨go76, ((ji57) : Int).toNat * 4 + 1, none⟩ (.int .i64 (wrap64 (((rd_T48 y184 (ji57)).f1) + ((rd_T50 l0 x15_1).f2)))))) := ⟨aL HB⟩
    (try clear HO_8)
    (try clear HO_9)
    (try clear BK155)
    (try clear HB)
    generalize (w86.setCell ⟨go76, ((ji57) : Int).toNat * 4 + 1, none⟩ (.int .i64 (wrap64 (((rd_T48 y184 (ji57)).f1) + ((rd_T50 l0 x15_1).f2))))) = w88 at n0_ n1_ n2_ n3_ ⊢
    have HO_8 := n0_; have HO_9 := n1_; have BK155 := n2_; have HB := n3_; clear n0_ n1_ n2_ n3_; replace HO_8 := zA.mk (Kd.zI HO_8.out); replace HO_9 := zA.mk (Kd.zI HO_9.out); replace BK155 := zA.mk (zC BK155.out); replace HB := zA.mk (below_drew1 HB.out); have p187 : 0 ≤ ((ji57) : Int) := aD
    have q187 : (ji57) < (y186.length : Int) := (by have h_ : ((ji57) : Int) < ((x8_1.length : Int) : Int) := aD; first | (have e_ := (Kd.zN HO_8.out).1; omega) | simpa only [Ny184.out, Ny186.out, List.length_set] using h_)
    have ql187 : (((ji57) : Int) < ((x8_1.length : Int) : Int)) = True := eq_true (aD)
    obtain ⟨ad187, e187, hx187_0, hx187_1, hx187_2, hx187_3⟩ := at_T48 (Kd.zN HO_8.out).2.2 (ji57) p187 q187; obtain rfl : (⟨go76, 0, none⟩ : Addr) = ad187 := (by injection e187)
    (first | simp only [add_plain] at hx187_0 | simp only [add_at] at hx187_0 | simp only [Addr.add, Nat.zero_add] at hx187_0 | skip)
    (first | simp only [add_plain] at hx187_1 | simp only [add_at] at hx187_1 | simp only [Addr.add, Nat.zero_add] at hx187_1 | skip)
    (first | simp only [add_plain] at hx187_2 | simp only [add_at] at hx187_2 | simp only [Addr.add, Nat.zero_add] at hx187_2 | skip)
    (first | simp only [add_plain] at hx187_3 | simp only [add_at] at hx187_3 | simp only [Addr.add, Nat.zero_add] at hx187_3 | skip)
    replace p187 := eq_true p187; replace q187 := eq_true q187; refine start_ (n := 14) (S := fun w' => w'.cell? ⟨gb155, 0, none⟩ = some (.int .i32 ((rd_T50 l0 x15_1).f0)) ∧ w'.cell? ⟨gb155, 1, none⟩ = some (.int .i64 ((rd_T50 l0 x15_1).f1)) ∧ w'.cell? ⟨gb155, 2, none⟩ = some (.int .i64 ((rd_T50 l0 x15_1).f2)) ∧ w'.cell? ⟨go76, ((ji57)).toNat * 4, none⟩ = some (.int .i64 ((rd_T48 y186 (ji57)).f0)) ∧ w'.cell? ⟨go76, ((ji57)).toNat * 4 + 1, none⟩ = some (.int .i64 ((rd_T48 y186 (ji57)).f1)) ∧ w'.cell? ⟨go76, ((ji57)).toNat * 4 + 2, none⟩ = some (.int .i64 ((rd_T48 y186 (ji57)).f2)) ∧ w'.cell? ⟨go76, ((ji57)).toNat * 4 + 3, none⟩ = some (.int .u8 ((rd_T48 y186 (ji57)).f3))) (ds := [13]) #[false, false, false, false, false, false, false, false, false, false, false, false, false, false] (by kernel_rfl) rfl rfl ⟨(zE BK155.out 0).trans rfl, (zE BK155.out 1).trans rfl, (zE BK155.out 2).trans rfl, hx187_0, hx187_1, hx187_2, hx187_3⟩ (fun hHeld => ?_); refine with_tabW cells_Make.tab13 cells_Make.bits13 (fun HT_ HW_ => ?_)
    generalize w88.drew = w89 at HO_8 HO_9 BK155 HB HQ87 hx187_0 hx187_1 hx187_2 hx187_3 hHeld ⊢
    refine aP 0 (some 73) (tf_ 1 14) HT_ ?_
    refine aP 1 (some 74) (tf_ 2 14) HT_ ?_
    refine aP 2 (some 75) (tf_ 3 14) HT_ ?_
    refine aP 3 (some 76) (tf_ 4 14) HT_ ?_
    refine aP 5 (some 78) (tb_ 47 14) HT_ ?_
    refine aP 6 (some 79) (tb_ 111 14) HT_ ?_
    refine take_ (i := 4) (N := some 77) (v := ?_) (a' := ?_) (tf_ 7 14) rfl rfl (take_ofW HT_.out HW_.out (by kernel_rfl)) (fun _ _ _ h => h) (Or.inl ⟨by rfl, ?_⟩) hHeld ?_ ?_
    rotate_left
    ·rintro w' ⟨s0, s1, s2, s3, s4, s5, s6⟩
     go_simp
     with_reducible rfl
    rotate_left
    ·simp only [Act.put, sA_, sB_, sC_, i64_w, i32_w]
     rfl
    refine take_ (i := 7) (N := some 80) (v := ?_) (a' := ?_) (tf_ 8 14) rfl rfl (take_ofW HT_.out HW_.out (by kernel_rfl)) (fun _ _ _ h => h) (Or.inl ⟨by rfl, ?_⟩) hHeld ?_ ?_
    rotate_left
    ·rintro w' ⟨s0, s1, s2, s3, s4, s5, s6⟩
     go_simp
     with_reducible rfl
    rotate_left
    ·simp only [Act.put, sA_, sB_, sC_, i64_w, i32_w]
     rfl
    refine one_ (i := 8) (N := some 81) (tb_ 511 14) rfl rfl (one_of HT_.out (by kernel_rfl)) (by decide) (fun K hK => ?_)
    refine goes_ Try.func22 (by kernel_rfl) rfl #[vt2_, .int .i32 ((rd_T50 l0 x15_1).f0)] (by rfl) rfl rfl aT ?_
    with_reducible refine (prop_Table_Of.calls vt2_ a2 ((rd_T50 l0 x15_1).f0) t188 _ ?side1 A78.out).mono ?_
    (case side1 => exact TabAt.below HTa2.out (aL HB))
    rintro e w' ⟨rfl, ⟨nd, rfl⟩⟩
    refine ⟨_, rfl, ?_⟩
    have p81 : 0 ≤ ((ji57) : Int) := aD
    have q81 : ((ji57) : Int) < ((x8_1.length : Int) : Int) := aD
    obtain ⟨ce81, hcl81, hM81, hcc81, hfr81⟩ := Kd.R_elem HO_8.out z48 ((ji57) : Int) p81 q81; obtain rfl := k48_openM hM81
    have hx81_0 : World.cell? _ ⟨go76, ((ji57) : Int).toNat * 4, none⟩ = some (.int .i64 ((rd_T48 y186 (ji57)).f0)) := hcc81 0 _ rfl
    have hx81_1 : World.cell? _ ⟨go76, ((ji57) : Int).toNat * 4 + 1, none⟩ = some (.int .i64 ((rd_T48 y186 (ji57)).f1)) := hcc81 1 _ rfl
    have hx81_2 : World.cell? _ ⟨go76, ((ji57) : Int).toNat * 4 + 2, none⟩ = some (.int .i64 ((rd_T48 y186 (ji57)).f2)) := hcc81 2 _ rfl
    have hx81_3 : World.cell? _ ⟨go76, ((ji57) : Int).toNat * 4 + 3, none⟩ = some (.int .u8 ((rd_T48 y186 (ji57)).f3)) := hcc81 3 _ rfl
    have hf81_0 : World.frozen? _ ⟨go76, ((ji57) : Int).toNat * 4, none⟩ = false := hfr81 0
    have hf81_1 : World.frozen? _ ⟨go76, ((ji57) : Int).toNat * 4 + 1, none⟩ = false := hfr81 1
    have hf81_2 : World.frozen? _ ⟨go76, ((ji57) : Int).toNat * 4 + 2, none⟩ = false := hfr81 2
    have hf81_3 : World.frozen? _ ⟨go76, ((ji57) : Int).toNat * 4 + 3, none⟩ = false := hfr81 3
    (try clear hcl81); (try clear hcc81); (try clear hfr81); (try clear hM81)
    replace p81 := eq_true p81; replace q81 := eq_true q81; obtain ⟨cx90, gx90⟩ := Kd.R_typed HO_8.out _ rfl; have GG90_ := zA.mk gx90; clear gx90; obtain ⟨ce90, hcl90, hM90, hcc90, hfr90⟩ := Kd.R_elem HO_8.out z48 ((ji57) : Int) (aD) (by have h_ : ((ji57) : Int) < ((x8_1.length : Int) : Int) := aD; first | exact h_ | (have e_ := (Kd.zN HO_8.out).1; omega) | simpa using h_)
    obtain rfl := k48_openM hM90
    have HP90 := (Kd.R_seg HO_8.out ((ji57) : Int) (aD) (by have h_ : ((ji57) : Int) < ((x8_1.length : Int) : Int) := aD; first | exact h_ | (have e_ := (Kd.zN HO_8.out).1; omega) | simpa using h_) (seg := [.int .i64 ji80]) (j := 2) hcl90 hcc90 (show 3 ≤ 4 from by decide) (x' := (⟨(rd_T48 y186 (ji57)).f0, (rd_T48 y186 (ji57)).f1, ji80, (rd_T48 y186 (ji57)).f3⟩ : S48)) (k48_mkM _ _ _ (⟨(rd_T48 y186 (ji57)).f0, (rd_T48 y186 (ji57)).f1, ji80, (rd_T48 y186 (ji57)).f3⟩ : S48) ) (fun _ hk => hk)).1
    rw [← Ny189.out] at HP90; have HQ90 := zA.mk HP90; clear hcl90 hcc90 hfr90 hM90 HP90; refine hK.out _ _ ⟨(zE BK155.out 0).trans rfl, (zE BK155.out 1).trans rfl, (zE BK155.out 2).trans rfl, hHeld.2.2.2.1, hHeld.2.2.2.2.1, hHeld.2.2.2.2.2.1, hHeld.2.2.2.2.2.2⟩ (fun hHeld => ?_)
    clear hK K; refine norm_ (a' := ?_) ?_ ?_
    rotate_left
    ·show Act.put _ (some 81) _ = _
     simp only [Act.put, sA_, sB_, sC_, i64_w, i32_w]; rfl
    refine aP 9 (some 82) (tf_ 10 14) HT_ ?_
    refine aP 10 (some 83) (tf_ 11 14) HT_ ?_
    refine aP 11 (some 84) (tf_ 12 14) HT_ ?_
    refine aP 12 (some 85) (tf_ 13 14) HT_ ?_
    refine last_ (i := 13) (N := none) (tb_ 16383 14) rfl rfl (one_of HT_.out (by kernel_rfl)) (by decide) (fun K hK => ?_)
    refine skip_ (w1 := ?_) (by rfl) rfl ?_ ?_
    rotate_left
    ·go_simp
     rfl
    refine hK.out _ _ ?_
    clear hK K; refine done_ (done_of HT_.out (by kernel_rfl)) ?_
    try go_wp2
    go_roundg kj6
    case measure => have := HK1.out; have := HJ6.out; omega
    case rel => exact ⟨(y189), (x9_1), (wrap64 (x15_1 + 1)), aZ, H', ⟨by have := HK1.out; have := HJ6.out; omega⟩, ⟨aR HQ90⟩, ⟨by (with_reducible repeat (first | apply Kd.zG | apply Kd.zH | apply Kd.zI)); exact Kd.zS (Kd.zP (p := ⟨go76, ((ji57) : Int).toNat * 4 + 2, none⟩) (Kd.zT HO_9.out GG90_.out (by decide)) (fun _ hk => hk.2) (.int .i64 ji80)) (fun _ hk => trivial)⟩, ⟨aL HB⟩⟩
   subst c13; have H1 : ((cells_kind.f ((rd_T50 l0 x15_1).f0)).bind fun t157 => (if x8_1.length < 4398046511104 then ((some (x8_1 ++ [(⟨((rd_T50 l0 x15_1).f1), 0, 0, t157⟩ : S48)] : List (S48))).bind fun y158 => (if x9_1.length < 17592186044416 then ((some (x9_1 ++ [x15_1] : List Int)).bind fun y161 => (if 0 ≤ (wrap64 ((y158.length : Int) - 1)) then (if (wrap64 ((y158.length : Int) - 1)) < (y158.length : Int) then (if 0 ≤ (wrap64 ((y161.length : Int) - 1)) then (if (wrap64 ((y161.length : Int) - 1)) < (y161.length : Int) then (if (rd y161 (wrap64 ((y161.length : Int) - 1))) = x15_1 then ((some (y158.set ((wrap64 ((y158.length : Int) - 1)) : Int).toNat (⟨(rd_T48 y158 (wrap64 ((y158.length : Int) - 1))).f0, wrap64 (((rd_T48 y158 (wrap64 ((y158.length : Int) - 1))).f1) + ((rd_T50 l0 x15_1).f2)), (rd_T48 y158 (wrap64 ((y158.length : Int) - 1))).f2, (rd_T48 y158 (wrap64 ((y158.length : Int) - 1))).f3⟩ : S48) : List (S48))).bind fun y167 => ((prop_Table_Of.f a2 ((rd_T50 l0 x15_1).f0)).bind fun t169 => (cells_Make.l0 kj6 l0 l1 a2 (y167.set ((wrap64 ((y158.length : Int) - 1)) : Int).toNat (⟨(rd_T48 y167 (wrap64 ((y158.length : Int) - 1))).f0, (rd_T48 y167 (wrap64 ((y158.length : Int) - 1))).f1, mx ((rd_T48 y167 (wrap64 ((y158.length : Int) - 1))).f2) (mn t169 2), (rd_T48 y167 (wrap64 ((y158.length : Int) - 1))).f3⟩ : S48)) y161 l0 (l0.length : Int) (wrap64 (x15_1 + 1))))) else ((some (y158.set ((wrap64 ((y158.length : Int) - 1)) : Int).toNat (⟨(rd_T48 y158 (wrap64 ((y158.length : Int) - 1))).f0, (rd_T48 y158 (wrap64 ((y158.length : Int) - 1))).f1, (rd_T48 y158 (wrap64 ((y158.length : Int) - 1))).f2, 0⟩ : S48) : List (S48))).bind fun y171 => ((some (y171.set ((wrap64 ((y158.length : Int) - 1)) : Int).toNat (⟨(rd_T48 y171 (wrap64 ((y158.length : Int) - 1))).f0, wrap64 (((rd_T48 y171 (wrap64 ((y158.length : Int) - 1))).f1) + ((rd_T50 l0 x15_1).f2)), (rd_T48 y171 (wrap64 ((y158.length : Int) - 1))).f2, (rd_T48 y171 (wrap64 ((y158.length : Int) - 1))).f3⟩ : S48) : List (S48))).bind fun y173 => ((prop_Table_Of.f a2 ((rd_T50 l0 x15_1).f0)).bind fun t175 => (cells_Make.l0 kj6 l0 l1 a2 (y173.set ((wrap64 ((y158.length : Int) - 1)) : Int).toNat (⟨(rd_T48 y173 (wrap64 ((y158.length : Int) - 1))).f0, (rd_T48 y173 (wrap64 ((y158.length : Int) - 1))).f1, mx ((rd_T48 y173 (wrap64 ((y158.length : Int) - 1))).f2) (mn t175 2), (rd_T48 y173 (wrap64 ((y158.length : Int) - 1))).f3⟩ : S48)) y161 l0 (l0.length : Int) (wrap64 (x15_1 + 1))))))) else (none)) else (none)) else (none)) else (none))) else (none))) else (none))) = some (r1, r2) := by rw [if_pos rfl] at H; exact H
   clear H; have H := H1; clear H1; replace H := Option.bind_eq_some_iff.mp H; obtain ⟨t157, A140, H⟩ := H; replace H : (if x8_1.length < 4398046511104 then ((some (x8_1 ++ [(⟨((rd_T50 l0 x15_1).f1), 0, 0, t157⟩ : S48)] : List (S48))).bind fun y158 => (if x9_1.length < 17592186044416 then ((some (x9_1 ++ [x15_1] : List Int)).bind fun y161 => (if 0 ≤ (wrap64 ((y158.length : Int) - 1)) then (if (wrap64 ((y158.length : Int) - 1)) < (y158.length : Int) then (if 0 ≤ (wrap64 ((y161.length : Int) - 1)) then (if (wrap64 ((y161.length : Int) - 1)) < (y161.length : Int) then (if (rd y161 (wrap64 ((y161.length : Int) - 1))) = x15_1 then ((some (y158.set ((wrap64 ((y158.length : Int) - 1)) : Int).toNat (⟨(rd_T48 y158 (wrap64 ((y158.length : Int) - 1))).f0, wrap64 (((rd_T48 y158 (wrap64 ((y158.length : Int) - 1))).f1) + ((rd_T50 l0 x15_1).f2)), (rd_T48 y158 (wrap64 ((y158.length : Int) - 1))).f2, (rd_T48 y158 (wrap64 ((y158.length : Int) - 1))).f3⟩ : S48) : List (S48))).bind fun y167 => ((prop_Table_Of.f a2 ((rd_T50 l0 x15_1).f0)).bind fun t169 => (cells_Make.l0 kj6 l0 l1 a2 (y167.set ((wrap64 ((y158.length : Int) - 1)) : Int).toNat (⟨(rd_T48 y167 (wrap64 ((y158.length : Int) - 1))).f0, (rd_T48 y167 (wrap64 ((y158.length : Int) - 1))).f1, mx ((rd_T48 y167 (wrap64 ((y158.length : Int) - 1))).f2) (mn t169 2), (rd_T48 y167 (wrap64 ((y158.length : Int) - 1))).f3⟩ : S48)) y161 l0 (l0.length : Int) (wrap64 (x15_1 + 1))))) else ((some (y158.set ((wrap64 ((y158.length : Int) - 1)) : Int).toNat (⟨(rd_T48 y158 (wrap64 ((y158.length : Int) - 1))).f0, (rd_T48 y158 (wrap64 ((y158.length : Int) - 1))).f1, (rd_T48 y158 (wrap64 ((y158.length : Int) - 1))).f2, 0⟩ : S48) : List (S48))).bind fun y171 => ((some (y171.set ((wrap64 ((y158.length : Int) - 1)) : Int).toNat (⟨(rd_T48 y171 (wrap64 ((y158.length : Int) - 1))).f0, wrap64 (((rd_T48 y171 (wrap64 ((y158.length : Int) - 1))).f1) + ((rd_T50 l0 x15_1).f2)), (rd_T48 y171 (wrap64 ((y158.length : Int) - 1))).f2, (rd_T48 y171 (wrap64 ((y158.length : Int) - 1))).f3⟩ : S48) : List (S48))).bind fun y173 => ((prop_Table_Of.f a2 ((rd_T50 l0 x15_1).f0)).bind fun t175 => (cells_Make.l0 kj6 l0 l1 a2 (y173.set ((wrap64 ((y158.length : Int) - 1)) : Int).toNat (⟨(rd_T48 y173 (wrap64 ((y158.length : Int) - 1))).f0, (rd_T48 y173 (wrap64 ((y158.length : Int) - 1))).f1, mx ((rd_T48 y173 (wrap64 ((y158.length : Int) - 1))).f2) (mn t175 2), (rd_T48 y173 (wrap64 ((y158.length : Int) - 1))).f3⟩ : S48)) y161 l0 (l0.length : Int) (wrap64 (x15_1 + 1))))))) else (none)) else (none)) else (none)) else (none))) else (none))) else (none)) = some (r1, r2) := H
   have A14 := zA.mk A140; clear A140; by_cases c15 : x8_1.length < 4398046511104
   rotate_left
   ·rw [if_neg c15] at H
    exact absurd H (by simp)
   rw [if_pos c15] at H; have LMc15 := zA.mk c15; clear c15; obtain ⟨y158, hy158⟩ : ∃ y_ : List (S48), y_ = (x8_1 ++ [(⟨((rd_T50 l0 x15_1).f1), 0, 0, t157⟩ : S48)]) := ⟨_, rfl⟩; replace H : (if x9_1.length < 17592186044416 then ((some (x9_1 ++ [x15_1] : List Int)).bind fun y161 => (if 0 ≤ (wrap64 ((y158.length : Int) - 1)) then (if (wrap64 ((y158.length : Int) - 1)) < (y158.length : Int) then (if 0 ≤ (wrap64 ((y161.length : Int) - 1)) then (if (wrap64 ((y161.length : Int) - 1)) < (y161.length : Int) then (if (rd y161 (wrap64 ((y161.length : Int) - 1))) = x15_1 then ((some (y158.set ((wrap64 ((y158.length : Int) - 1)) : Int).toNat (⟨(rd_T48 y158 (wrap64 ((y158.length : Int) - 1))).f0, wrap64 (((rd_T48 y158 (wrap64 ((y158.length : Int) - 1))).f1) + ((rd_T50 l0 x15_1).f2)), (rd_T48 y158 (wrap64 ((y158.length : Int) - 1))).f2, (rd_T48 y158 (wrap64 ((y158.length : Int) - 1))).f3⟩ : S48) : List (S48))).bind fun y167 => ((prop_Table_Of.f a2 ((rd_T50 l0 x15_1).f0)).bind fun t169 => (cells_Make.l0 kj6 l0 l1 a2 (y167.set ((wrap64 ((y158.length : Int) - 1)) : Int).toNat (⟨(rd_T48 y167 (wrap64 ((y158.length : Int) - 1))).f0, (rd_T48 y167 (wrap64 ((y158.length : Int) - 1))).f1, mx ((rd_T48 y167 (wrap64 ((y158.length : Int) - 1))).f2) (mn t169 2), (rd_T48 y167 (wrap64 ((y158.length : Int) - 1))).f3⟩ : S48)) y161 l0 (l0.length : Int) (wrap64 (x15_1 + 1))))) else ((some (y158.set ((wrap64 ((y158.length : Int) - 1)) : Int).toNat (⟨(rd_T48 y158 (wrap64 ((y158.length : Int) - 1))).f0, (rd_T48 y158 (wrap64 ((y158.length : Int) - 1))).f1, (rd_T48 y158 (wrap64 ((y158.length : Int) - 1))).f2, 0⟩ : S48) : List (S48))).bind fun y171 => ((some (y171.set ((wrap64 ((y158.length : Int) - 1)) : Int).toNat (⟨(rd_T48 y171 (wrap64 ((y158.length : Int) - 1))).f0, wrap64 (((rd_T48 y171 (wrap64 ((y158.length : Int) - 1))).f1) + ((rd_T50 l0 x15_1).f2)), (rd_T48 y171 (wrap64 ((y158.length : Int) - 1))).f2, (rd_T48 y171 (wrap64 ((y158.length : Int) - 1))).f3⟩ : S48) : List (S48))).bind fun y173 => ((prop_Table_Of.f a2 ((rd_T50 l0 x15_1).f0)).bind fun t175 => (cells_Make.l0 kj6 l0 l1 a2 (y173.set ((wrap64 ((y158.length : Int) - 1)) : Int).toNat (⟨(rd_T48 y173 (wrap64 ((y158.length : Int) - 1))).f0, (rd_T48 y173 (wrap64 ((y158.length : Int) - 1))).f1, mx ((rd_T48 y173 (wrap64 ((y158.length : Int) - 1))).f2) (mn t175 2), (rd_T48 y173 (wrap64 ((y158.length : Int) - 1))).f3⟩ : S48)) y161 l0 (l0.length : Int) (wrap64 (x15_1 + 1))))))) else (none)) else (none)) else (none)) else (none))) else (none)) = some (r1, r2) := by first | (rw [hy158]; with_reducible exact H) | (have H2_ := (Option.bind_some _ _).symm.trans H; rw [hy158]; with_reducible exact H2_) | (have H2_ := (Option.bind_some _ _).symm.trans H; with_reducible exact H2_) | with_reducible exact H | (rw [hy158]; exact H) | exact H
   have Ny158 := zA.mk hy158; clear hy158; by_cases c16 : x9_1.length < 17592186044416
   rotate_left
   ·rw [if_neg c16] at H
    exact absurd H (by simp)
   rw [if_pos c16] at H; have LMc16 := zA.mk c16; clear c16; obtain ⟨y161, hy161⟩ : ∃ y_ : List Int, y_ = (x9_1 ++ [x15_1]) := ⟨_, rfl⟩; replace H : (if 0 ≤ (wrap64 ((y158.length : Int) - 1)) then (if (wrap64 ((y158.length : Int) - 1)) < (y158.length : Int) then (if 0 ≤ (wrap64 ((y161.length : Int) - 1)) then (if (wrap64 ((y161.length : Int) - 1)) < (y161.length : Int) then (if (rd y161 (wrap64 ((y161.length : Int) - 1))) = x15_1 then ((some (y158.set ((wrap64 ((y158.length : Int) - 1)) : Int).toNat (⟨(rd_T48 y158 (wrap64 ((y158.length : Int) - 1))).f0, wrap64 (((rd_T48 y158 (wrap64 ((y158.length : Int) - 1))).f1) + ((rd_T50 l0 x15_1).f2)), (rd_T48 y158 (wrap64 ((y158.length : Int) - 1))).f2, (rd_T48 y158 (wrap64 ((y158.length : Int) - 1))).f3⟩ : S48) : List (S48))).bind fun y167 => ((prop_Table_Of.f a2 ((rd_T50 l0 x15_1).f0)).bind fun t169 => (cells_Make.l0 kj6 l0 l1 a2 (y167.set ((wrap64 ((y158.length : Int) - 1)) : Int).toNat (⟨(rd_T48 y167 (wrap64 ((y158.length : Int) - 1))).f0, (rd_T48 y167 (wrap64 ((y158.length : Int) - 1))).f1, mx ((rd_T48 y167 (wrap64 ((y158.length : Int) - 1))).f2) (mn t169 2), (rd_T48 y167 (wrap64 ((y158.length : Int) - 1))).f3⟩ : S48)) y161 l0 (l0.length : Int) (wrap64 (x15_1 + 1))))) else ((some (y158.set ((wrap64 ((y158.length : Int) - 1)) : Int).toNat (⟨(rd_T48 y158 (wrap64 ((y158.length : Int) - 1))).f0, (rd_T48 y158 (wrap64 ((y158.length : Int) - 1))).f1, (rd_T48 y158 (wrap64 ((y158.length : Int) - 1))).f2, 0⟩ : S48) : List (S48))).bind fun y171 => ((some (y171.set ((wrap64 ((y158.length : Int) - 1)) : Int).toNat (⟨(rd_T48 y171 (wrap64 ((y158.length : Int) - 1))).f0, wrap64 (((rd_T48 y171 (wrap64 ((y158.length : Int) - 1))).f1) + ((rd_T50 l0 x15_1).f2)), (rd_T48 y171 (wrap64 ((y158.length : Int) - 1))).f2, (rd_T48 y171 (wrap64 ((y158.length : Int) - 1))).f3⟩ : S48) : List (S48))).bind fun y173 => ((prop_Table_Of.f a2 ((rd_T50 l0 x15_1).f0)).bind fun t175 => (cells_Make.l0 kj6 l0 l1 a2 (y173.set ((wrap64 ((y158.length : Int) - 1)) : Int).toNat (⟨(rd_T48 y173 (wrap64 ((y158.length : Int) - 1))).f0, (rd_T48 y173 (wrap64 ((y158.length : Int) - 1))).f1, mx ((rd_T48 y173 (wrap64 ((y158.length : Int) - 1))).f2) (mn t175 2), (rd_T48 y173 (wrap64 ((y158.length : Int) - 1))).f3⟩ : S48)) y161 l0 (l0.length : Int) (wrap64 (x15_1 + 1))))))) else (none)) else (none)) else (none)) else (none)) = some (r1, r2) := by first | (rw [hy161]; with_reducible exact H) | (have H2_ := (Option.bind_some _ _).symm.trans H; rw [hy161]; with_reducible exact H2_) | (have H2_ := (Option.bind_some _ _).symm.trans H; with_reducible exact H2_) | with_reducible exact H | (rw [hy161]; exact H) | exact H
   have Ny161 := zA.mk hy161; clear hy161; obtain ⟨ji17, hji17⟩ : ∃ j_ : Int, (wrap64 ((y158.length : Int) - 1)) = j_ := ⟨_, rfl⟩; replace H : (if 0 ≤ (ji17) then (if (ji17) < (y158.length : Int) then (if 0 ≤ (wrap64 ((y161.length : Int) - 1)) then (if (wrap64 ((y161.length : Int) - 1)) < (y161.length : Int) then (if (rd y161 (wrap64 ((y161.length : Int) - 1))) = x15_1 then ((some (y158.set ((ji17) : Int).toNat (⟨(rd_T48 y158 (ji17)).f0, wrap64 (((rd_T48 y158 (ji17)).f1) + ((rd_T50 l0 x15_1).f2)), (rd_T48 y158 (ji17)).f2, (rd_T48 y158 (ji17)).f3⟩ : S48) : List (S48))).bind fun y167 => ((prop_Table_Of.f a2 ((rd_T50 l0 x15_1).f0)).bind fun t169 => (cells_Make.l0 kj6 l0 l1 a2 (y167.set ((ji17) : Int).toNat (⟨(rd_T48 y167 (ji17)).f0, (rd_T48 y167 (ji17)).f1, mx ((rd_T48 y167 (ji17)).f2) (mn t169 2), (rd_T48 y167 (ji17)).f3⟩ : S48)) y161 l0 (l0.length : Int) (wrap64 (x15_1 + 1))))) else ((some (y158.set ((ji17) : Int).toNat (⟨(rd_T48 y158 (ji17)).f0, (rd_T48 y158 (ji17)).f1, (rd_T48 y158 (ji17)).f2, 0⟩ : S48) : List (S48))).bind fun y171 => ((some (y171.set ((ji17) : Int).toNat (⟨(rd_T48 y171 (ji17)).f0, wrap64 (((rd_T48 y171 (ji17)).f1) + ((rd_T50 l0 x15_1).f2)), (rd_T48 y171 (ji17)).f2, (rd_T48 y171 (ji17)).f3⟩ : S48) : List (S48))).bind fun y173 => ((prop_Table_Of.f a2 ((rd_T50 l0 x15_1).f0)).bind fun t175 => (cells_Make.l0 kj6 l0 l1 a2 (y173.set ((ji17) : Int).toNat (⟨(rd_T48 y173 (ji17)).f0, (rd_T48 y173 (ji17)).f1, mx ((rd_T48 y173 (ji17)).f2) (mn t175 2), (rd_T48 y173 (ji17)).f3⟩ : S48)) y161 l0 (l0.length : Int) (wrap64 (x15_1 + 1))))))) else (none)) else (none)) else (none)) else (none)) = some (r1, r2) := by first | (rw [hji17] at H; exact H) | (simp only [hji17] at H ⊢; exact H)
   (try rw [hji17] at A14)
   have hji17w : (IntKind.i64.wrap ((y158.length : Int) - 1)) = ji17 := (i64_w _).trans hji17
   by_cases c18 : 0 ≤ (ji17)
   rotate_left
   ·rw [if_neg c18] at H
    exact absurd H (by simp)
   rw [if_pos c18] at H; have c18b0 : decide (0 ≤ (ji17)) = true := decide_eq_true c18
   clear c18; by_cases c19 : (ji17) < (y158.length : Int)
   rotate_left
   ·rw [if_neg c19] at H
    exact absurd H (by simp)
   rw [if_pos c19] at H; have c19b0 : decide ((ji17) < (y158.length : Int)) = true := decide_eq_true c19
   clear c19; obtain ⟨ji20, hji20⟩ : ∃ j_ : Int, (wrap64 ((y161.length : Int) - 1)) = j_ := ⟨_, rfl⟩; replace H : (if 0 ≤ (ji20) then (if (ji20) < (y161.length : Int) then (if (rd y161 (ji20)) = x15_1 then ((some (y158.set ((ji17) : Int).toNat (⟨(rd_T48 y158 (ji17)).f0, wrap64 (((rd_T48 y158 (ji17)).f1) + ((rd_T50 l0 x15_1).f2)), (rd_T48 y158 (ji17)).f2, (rd_T48 y158 (ji17)).f3⟩ : S48) : List (S48))).bind fun y167 => ((prop_Table_Of.f a2 ((rd_T50 l0 x15_1).f0)).bind fun t169 => (cells_Make.l0 kj6 l0 l1 a2 (y167.set ((ji17) : Int).toNat (⟨(rd_T48 y167 (ji17)).f0, (rd_T48 y167 (ji17)).f1, mx ((rd_T48 y167 (ji17)).f2) (mn t169 2), (rd_T48 y167 (ji17)).f3⟩ : S48)) y161 l0 (l0.length : Int) (wrap64 (x15_1 + 1))))) else ((some (y158.set ((ji17) : Int).toNat (⟨(rd_T48 y158 (ji17)).f0, (rd_T48 y158 (ji17)).f1, (rd_T48 y158 (ji17)).f2, 0⟩ : S48) : List (S48))).bind fun y171 => ((some (y171.set ((ji17) : Int).toNat (⟨(rd_T48 y171 (ji17)).f0, wrap64 (((rd_T48 y171 (ji17)).f1) + ((rd_T50 l0 x15_1).f2)), (rd_T48 y171 (ji17)).f2, (rd_T48 y171 (ji17)).f3⟩ : S48) : List (S48))).bind fun y173 => ((prop_Table_Of.f a2 ((rd_T50 l0 x15_1).f0)).bind fun t175 => (cells_Make.l0 kj6 l0 l1 a2 (y173.set ((ji17) : Int).toNat (⟨(rd_T48 y173 (ji17)).f0, (rd_T48 y173 (ji17)).f1, mx ((rd_T48 y173 (ji17)).f2) (mn t175 2), (rd_T48 y173 (ji17)).f3⟩ : S48)) y161 l0 (l0.length : Int) (wrap64 (x15_1 + 1))))))) else (none)) else (none)) = some (r1, r2) := by first | (rw [hji20] at H; exact H) | (simp only [hji20] at H ⊢; exact H)
   (try rw [hji20] at A14)
   have hji20w : (IntKind.i64.wrap ((y161.length : Int) - 1)) = ji20 := (i64_w _).trans hji20
   by_cases c21 : 0 ≤ (ji20)
   rotate_left
   ·rw [if_neg c21] at H
    exact absurd H (by simp)
   rw [if_pos c21] at H; have c21b0 : decide (0 ≤ (ji20)) = true := decide_eq_true c21
   clear c21; by_cases c22 : (ji20) < (y161.length : Int)
   rotate_left
   ·rw [if_neg c22] at H
    exact absurd H (by simp)
   rw [if_pos c22] at H; have c22b0 : decide ((ji20) < (y161.length : Int)) = true := decide_eq_true c22
   clear c22; by_cases c23 : (rd y161 (ji20)) = x15_1
   ·rw [if_pos c23] at H
    have c23b0 : ((rd y161 (ji20)) == x15_1) = true := beq_iff_eq.mpr c23
    have c23b1 : ((rd y161 (ji20)) != x15_1) = false := bne_eq_false_iff_eq.mpr c23
    clear c23; obtain ⟨y167, hy167⟩ : ∃ y_ : List (S48), y_ = (y158.set ((ji17) : Int).toNat (⟨(rd_T48 y158 (ji17)).f0, wrap64 (((rd_T48 y158 (ji17)).f1) + ((rd_T50 l0 x15_1).f2)), (rd_T48 y158 (ji17)).f2, (rd_T48 y158 (ji17)).f3⟩ : S48)) := ⟨_, rfl⟩; replace H : ((prop_Table_Of.f a2 ((rd_T50 l0 x15_1).f0)).bind fun t169 => (cells_Make.l0 kj6 l0 l1 a2 (y167.set ((ji17) : Int).toNat (⟨(rd_T48 y167 (ji17)).f0, (rd_T48 y167 (ji17)).f1, mx ((rd_T48 y167 (ji17)).f2) (mn t169 2), (rd_T48 y167 (ji17)).f3⟩ : S48)) y161 l0 (l0.length : Int) (wrap64 (x15_1 + 1)))) = some (r1, r2) := by first | (rw [hy167]; with_reducible exact H) | (have H2_ := (Option.bind_some _ _).symm.trans H; rw [hy167]; with_reducible exact H2_) | (have H2_ := (Option.bind_some _ _).symm.trans H; with_reducible exact H2_) | with_reducible exact H | (rw [hy167]; exact H) | exact H
    have Ny167 := zA.mk hy167; clear hy167; replace H := Option.bind_eq_some_iff.mp H; obtain ⟨t169, A250, H⟩ := H; replace H : (cells_Make.l0 kj6 l0 l1 a2 (y167.set ((ji17) : Int).toNat (⟨(rd_T48 y167 (ji17)).f0, (rd_T48 y167 (ji17)).f1, mx ((rd_T48 y167 (ji17)).f2) (mn t169 2), (rd_T48 y167 (ji17)).f3⟩ : S48)) y161 l0 (l0.length : Int) (wrap64 (x15_1 + 1))) = some (r1, r2) := H; have A25 := zA.mk A250; clear A250; obtain ⟨ji26, hji26⟩ : ∃ j_ : Int, (mn t169 2) = j_ := ⟨_, rfl⟩; replace H : (cells_Make.l0 kj6 l0 l1 a2 (y167.set ((ji17) : Int).toNat (⟨(rd_T48 y167 (ji17)).f0, (rd_T48 y167 (ji17)).f1, mx ((rd_T48 y167 (ji17)).f2) (ji26), (rd_T48 y167 (ji17)).f3⟩ : S48)) y161 l0 (l0.length : Int) (wrap64 (x15_1 + 1))) = some (r1, r2) := by first | (rw [hji26] at H; exact H) | (simp only [hji26] at H ⊢; exact H)
    (try rw [hji26] at A14)
    (try rw [hji26] at A25)
    (try (have hji26h : ji26 ≤ 2 := by (rw [← hji26]; unfold mn; (repeat' split) <;> omega)))
    (try (have hji26g : ji26 ≤ 64 := by omega))
    have hji26_ : (if 2 < t169 then 2 else t169) = ji26 := hji26
    obtain ⟨ji27, hji27⟩ : ∃ j_ : Int, (mx ((rd_T48 y167 (ji17)).f2) (ji26)) = j_ := ⟨_, rfl⟩; replace H : (cells_Make.l0 kj6 l0 l1 a2 (y167.set ((ji17) : Int).toNat (⟨(rd_T48 y167 (ji17)).f0, (rd_T48 y167 (ji17)).f1, ji27, (rd_T48 y167 (ji17)).f3⟩ : S48)) y161 l0 (l0.length : Int) (wrap64 (x15_1 + 1))) = some (r1, r2) := by first | (rw [hji27] at H; exact H) | (simp only [hji27] at H ⊢; exact H)
    (try rw [hji27] at A14)
    (try rw [hji27] at A25)
    have hji27_ : (if ((rd_T48 y167 (ji17)).f2) < (ji26) then (ji26) else ((rd_T48 y167 (ji17)).f2)) = ji27 := hji27
    obtain ⟨y170, hy170⟩ : ∃ y_ : List (S48), y_ = (y167.set ((ji17) : Int).toNat (⟨(rd_T48 y167 (ji17)).f0, (rd_T48 y167 (ji17)).f1, ji27, (rd_T48 y167 (ji17)).f3⟩ : S48)) := ⟨_, rfl⟩; replace H : (cells_Make.l0 kj6 l0 l1 a2 y170 y161 l0 (l0.length : Int) (wrap64 (x15_1 + 1))) = some (r1, r2) := by first | (rw [hy170]; with_reducible exact H) | (have H2_ := (Option.bind_some _ _).symm.trans H; rw [hy170]; with_reducible exact H2_) | (have H2_ := (Option.bind_some _ _).symm.trans H; with_reducible exact H2_) | with_reducible exact H | (rw [hy170]; exact H) | exact H
    have Ny170 := zA.mk hy170; clear hy170; have H' := zA.mk H
    clear H; try go_wp2
    replace HO_8 := zA.mk (Kd.zI HO_8.out); replace HO_9 := zA.mk (Kd.zI HO_9.out); replace BK155 := zA.mk (zC BK155.out); replace HB := zA.mk (below_drew1 HB.out); refine start_ (n := 10) (S := fun w' => w'.cell? ⟨gb155, 0, none⟩ = some (.int .i32 ((rd_T50 l0 x15_1).f0)) ∧ w'.cell? ⟨gb155, 1, none⟩ = some (.int .i64 ((rd_T50 l0 x15_1).f1)) ∧ w'.cell? ⟨gb155, 2, none⟩ = some (.int .i64 ((rd_T50 l0 x15_1).f2))) (ds := []) #[false, false, false, false, false, false, false, false, false, false] (by kernel_rfl) rfl rfl ⟨(zE BK155.out 0).trans rfl, (zE BK155.out 1).trans rfl, (zE BK155.out 2).trans rfl⟩ (fun hHeld => ?_); refine with_tabW cells_Make.tab7 cells_Make.bits7 (fun HT_ HW_ => ?_)
    generalize wc.drew = w29 at HO_8 HO_9 BK155 HB hHeld ⊢
    refine aP 0 (some 35) (tf_ 1 10) HT_ ?_
    refine aP 1 (some 36) (tf_ 2 10) HT_ ?_
    refine aP 3 (some 38) (tb_ 11 10) HT_ ?_
    refine take_ (i := 2) (N := some 37) (v := ?_) (a' := ?_) (tf_ 4 10) rfl rfl (take_ofW HT_.out HW_.out (by kernel_rfl)) (fun _ _ _ h => h) (Or.inl ⟨by rfl, ?_⟩) hHeld ?_ ?_
    rotate_left
    ·rintro w' ⟨s0, s1, s2⟩
     go_simp
     with_reducible rfl
    rotate_left
    ·simp only [Act.put, sA_, sB_, sC_, i64_w, i32_w]
     rfl
    refine take_ (i := 4) (N := some 39) (v := ?_) (a' := ?_) (tf_ 5 10) rfl rfl (take_ofW HT_.out HW_.out (by kernel_rfl)) (fun _ _ _ h => h) (Or.inl ⟨by rfl, ?_⟩) hHeld ?_ ?_
    rotate_left
    ·rintro w' ⟨s0, s1, s2⟩
     go_simp
     with_reducible rfl
    rotate_left
    ·simp only [Act.put, sA_, sB_, sC_, i64_w, i32_w]
     rfl
    refine one_ (i := 5) (N := some 40) (tb_ 63 10) rfl rfl (one_of HT_.out (by kernel_rfl)) (by decide) (fun K hK => ?_)
    refine goes_ Try.func36 (by kernel_rfl) rfl #[.int .i32 ((rd_T50 l0 x15_1).f0)] (by rfl) rfl rfl aT ?_
    with_reducible refine (cells_kind.calls ((rd_T50 l0 x15_1).f0) t157 _ A14.out).mono ?_
    rintro e w' ⟨rfl, ⟨nd, rfl⟩⟩
    refine ⟨_, rfl, ?_⟩
    refine hK.out _ _ ⟨(zE BK155.out 0).trans rfl, (zE BK155.out 1).trans rfl, (zE BK155.out 2).trans rfl⟩ (fun hHeld => ?_)
    clear hK K; refine norm_ (a' := ?_) ?_ ?_
    rotate_left
    ·show Act.put _ (some 40) _ = _
     simp only [Act.put, sA_, sB_, sC_, i64_w, i32_w]; rfl
    refine aP 6 (some 41) (tf_ 7 10) HT_ ?_
    refine one_ (i := 7) (N := some 42) (tb_ 255 10) rfl rfl (one_of HT_.out (by kernel_rfl)) (by decide) (fun K hK => ?_)
    refine value_ (w1 := ?_) (v := ?_) (by rfl) rfl ?_ ?_
    rotate_left 2
    ·go_simp
     constructor
     ·rfl
     rfl
    refine hK.out _ _ ⟨(zE (zB BK155.out _) 0).trans rfl, (zE (zB BK155.out _) 1).trans rfl, (zE (zB BK155.out _) 2).trans rfl⟩ (fun hHeld => ?_)
    clear hK K; refine norm_ (a' := ?_) ?_ ?_
    rotate_left
    ·show Act.put _ (some 42) _ = _
     simp only [Act.put, sA_, sB_, sC_, i64_w, i32_w]; rfl
    refine one_ (i := 8) (N := some 43) (tb_ 511 10) rfl rfl (one_of HT_.out (by kernel_rfl)) (by decide) (fun K hK => ?_)
    refine Kd.R_append_step k48 (w0 := w) w.heap.size (by rfl) (.tmp 35) (.tmp 42) 34 48 (.agg #[(.int .i64 0), (.int .i64 0), (.int .i64 0), (.int .u8 0)]) 32 rfl Try.underlying34 info48 rfl (by decide) (by omega) u8 x8_1 (⟨((rd_T50 l0 x15_1).f1), 0, 0, t157⟩ : S48) [.int .i64 ((rd_T50 l0 x15_1).f1), .int .i64 0, .int .i64 0, .int .u8 t157] (fun _ => True) (fun _ => False) rfl rfl ?aP (fun _ hk => hk.elim) ?aF ?aO ?aB ?aS ?aL ?_
    (case aP => exact k48_mkM _ _ _ (⟨((rd_T50 l0 x15_1).f1), 0, 0, t157⟩ : S48))
    (case aB => exact (aL HB))
    (case aF => exact (fun _ _ => trivial))
    (case aO => exact (aR HO_8))
    (case aS => exact (below_size (aL HB)))
    (case aL => have := LMc15.out; omega)
    intro v159 w30 ho hb hg hat
    rw [← Ny158.out] at ho; replace HO_9 := zA.mk (Kd.R_over' (aR HO_9) (Kd.R_typed (aR HO_8)) (by decide) hg)
    replace BK155 := zA.mk (blk_grown (g := gb155) (o := .cells #[.int .i32 ((rd_T50 l0 x15_1).f0), .int .i64 ((rd_T50 l0 x15_1).f1), .int .i64 ((rd_T50 l0 x15_1).f2)] 50 (0, 0)) (aB BK155) hg (Kd.R_ne HO_8.out BK155.out (by decide)))
    replace HB := zA.mk (hb); have HO160 := zA.mk (ho); clear HO_8; clear ho hb hg hat; refine hK.out _ _ ⟨(zE BK155.out 0).trans rfl, (zE BK155.out 1).trans rfl, (zE BK155.out 2).trans rfl⟩ (fun hHeld => ?_)
    clear hK K; refine norm_ (a' := ?_) ?_ ?_
    rotate_left
    ·show Act.put _ (some 43) _ = _
     simp only [Act.put, sA_, sB_, sC_, i64_w, i32_w]; rfl
    refine aP 9 (some 8) (tb_ 1023 10) HT_ ?_
    refine done_ (done_of HT_.out (by kernel_rfl)) ?_
    try go_wp2_with (first | ((with_reducible refine gate_builtin (b := .append) (xs := #[.tmp 44, .tmp 46]) rfl ?_); (try (refine gate_guard (by rfl) ?_; dsimp only)); at_builtin; refine Kd.R_append (Kd.int .i64) (w0 := w) w.heap.size rfl (.tmp 44) (.tmp 46) 35 3 (.int .i64 0) 8 rfl Try.underlying35 info3 rfl (by decide) (by omega) u9 x9_1 x15_1 [.int .i64 x15_1] (fun _ => True) (fun _ => False) rfl rfl ?aP (fun _ hk => hk.elim) ?aF ?aO ?aB ?aS ?aL ?_; (case aP => exact rfl); (case aB => exact (aL HB)); (case aF => exact (fun _ _ => trivial)); (case aO => exact (aR HO_9)); (case aS => exact (below_size (aL HB))); (case aL => have := LMc16.out; omega); intro v162 w31 ho hb hg hat; rw [← Ny161.out] at ho; replace BK155 := zA.mk (blk_grown (g := gb155) (o := .cells #[.int .i32 ((rd_T50 l0 x15_1).f0), .int .i64 ((rd_T50 l0 x15_1).f1), .int .i64 ((rd_T50 l0 x15_1).f2)] 50 (0, 0)) (aB BK155) hg (Kd.R_ne HO_9.out BK155.out (by decide))); replace HO160 := zA.mk (Kd.R_over' (aR HO160) (Kd.R_typed (aR HO_9)) (by decide) hg); replace HB := zA.mk (hb); have HO163 := zA.mk (ho); clear HO_9; clear ho hb hg hat; obtain ⟨Ao32, co32, eo32⟩ := Kd.zQ HO160.out; subst eo32; have p164 : 0 ≤ ((ji17) : Int) := aD; have q164 : (ji17) < (y158.length : Int) := aD; obtain ⟨ad164, e164, hx164_0, hx164_1, hx164_2, hx164_3⟩ := at_T48 (Kd.zN HO160.out).2.2 (ji17) p164 q164; cases e164; replace p164 := eq_true p164; replace q164 := eq_true q164; obtain ⟨Ao33, co33, eo33⟩ := Kd.zQ HO163.out; subst eo33; have p165 : 0 ≤ ((ji20) : Int) := aD; have q165 : (ji20) < (y161.length : Int) := aD; obtain ⟨ad165, e165, hx165_0⟩ := Kd.at_int (Kd.zN HO163.out).2.2 (ji20) p165 q165; cases e165; replace p165 := eq_true p165; replace q165 := eq_true q165))
    replace HO160 := zA.mk (Kd.zI HO160.out); replace HO163 := zA.mk (Kd.zI HO163.out); replace BK155 := zA.mk (zC BK155.out); replace HB := zA.mk (below_drew1 HB.out); have p166 : 0 ≤ ((ji17) : Int) := aD
    have q166 : (ji17) < (y158.length : Int) := aD
    obtain ⟨ad166, e166, hx166_0, hx166_1, hx166_2, hx166_3⟩ := at_T48 (Kd.zN HO160.out).2.2 (ji17) p166 q166; obtain rfl : ad164 = ad166 := (by injection e166)
    replace p166 := eq_true p166; replace q166 := eq_true q166; have p24 : 0 ≤ ((ji17) : Int) := aD
    have q24 : ((ji17) : Int) < ((y158.length : Int) : Int) := aD
    obtain ⟨go24, co24, eo24, gb24, gl24, cl24, HG24⟩ := Kd.R_form HO160.out (by omega)
    (first | cases eo24 | (injection eo24 with ea_ en_ ec_; (first | subst ea_ | (injection ea_ with ea_; subst ea_)); subst ec_; clear en_))
    have GB24 := zA.mk gb24; have GG24 := zA.mk HG24; clear gb24 gl24 HG24; (first | simp only [add_plain] at hx164_0 | skip)
    (first | simp only [add_plain] at hx164_1 | skip)
    (first | simp only [add_plain] at hx164_2 | skip)
    (first | simp only [add_plain] at hx164_3 | skip)
    (first | simp only [add_plain] at hx166_0 | skip)
    (first | simp only [add_plain] at hx166_1 | skip)
    (first | simp only [add_plain] at hx166_2 | skip)
    (first | simp only [add_plain] at hx166_3 | skip)
    obtain ⟨ce24, hcl24, hM24, hcc24, hfr24⟩ := Kd.R_elem HO160.out z48 ((ji17) : Int) p24 q24; obtain rfl := k48_openM hM24
    have hx24_0 : World.cell? _ ⟨go24, ((ji17) : Int).toNat * 4, none⟩ = some (.int .i64 ((rd_T48 y158 (ji17)).f0)) := hcc24 0 _ rfl
    have hx24_1 : World.cell? _ ⟨go24, ((ji17) : Int).toNat * 4 + 1, none⟩ = some (.int .i64 ((rd_T48 y158 (ji17)).f1)) := hcc24 1 _ rfl
    have hx24_2 : World.cell? _ ⟨go24, ((ji17) : Int).toNat * 4 + 2, none⟩ = some (.int .i64 ((rd_T48 y158 (ji17)).f2)) := hcc24 2 _ rfl
    have hx24_3 : World.cell? _ ⟨go24, ((ji17) : Int).toNat * 4 + 3, none⟩ = some (.int .u8 ((rd_T48 y158 (ji17)).f3)) := hcc24 3 _ rfl
    have hf24_0 : World.frozen? _ ⟨go24, ((ji17) : Int).toNat * 4, none⟩ = false := hfr24 0
    have hf24_1 : World.frozen? _ ⟨go24, ((ji17) : Int).toNat * 4 + 1, none⟩ = false := hfr24 1
    have hf24_2 : World.frozen? _ ⟨go24, ((ji17) : Int).toNat * 4 + 2, none⟩ = false := hfr24 2
    have hf24_3 : World.frozen? _ ⟨go24, ((ji17) : Int).toNat * 4 + 3, none⟩ = false := hfr24 3
    (try clear hcl24); (try clear hcc24); (try clear hfr24); (try clear hM24)
    replace p24 := eq_true p24; replace q24 := eq_true q24; obtain ⟨ce35, hcl35, hM35, hcc35, hfr35⟩ := Kd.R_elem HO160.out z48 ((ji17) : Int) (aD) (by have h_ : ((ji17) : Int) < ((y158.length : Int) : Int) := aD; first | exact h_ | (have e_ := (Kd.zN HO160.out).1; omega) | simpa using h_)
    obtain rfl := k48_openM hM35
    have HP35 := (Kd.R_seg HO160.out ((ji17) : Int) (aD) (by have h_ : ((ji17) : Int) < ((y158.length : Int) : Int) := aD; first | exact h_ | (have e_ := (Kd.zN HO160.out).1; omega) | simpa using h_) (seg := [.int .i64 (wrap64 (((rd_T48 y158 (ji17)).f1) + ((rd_T50 l0 x15_1).f2)))]) (j := 1) hcl35 hcc35 (show 2 ≤ 4 from by decide) (x' := (⟨(rd_T48 y158 (ji17)).f0, wrap64 (((rd_T48 y158 (ji17)).f1) + ((rd_T50 l0 x15_1).f2)), (rd_T48 y158 (ji17)).f2, (rd_T48 y158 (ji17)).f3⟩ : S48)) (k48_mkM _ _ _ (⟨(rd_T48 y158 (ji17)).f0, wrap64 (((rd_T48 y158 (ji17)).f1) + ((rd_T50 l0 x15_1).f2)), (rd_T48 y158 (ji17)).f2, (rd_T48 y158 (ji17)).f3⟩ : S48) ) (fun _ hk => hk)).1
    rw [← Ny167.out] at HP35; have HQ35 := zA.mk HP35; clear hcl35 hcc35 hfr35 hM35 HP35; refine start_ (n := 10) (S := fun w' => w'.cell? ⟨gb155, 0, none⟩ = some (.int .i32 ((rd_T50 l0 x15_1).f0)) ∧ w'.cell? ⟨gb155, 1, none⟩ = some (.int .i64 ((rd_T50 l0 x15_1).f1)) ∧ w'.cell? ⟨gb155, 2, none⟩ = some (.int .i64 ((rd_T50 l0 x15_1).f2)) ∧ w'.cell? ⟨go24, (((ji17)).toNat * 4), none⟩ = some (.int .i64 ((rd_T48 y158 (ji17)).f0)) ∧ w'.cell? ⟨go24, (((ji17)).toNat * 4) + 1, none⟩ = some (.int .i64 ((rd_T48 y158 (ji17)).f1)) ∧ w'.cell? ⟨go24, (((ji17)).toNat * 4) + 2, none⟩ = some (.int .i64 ((rd_T48 y158 (ji17)).f2)) ∧ w'.cell? ⟨go24, (((ji17)).toNat * 4) + 3, none⟩ = some (.int .u8 ((rd_T48 y158 (ji17)).f3))) (ds := [9]) #[false, false, false, false, false, false, false, false, false, false] (by kernel_rfl) rfl rfl ⟨(zE BK155.out 0).trans rfl, (zE BK155.out 1).trans rfl, (zE BK155.out 2).trans rfl, hx166_0, hx166_1, hx166_2, hx166_3⟩ (fun hHeld => ?_); refine with_tabW cells_Make.tab12 cells_Make.bits12 (fun HT_ HW_ => ?_)
    generalize w31.drew = w34 at HO160 HO163 BK155 HB GG24 HQ35 hf24_0 hf24_1 hf24_2 hf24_3 hx164_0 hx164_1 hx164_2 hx164_3 hx166_0 hx166_1 hx166_2 hx166_3 hx24_0 hx24_1 hx24_2 hx24_3 hHeld ⊢
    refine aP 0 (some 64) (tf_ 1 10) HT_ ?_
    refine aP 1 (some 65) (tf_ 2 10) HT_ ?_
    refine aP 2 (some 66) (tf_ 3 10) HT_ ?_
    refine aP 4 (some 68) (tb_ 23 10) HT_ ?_
    refine take_ (i := 3) (N := some 67) (v := ?_) (a' := ?_) (tf_ 5 10) rfl rfl (take_ofW HT_.out HW_.out (by kernel_rfl)) (fun _ _ _ h => h) (Or.inl ⟨by rfl, ?_⟩) hHeld ?_ ?_
    rotate_left
    ·rintro w' ⟨s0, s1, s2, s3, s4, s5, s6⟩
     go_simp
     with_reducible rfl
    rotate_left
    ·simp only [Act.put, sA_, sB_, sC_, i64_w, i32_w]
     rfl
    refine take_ (i := 5) (N := some 69) (v := ?_) (a' := ?_) (tf_ 6 10) rfl rfl (take_ofW HT_.out HW_.out (by kernel_rfl)) (fun _ _ _ h => h) (Or.inl ⟨by rfl, ?_⟩) hHeld ?_ ?_
    rotate_left
    ·rintro w' ⟨s0, s1, s2, s3, s4, s5, s6⟩
     go_simp
     with_reducible rfl
    rotate_left
    ·simp only [Act.put, sA_, sB_, sC_, i64_w, i32_w]
     rfl
    refine aP 6 (some 70) (tf_ 7 10) HT_ ?_
    refine aP 7 (some 71) (tf_ 8 10) HT_ ?_
    refine aP 8 (some 72) (tf_ 9 10) HT_ ?_
    refine last_ (i := 9) (N := none) (tb_ 1023 10) rfl rfl (one_of HT_.out (by kernel_rfl)) (by decide) (fun K hK => ?_)
    refine skip_ (w1 := ?_) (by rfl) rfl ?_ ?_
    rotate_left
    ·go_simp
     rfl
    refine hK.out _ _ ?_
    clear hK K; refine done_ (done_of HT_.out (by kernel_rfl)) ?_
    try go_wp2
    have n0_ : zA (Kd.R k48 48 (w34.setCell ⟨go24, ((ji17) : Int).toNat * 4 + 1, none⟩ (.int .i64 (wrap64 (((rd_T48 y158 (ji17)).f1) + ((rd_T50 l0 x15_1).f2))))) w.heap.size (fun _ => True) (.slice (some ⟨go24, 0, none⟩) y158.length co32) y167) := ⟨aR HQ35⟩
    have n1_ : zA (Kd.R (Kd.int .i64) 3 (w34.setCell ⟨go24, ((ji17) : Int).toNat * 4 + 1, none⟩ (.int .i64 (wrap64 (((rd_T48 y158 (ji17)).f1) + ((rd_T50 l0 x15_1).f2))))) w.heap.size (fun _ => True) (.slice (some ad165) y161.length co33) y161) := ⟨by (with_reducible repeat (first | apply Kd.zG | apply Kd.zH | apply Kd.zI)); exact Kd.zS (Kd.zP (p := ⟨go24, ((ji17) : Int).toNat * 4 + 1, none⟩) (Kd.zT HO163.out GG24.out (by decide)) (fun _ hk => hk.2) (.int .i64 (wrap64 (((rd_T48 y158 (ji17)).f1) + ((rd_T50 l0 x15_1).f2))))) (fun _ hk => trivial)⟩
    have n2_ : zA ((w34.setCell ⟨go24, ((ji17) : Int).toNat * 4 + 1, none⟩ (.int .i64 (wrap64 (((rd_T48 y158 (ji17)).f1) + ((rd_T50 l0 x15_1).f2))))).heap[gb155]? = some (.cells #[.int .i32 ((rd_T50 l0 x15_1).f0), .int .i64 ((rd_T50 l0 x15_1).f1), .int .i64 ((rd_T50 l0 x15_1).f2)] 50 (0, 0))) := ⟨by (with_reducible repeat (first | refine zD ?_ _ | refine zC ?_ | refine zB ?_ _)); refine blk_far ?_ (by have h_ := Kd.R_ne HO160.out BK155.out (by decide); intro e_; exact h_ (by rw [e_]; rfl)) _; (with_reducible repeat (first | refine zD ?_ _ | refine zC ?_ | refine zB ?_ _)); exact BK155.out⟩
    have n3_ : zA (Below w.heap.size w (w34.setCell ⟨go24, ((ji17) : Int).toNat * 4 + 1, none⟩ (.int .i64 (wrap64 (((rd_T48 y158 (ji17)).f1) + ((rd_T50 l0 x15_1).f2)))))) := ⟨aL HB⟩
    (try clear HO160)
    (try clear HO163)
    (try clear BK155)
    (try clear HB)
    generalize (w34.setCell ⟨go24, ((ji17) : Int).toNat * 4 + 1, none⟩ (.int .i64 (wrap64 (((rd_T48 y158 (ji17)).f1) + ((rd_T50 l0 x15_1).f2))))) = w36 at n0_ n1_ n2_ n3_ ⊢
    have HO160 := n0_; have HO163 := n1_; have BK155 := n2_; have HB := n3_; clear n0_ n1_ n2_ n3_; replace HO160 := zA.mk (Kd.zI HO160.out); replace HO163 := zA.mk (Kd.zI HO163.out); replace BK155 := zA.mk (zC BK155.out); replace HB := zA.mk (below_drew1 HB.out); have p168 : 0 ≤ ((ji17) : Int) := aD
    have q168 : (ji17) < (y167.length : Int) := (by have h_ : ((ji17) : Int) < ((y158.length : Int) : Int) := aD; first | (have e_ := (Kd.zN HO160.out).1; omega) | simpa only [Ny167.out, List.length_set] using h_)
    have ql168 : (((ji17) : Int) < ((y158.length : Int) : Int)) = True := eq_true (aD)
    obtain ⟨ad168, e168, hx168_0, hx168_1, hx168_2, hx168_3⟩ := at_T48 (Kd.zN HO160.out).2.2 (ji17) p168 q168; obtain rfl : (⟨go24, 0, none⟩ : Addr) = ad168 := (by injection e168)
    (first | simp only [add_plain] at hx168_0 | simp only [add_at] at hx168_0 | simp only [Addr.add, Nat.zero_add] at hx168_0 | skip)
    (first | simp only [add_plain] at hx168_1 | simp only [add_at] at hx168_1 | simp only [Addr.add, Nat.zero_add] at hx168_1 | skip)
    (first | simp only [add_plain] at hx168_2 | simp only [add_at] at hx168_2 | simp only [Addr.add, Nat.zero_add] at hx168_2 | skip)
    (first | simp only [add_plain] at hx168_3 | simp only [add_at] at hx168_3 | simp only [Addr.add, Nat.zero_add] at hx168_3 | skip)
    replace p168 := eq_true p168; replace q168 := eq_true q168; refine start_ (n := 14) (S := fun w' => w'.cell? ⟨gb155, 0, none⟩ = some (.int .i32 ((rd_T50 l0 x15_1).f0)) ∧ w'.cell? ⟨gb155, 1, none⟩ = some (.int .i64 ((rd_T50 l0 x15_1).f1)) ∧ w'.cell? ⟨gb155, 2, none⟩ = some (.int .i64 ((rd_T50 l0 x15_1).f2)) ∧ w'.cell? ⟨go24, ((ji17)).toNat * 4, none⟩ = some (.int .i64 ((rd_T48 y167 (ji17)).f0)) ∧ w'.cell? ⟨go24, ((ji17)).toNat * 4 + 1, none⟩ = some (.int .i64 ((rd_T48 y167 (ji17)).f1)) ∧ w'.cell? ⟨go24, ((ji17)).toNat * 4 + 2, none⟩ = some (.int .i64 ((rd_T48 y167 (ji17)).f2)) ∧ w'.cell? ⟨go24, ((ji17)).toNat * 4 + 3, none⟩ = some (.int .u8 ((rd_T48 y167 (ji17)).f3))) (ds := [13]) #[false, false, false, false, false, false, false, false, false, false, false, false, false, false] (by kernel_rfl) rfl rfl ⟨(zE BK155.out 0).trans rfl, (zE BK155.out 1).trans rfl, (zE BK155.out 2).trans rfl, hx168_0, hx168_1, hx168_2, hx168_3⟩ (fun hHeld => ?_); refine with_tabW cells_Make.tab13 cells_Make.bits13 (fun HT_ HW_ => ?_)
    generalize w36.drew = w37 at HO160 HO163 BK155 HB HQ35 hx168_0 hx168_1 hx168_2 hx168_3 hHeld ⊢
    refine aP 0 (some 73) (tf_ 1 14) HT_ ?_
    refine aP 1 (some 74) (tf_ 2 14) HT_ ?_
    refine aP 2 (some 75) (tf_ 3 14) HT_ ?_
    refine aP 3 (some 76) (tf_ 4 14) HT_ ?_
    refine aP 5 (some 78) (tb_ 47 14) HT_ ?_
    refine aP 6 (some 79) (tb_ 111 14) HT_ ?_
    refine take_ (i := 4) (N := some 77) (v := ?_) (a' := ?_) (tf_ 7 14) rfl rfl (take_ofW HT_.out HW_.out (by kernel_rfl)) (fun _ _ _ h => h) (Or.inl ⟨by rfl, ?_⟩) hHeld ?_ ?_
    rotate_left
    ·rintro w' ⟨s0, s1, s2, s3, s4, s5, s6⟩
     go_simp
     with_reducible rfl
    rotate_left
    ·simp only [Act.put, sA_, sB_, sC_, i64_w, i32_w]
     rfl
    refine take_ (i := 7) (N := some 80) (v := ?_) (a' := ?_) (tf_ 8 14) rfl rfl (take_ofW HT_.out HW_.out (by kernel_rfl)) (fun _ _ _ h => h) (Or.inl ⟨by rfl, ?_⟩) hHeld ?_ ?_
    rotate_left
    ·rintro w' ⟨s0, s1, s2, s3, s4, s5, s6⟩
     go_simp
     with_reducible rfl
    rotate_left
    ·simp only [Act.put, sA_, sB_, sC_, i64_w, i32_w]
     rfl
    refine one_ (i := 8) (N := some 81) (tb_ 511 14) rfl rfl (one_of HT_.out (by kernel_rfl)) (by decide) (fun K hK => ?_)
    refine goes_ Try.func22 (by kernel_rfl) rfl #[vt2_, .int .i32 ((rd_T50 l0 x15_1).f0)] (by rfl) rfl rfl aT ?_
    with_reducible refine (prop_Table_Of.calls vt2_ a2 ((rd_T50 l0 x15_1).f0) t169 _ ?side1 A25.out).mono ?_
    (case side1 => exact TabAt.below HTa2.out (aL HB))
    rintro e w' ⟨rfl, ⟨nd, rfl⟩⟩
    refine ⟨_, rfl, ?_⟩
    have p28 : 0 ≤ ((ji17) : Int) := aD
    have q28 : ((ji17) : Int) < ((y158.length : Int) : Int) := aD
    obtain ⟨ce28, hcl28, hM28, hcc28, hfr28⟩ := Kd.R_elem HO160.out z48 ((ji17) : Int) p28 q28; obtain rfl := k48_openM hM28
    have hx28_0 : World.cell? _ ⟨go24, ((ji17) : Int).toNat * 4, none⟩ = some (.int .i64 ((rd_T48 y167 (ji17)).f0)) := hcc28 0 _ rfl
    have hx28_1 : World.cell? _ ⟨go24, ((ji17) : Int).toNat * 4 + 1, none⟩ = some (.int .i64 ((rd_T48 y167 (ji17)).f1)) := hcc28 1 _ rfl
    have hx28_2 : World.cell? _ ⟨go24, ((ji17) : Int).toNat * 4 + 2, none⟩ = some (.int .i64 ((rd_T48 y167 (ji17)).f2)) := hcc28 2 _ rfl
    have hx28_3 : World.cell? _ ⟨go24, ((ji17) : Int).toNat * 4 + 3, none⟩ = some (.int .u8 ((rd_T48 y167 (ji17)).f3)) := hcc28 3 _ rfl
    have hf28_0 : World.frozen? _ ⟨go24, ((ji17) : Int).toNat * 4, none⟩ = false := hfr28 0
    have hf28_1 : World.frozen? _ ⟨go24, ((ji17) : Int).toNat * 4 + 1, none⟩ = false := hfr28 1
    have hf28_2 : World.frozen? _ ⟨go24, ((ji17) : Int).toNat * 4 + 2, none⟩ = false := hfr28 2
    have hf28_3 : World.frozen? _ ⟨go24, ((ji17) : Int).toNat * 4 + 3, none⟩ = false := hfr28 3
    (try clear hcl28); (try clear hcc28); (try clear hfr28); (try clear hM28)
    replace p28 := eq_true p28; replace q28 := eq_true q28; obtain ⟨cx38, gx38⟩ := Kd.R_typed HO160.out _ rfl; have GG38_ := zA.mk gx38; clear gx38; obtain ⟨ce38, hcl38, hM38, hcc38, hfr38⟩ := Kd.R_elem HO160.out z48 ((ji17) : Int) (aD) (by have h_ : ((ji17) : Int) < ((y158.length : Int) : Int) := aD; first | exact h_ | (have e_ := (Kd.zN HO160.out).1; omega) | simpa using h_)
    obtain rfl := k48_openM hM38
    have HP38 := (Kd.R_seg HO160.out ((ji17) : Int) (aD) (by have h_ : ((ji17) : Int) < ((y158.length : Int) : Int) := aD; first | exact h_ | (have e_ := (Kd.zN HO160.out).1; omega) | simpa using h_) (seg := [.int .i64 ji27]) (j := 2) hcl38 hcc38 (show 3 ≤ 4 from by decide) (x' := (⟨(rd_T48 y167 (ji17)).f0, (rd_T48 y167 (ji17)).f1, ji27, (rd_T48 y167 (ji17)).f3⟩ : S48)) (k48_mkM _ _ _ (⟨(rd_T48 y167 (ji17)).f0, (rd_T48 y167 (ji17)).f1, ji27, (rd_T48 y167 (ji17)).f3⟩ : S48) ) (fun _ hk => hk)).1
    rw [← Ny170.out] at HP38; have HQ38 := zA.mk HP38; clear hcl38 hcc38 hfr38 hM38 HP38; refine hK.out _ _ ⟨(zE BK155.out 0).trans rfl, (zE BK155.out 1).trans rfl, (zE BK155.out 2).trans rfl, hHeld.2.2.2.1, hHeld.2.2.2.2.1, hHeld.2.2.2.2.2.1, hHeld.2.2.2.2.2.2⟩ (fun hHeld => ?_)
    clear hK K; refine norm_ (a' := ?_) ?_ ?_
    rotate_left
    ·show Act.put _ (some 81) _ = _
     simp only [Act.put, sA_, sB_, sC_, i64_w, i32_w]; rfl
    refine aP 9 (some 82) (tf_ 10 14) HT_ ?_
    refine aP 10 (some 83) (tf_ 11 14) HT_ ?_
    refine aP 11 (some 84) (tf_ 12 14) HT_ ?_
    refine aP 12 (some 85) (tf_ 13 14) HT_ ?_
    refine last_ (i := 13) (N := none) (tb_ 16383 14) rfl rfl (one_of HT_.out (by kernel_rfl)) (by decide) (fun K hK => ?_)
    refine skip_ (w1 := ?_) (by rfl) rfl ?_ ?_
    rotate_left
    ·go_simp
     rfl
    refine hK.out _ _ ?_
    clear hK K; refine done_ (done_of HT_.out (by kernel_rfl)) ?_
    try go_wp2
    go_roundg kj6
    case measure => have := HK1.out; have := HJ6.out; omega
    case rel => exact ⟨(y170), (y161), (wrap64 (x15_1 + 1)), aZ, H', ⟨by have := HK1.out; have := HJ6.out; omega⟩, ⟨aR HQ38⟩, ⟨by (with_reducible repeat (first | apply Kd.zG | apply Kd.zH | apply Kd.zI)); exact Kd.zS (Kd.zP (p := ⟨go24, ((ji17) : Int).toNat * 4 + 2, none⟩) (Kd.zT HO163.out GG38_.out (by decide)) (fun _ hk => hk.2) (.int .i64 ji27)) (fun _ hk => trivial)⟩, ⟨aL HB⟩⟩
   rw [if_neg c23] at H; have c23b0 : ((rd y161 (ji20)) == x15_1) = false := beq_eq_false_iff_ne.mpr c23
   have c23b1 : ((rd y161 (ji20)) != x15_1) = true := bne_iff_ne.mpr c23
   obtain ⟨y171, hy171⟩ : ∃ y_ : List (S48), y_ = (y158.set ((ji17) : Int).toNat (⟨(rd_T48 y158 (ji17)).f0, (rd_T48 y158 (ji17)).f1, (rd_T48 y158 (ji17)).f2, 0⟩ : S48)) := ⟨_, rfl⟩; replace H : ((some (y171.set ((ji17) : Int).toNat (⟨(rd_T48 y171 (ji17)).f0, wrap64 (((rd_T48 y171 (ji17)).f1) + ((rd_T50 l0 x15_1).f2)), (rd_T48 y171 (ji17)).f2, (rd_T48 y171 (ji17)).f3⟩ : S48) : List (S48))).bind fun y173 => ((prop_Table_Of.f a2 ((rd_T50 l0 x15_1).f0)).bind fun t175 => (cells_Make.l0 kj6 l0 l1 a2 (y173.set ((ji17) : Int).toNat (⟨(rd_T48 y173 (ji17)).f0, (rd_T48 y173 (ji17)).f1, mx ((rd_T48 y173 (ji17)).f2) (mn t175 2), (rd_T48 y173 (ji17)).f3⟩ : S48)) y161 l0 (l0.length : Int) (wrap64 (x15_1 + 1))))) = some (r1, r2) := by first | (rw [hy171]; with_reducible exact H) | (have H2_ := (Option.bind_some _ _).symm.trans H; rw [hy171]; with_reducible exact H2_) | (have H2_ := (Option.bind_some _ _).symm.trans H; with_reducible exact H2_) | with_reducible exact H | (rw [hy171]; exact H) | exact H
   have Ny171 := zA.mk hy171; clear hy171; obtain ⟨y173, hy173⟩ : ∃ y_ : List (S48), y_ = (y171.set ((ji17) : Int).toNat (⟨(rd_T48 y171 (ji17)).f0, wrap64 (((rd_T48 y171 (ji17)).f1) + ((rd_T50 l0 x15_1).f2)), (rd_T48 y171 (ji17)).f2, (rd_T48 y171 (ji17)).f3⟩ : S48)) := ⟨_, rfl⟩; replace H : ((prop_Table_Of.f a2 ((rd_T50 l0 x15_1).f0)).bind fun t175 => (cells_Make.l0 kj6 l0 l1 a2 (y173.set ((ji17) : Int).toNat (⟨(rd_T48 y173 (ji17)).f0, (rd_T48 y173 (ji17)).f1, mx ((rd_T48 y173 (ji17)).f2) (mn t175 2), (rd_T48 y173 (ji17)).f3⟩ : S48)) y161 l0 (l0.length : Int) (wrap64 (x15_1 + 1)))) = some (r1, r2) := by first | (rw [hy173]; with_reducible exact H) | (have H2_ := (Option.bind_some _ _).symm.trans H; rw [hy173]; with_reducible exact H2_) | (have H2_ := (Option.bind_some _ _).symm.trans H; with_reducible exact H2_) | with_reducible exact H | (rw [hy173]; exact H) | exact H
   have Ny173 := zA.mk hy173; clear hy173; replace H := Option.bind_eq_some_iff.mp H; obtain ⟨t175, A410, H⟩ := H; replace H : (cells_Make.l0 kj6 l0 l1 a2 (y173.set ((ji17) : Int).toNat (⟨(rd_T48 y173 (ji17)).f0, (rd_T48 y173 (ji17)).f1, mx ((rd_T48 y173 (ji17)).f2) (mn t175 2), (rd_T48 y173 (ji17)).f3⟩ : S48)) y161 l0 (l0.length : Int) (wrap64 (x15_1 + 1))) = some (r1, r2) := H; have A41 := zA.mk A410; clear A410; obtain ⟨ji42, hji42⟩ : ∃ j_ : Int, (mn t175 2) = j_ := ⟨_, rfl⟩; replace H : (cells_Make.l0 kj6 l0 l1 a2 (y173.set ((ji17) : Int).toNat (⟨(rd_T48 y173 (ji17)).f0, (rd_T48 y173 (ji17)).f1, mx ((rd_T48 y173 (ji17)).f2) (ji42), (rd_T48 y173 (ji17)).f3⟩ : S48)) y161 l0 (l0.length : Int) (wrap64 (x15_1 + 1))) = some (r1, r2) := by first | (rw [hji42] at H; exact H) | (simp only [hji42] at H ⊢; exact H)
   (try rw [hji42] at A14)
   (try rw [hji42] at A41)
   (try (have hji42h : ji42 ≤ 2 := by (rw [← hji42]; unfold mn; (repeat' split) <;> omega)))
   (try (have hji42g : ji42 ≤ 64 := by omega))
   have hji42_ : (if 2 < t175 then 2 else t175) = ji42 := hji42
   obtain ⟨ji43, hji43⟩ : ∃ j_ : Int, (mx ((rd_T48 y173 (ji17)).f2) (ji42)) = j_ := ⟨_, rfl⟩; replace H : (cells_Make.l0 kj6 l0 l1 a2 (y173.set ((ji17) : Int).toNat (⟨(rd_T48 y173 (ji17)).f0, (rd_T48 y173 (ji17)).f1, ji43, (rd_T48 y173 (ji17)).f3⟩ : S48)) y161 l0 (l0.length : Int) (wrap64 (x15_1 + 1))) = some (r1, r2) := by first | (rw [hji43] at H; exact H) | (simp only [hji43] at H ⊢; exact H)
   (try rw [hji43] at A14)
   (try rw [hji43] at A41)
   have hji43_ : (if ((rd_T48 y173 (ji17)).f2) < (ji42) then (ji42) else ((rd_T48 y173 (ji17)).f2)) = ji43 := hji43
   obtain ⟨y176, hy176⟩ : ∃ y_ : List (S48), y_ = (y173.set ((ji17) : Int).toNat (⟨(rd_T48 y173 (ji17)).f0, (rd_T48 y173 (ji17)).f1, ji43, (rd_T48 y173 (ji17)).f3⟩ : S48)) := ⟨_, rfl⟩; replace H : (cells_Make.l0 kj6 l0 l1 a2 y176 y161 l0 (l0.length : Int) (wrap64 (x15_1 + 1))) = some (r1, r2) := by first | (rw [hy176]; with_reducible exact H) | (have H2_ := (Option.bind_some _ _).symm.trans H; rw [hy176]; with_reducible exact H2_) | (have H2_ := (Option.bind_some _ _).symm.trans H; with_reducible exact H2_) | with_reducible exact H | (rw [hy176]; exact H) | exact H
   have Ny176 := zA.mk hy176; clear hy176; have H' := zA.mk H
   clear H; try go_wp2
   replace HO_8 := zA.mk (Kd.zI HO_8.out); replace HO_9 := zA.mk (Kd.zI HO_9.out); replace BK155 := zA.mk (zC BK155.out); replace HB := zA.mk (below_drew1 HB.out); refine start_ (n := 10) (S := fun w' => w'.cell? ⟨gb155, 0, none⟩ = some (.int .i32 ((rd_T50 l0 x15_1).f0)) ∧ w'.cell? ⟨gb155, 1, none⟩ = some (.int .i64 ((rd_T50 l0 x15_1).f1)) ∧ w'.cell? ⟨gb155, 2, none⟩ = some (.int .i64 ((rd_T50 l0 x15_1).f2))) (ds := []) #[false, false, false, false, false, false, false, false, false, false] (by kernel_rfl) rfl rfl ⟨(zE BK155.out 0).trans rfl, (zE BK155.out 1).trans rfl, (zE BK155.out 2).trans rfl⟩ (fun hHeld => ?_); refine with_tabW cells_Make.tab7 cells_Make.bits7 (fun HT_ HW_ => ?_)
   generalize wc.drew = w45 at HO_8 HO_9 BK155 HB hHeld ⊢
   refine aP 0 (some 35) (tf_ 1 10) HT_ ?_
   refine aP 1 (some 36) (tf_ 2 10) HT_ ?_
   refine aP 3 (some 38) (tb_ 11 10) HT_ ?_
   refine take_ (i := 2) (N := some 37) (v := ?_) (a' := ?_) (tf_ 4 10) rfl rfl (take_ofW HT_.out HW_.out (by kernel_rfl)) (fun _ _ _ h => h) (Or.inl ⟨by rfl, ?_⟩) hHeld ?_ ?_
   rotate_left
   ·rintro w' ⟨s0, s1, s2⟩
    go_simp
    with_reducible rfl
   rotate_left
   ·simp only [Act.put, sA_, sB_, sC_, i64_w, i32_w]
    rfl
   refine take_ (i := 4) (N := some 39) (v := ?_) (a' := ?_) (tf_ 5 10) rfl rfl (take_ofW HT_.out HW_.out (by kernel_rfl)) (fun _ _ _ h => h) (Or.inl ⟨by rfl, ?_⟩) hHeld ?_ ?_
   rotate_left
   ·rintro w' ⟨s0, s1, s2⟩
    go_simp
    with_reducible rfl
   rotate_left
   ·simp only [Act.put, sA_, sB_, sC_, i64_w, i32_w]
    rfl
   refine one_ (i := 5) (N := some 40) (tb_ 63 10) rfl rfl (one_of HT_.out (by kernel_rfl)) (by decide) (fun K hK => ?_)
   refine goes_ Try.func36 (by kernel_rfl) rfl #[.int .i32 ((rd_T50 l0 x15_1).f0)] (by rfl) rfl rfl aT ?_
   with_reducible refine (cells_kind.calls ((rd_T50 l0 x15_1).f0) t157 _ A14.out).mono ?_
   rintro e w' ⟨rfl, ⟨nd, rfl⟩⟩
   refine ⟨_, rfl, ?_⟩
   refine hK.out _ _ ⟨(zE BK155.out 0).trans rfl, (zE BK155.out 1).trans rfl, (zE BK155.out 2).trans rfl⟩ (fun hHeld => ?_)
   clear hK K; refine norm_ (a' := ?_) ?_ ?_
   rotate_left
   ·show Act.put _ (some 40) _ = _
    simp only [Act.put, sA_, sB_, sC_, i64_w, i32_w]; rfl
   refine aP 6 (some 41) (tf_ 7 10) HT_ ?_
   refine one_ (i := 7) (N := some 42) (tb_ 255 10) rfl rfl (one_of HT_.out (by kernel_rfl)) (by decide) (fun K hK => ?_)
   refine value_ (w1 := ?_) (v := ?_) (by rfl) rfl ?_ ?_
   rotate_left 2
   ·go_simp
    constructor
    ·rfl
    rfl
   refine hK.out _ _ ⟨(zE (zB BK155.out _) 0).trans rfl, (zE (zB BK155.out _) 1).trans rfl, (zE (zB BK155.out _) 2).trans rfl⟩ (fun hHeld => ?_)
   clear hK K; refine norm_ (a' := ?_) ?_ ?_
   rotate_left
   ·show Act.put _ (some 42) _ = _
    simp only [Act.put, sA_, sB_, sC_, i64_w, i32_w]; rfl
   refine one_ (i := 8) (N := some 43) (tb_ 511 10) rfl rfl (one_of HT_.out (by kernel_rfl)) (by decide) (fun K hK => ?_)
   refine Kd.R_append_step k48 (w0 := w) w.heap.size (by rfl) (.tmp 35) (.tmp 42) 34 48 (.agg #[(.int .i64 0), (.int .i64 0), (.int .i64 0), (.int .u8 0)]) 32 rfl Try.underlying34 info48 rfl (by decide) (by omega) u8 x8_1 (⟨((rd_T50 l0 x15_1).f1), 0, 0, t157⟩ : S48) [.int .i64 ((rd_T50 l0 x15_1).f1), .int .i64 0, .int .i64 0, .int .u8 t157] (fun _ => True) (fun _ => False) rfl rfl ?aP (fun _ hk => hk.elim) ?aF ?aO ?aB ?aS ?aL ?_
   (case aP => exact k48_mkM _ _ _ (⟨((rd_T50 l0 x15_1).f1), 0, 0, t157⟩ : S48))
   (case aB => exact (aL HB))
   (case aF => exact (fun _ _ => trivial))
   (case aO => exact (aR HO_8))
   (case aS => exact (below_size (aL HB)))
   (case aL => have := LMc15.out; omega)
   intro v159 w46 ho hb hg hat
   rw [← Ny158.out] at ho; replace HO_9 := zA.mk (Kd.R_over' (aR HO_9) (Kd.R_typed (aR HO_8)) (by decide) hg)
   replace BK155 := zA.mk (blk_grown (g := gb155) (o := .cells #[.int .i32 ((rd_T50 l0 x15_1).f0), .int .i64 ((rd_T50 l0 x15_1).f1), .int .i64 ((rd_T50 l0 x15_1).f2)] 50 (0, 0)) (aB BK155) hg (Kd.R_ne HO_8.out BK155.out (by decide)))
   replace HB := zA.mk (hb); have HO160 := zA.mk (ho); clear HO_8; clear ho hb hg hat; refine hK.out _ _ ⟨(zE BK155.out 0).trans rfl, (zE BK155.out 1).trans rfl, (zE BK155.out 2).trans rfl⟩ (fun hHeld => ?_)
   clear hK K; refine norm_ (a' := ?_) ?_ ?_
   rotate_left
   ·show Act.put _ (some 43) _ = _
    simp only [Act.put, sA_, sB_, sC_, i64_w, i32_w]; rfl
   refine aP 9 (some 8) (tb_ 1023 10) HT_ ?_
   refine done_ (done_of HT_.out (by kernel_rfl)) ?_
   try go_wp2_with (first | ((with_reducible refine gate_builtin (b := .append) (xs := #[.tmp 44, .tmp 46]) rfl ?_); (try (refine gate_guard (by rfl) ?_; dsimp only)); at_builtin; refine Kd.R_append (Kd.int .i64) (w0 := w) w.heap.size rfl (.tmp 44) (.tmp 46) 35 3 (.int .i64 0) 8 rfl Try.underlying35 info3 rfl (by decide) (by omega) u9 x9_1 x15_1 [.int .i64 x15_1] (fun _ => True) (fun _ => False) rfl rfl ?aP (fun _ hk => hk.elim) ?aF ?aO ?aB ?aS ?aL ?_; (case aP => exact rfl); (case aB => exact (aL HB)); (case aF => exact (fun _ _ => trivial)); (case aO => exact (aR HO_9)); (case aS => exact (below_size (aL HB))); (case aL => have := LMc16.out; omega); intro v162 w47 ho hb hg hat; rw [← Ny161.out] at ho; replace BK155 := zA.mk (blk_grown (g := gb155) (o := .cells #[.int .i32 ((rd_T50 l0 x15_1).f0), .int .i64 ((rd_T50 l0 x15_1).f1), .int .i64 ((rd_T50 l0 x15_1).f2)] 50 (0, 0)) (aB BK155) hg (Kd.R_ne HO_9.out BK155.out (by decide))); replace HO160 := zA.mk (Kd.R_over' (aR HO160) (Kd.R_typed (aR HO_9)) (by decide) hg); replace HB := zA.mk (hb); have HO163 := zA.mk (ho); clear HO_9; clear ho hb hg hat; obtain ⟨Ao48, co48, eo48⟩ := Kd.zQ HO160.out; subst eo48; have p164 : 0 ≤ ((ji17) : Int) := aD; have q164 : (ji17) < (y158.length : Int) := aD; obtain ⟨ad164, e164, hx164_0, hx164_1, hx164_2, hx164_3⟩ := at_T48 (Kd.zN HO160.out).2.2 (ji17) p164 q164; cases e164; replace p164 := eq_true p164; replace q164 := eq_true q164; obtain ⟨Ao49, co49, eo49⟩ := Kd.zQ HO163.out; subst eo49; have p165 : 0 ≤ ((ji20) : Int) := aD; have q165 : (ji20) < (y161.length : Int) := aD; obtain ⟨ad165, e165, hx165_0⟩ := Kd.at_int (Kd.zN HO163.out).2.2 (ji20) p165 q165; cases e165; replace p165 := eq_true p165; replace q165 := eq_true q165; have p39 : 0 ≤ ((ji17) : Int) := aD; have q39 : ((ji17) : Int) < ((y158.length : Int) : Int) := aD; obtain ⟨go39, co39, eo39, gb39, gl39, cl39, HG39⟩ := Kd.R_form HO160.out (by omega); (first | cases eo39 | (injection eo39 with ea_ en_ ec_; (first | subst ea_ | (injection ea_ with ea_; subst ea_)); subst ec_; clear en_)); have GB39 := zA.mk gb39; have GG39 := zA.mk HG39; clear gb39 gl39 HG39; (first | simp only [add_plain] at hx164_0 | skip); (first | simp only [add_plain] at hx164_1 | skip); (first | simp only [add_plain] at hx164_2 | skip); (first | simp only [add_plain] at hx164_3 | skip); obtain ⟨ce39, hcl39, hM39, hcc39, hfr39⟩ := Kd.R_elem HO160.out z48 ((ji17) : Int) p39 q39; obtain rfl := k48_openM hM39; have hx39_0 : w47.cell? ⟨go39, ((ji17) : Int).toNat * 4, none⟩ = some (.int .i64 ((rd_T48 y158 (ji17)).f0)) := hcc39 0 _ rfl; have hx39_1 : w47.cell? ⟨go39, ((ji17) : Int).toNat * 4 + 1, none⟩ = some (.int .i64 ((rd_T48 y158 (ji17)).f1)) := hcc39 1 _ rfl; have hx39_2 : w47.cell? ⟨go39, ((ji17) : Int).toNat * 4 + 2, none⟩ = some (.int .i64 ((rd_T48 y158 (ji17)).f2)) := hcc39 2 _ rfl; have hx39_3 : w47.cell? ⟨go39, ((ji17) : Int).toNat * 4 + 3, none⟩ = some (.int .u8 ((rd_T48 y158 (ji17)).f3)) := hcc39 3 _ rfl; have hf39_0 : w47.frozen? ⟨go39, ((ji17) : Int).toNat * 4, none⟩ = false := hfr39 0; have hf39_1 : w47.frozen? ⟨go39, ((ji17) : Int).toNat * 4 + 1, none⟩ = false := hfr39 1; have hf39_2 : w47.frozen? ⟨go39, ((ji17) : Int).toNat * 4 + 2, none⟩ = false := hfr39 2; have hf39_3 : w47.frozen? ⟨go39, ((ji17) : Int).toNat * 4 + 3, none⟩ = false := hfr39 3; (try clear hcl39); (try clear hcc39); (try clear hfr39); (try clear hM39); replace p39 := eq_true p39; replace q39 := eq_true q39; have HX50 := zA.mk (show Kd.R k48 48 w47 w.heap.size (fun _ => True) (.slice (some ⟨go39, 0, none⟩) y158.length co48) y158 from (aR HO160)); obtain ⟨ce50, hcl50, hM50, hcc50, hfr50⟩ := Kd.R_elem HX50.out z48 ((ji17) : Int) (aD) (by have h_ : ((ji17) : Int) < ((y158.length : Int) : Int) := aD; first | exact h_ | (have e_ := (Kd.zN HO160.out).1; omega) | simpa using h_); obtain rfl := k48_openM hM50; have HP50 := Kd.R_seg HX50.out ((ji17) : Int) (aD) (by have h_ : ((ji17) : Int) < ((y158.length : Int) : Int) := aD; first | exact h_ | (have e_ := (Kd.zN HO160.out).1; omega) | simpa using h_) (seg := [.int .u8 0]) (j := 3) hcl50 hcc50 (show 4 ≤ 4 from by decide) (x' := (⟨(rd_T48 y158 (ji17)).f0, (rd_T48 y158 (ji17)).f1, (rd_T48 y158 (ji17)).f2, 0⟩ : S48)) (k48_mkM _ _ _ (⟨(rd_T48 y158 (ji17)).f0, (rd_T48 y158 (ji17)).f1, (rd_T48 y158 (ji17)).f2, 0⟩ : S48) ) (fun _ hk => hk); have hx50_3 := hcc50 3 _ rfl; (try simp only [show (k48).sz = 4 from rfl, Nat.mul_one, Nat.add_zero] at hx50_3); have hf50_3 := hfr50 3; (try simp only [show (k48).sz = 4 from rfl, Nat.mul_one, Nat.add_zero] at hf50_3); (try clear hcl50); (try clear hcc50); (try clear hfr50); (try clear hM50)) | ((with_reducible refine gate_store (t := 46) (p := 63) rfl ?_); refine store_event (t := 46) (p := 63) (v := ?vo_w51) (w1 := (w47.setCell ⟨go39, ((ji17) : Int).toNat * 4 + 3, none⟩ (.int .u8 0))) ?hg ?ho ?hn ?hr ?_; (case ho => rfl); (case hg => rfl); (case hn => rfl); (case hr => first | (go_simp; done) | (go_simp; rfl)); intro w51 hw; have hg : w47.grownBy w51 (some go39) := (by rw [hw]; exact HP50.2); have hp_ : Kd.R k48 48 w51 w.heap.size (fun _ => True) (.slice (some ⟨go39, 0, none⟩) y158.length co48) y171 := (by rw [hw, Ny171.out]; exact HP50.1); clear HP50; replace BK155 := zA.mk (blk_grown (g := gb155) (o := .cells #[.int .i32 ((rd_T50 l0 x15_1).f0), .int .i64 ((rd_T50 l0 x15_1).f1), .int .i64 ((rd_T50 l0 x15_1).f2)] 50 (0, 0)) (aB BK155) hg (Kd.R_ne HO160.out BK155.out (by decide))); replace HO163 := zA.mk (Kd.R_over' (v := (.slice (some ⟨go39, 0, none⟩) y158.length co48)) (aR HO163) (Kd.R_typed HO160.out) (by decide) hg); replace HO160 := zA.mk (hp_); replace HB := zA.mk ((by rw [hw]; exact below_set (HB.out) GB39.out : Below w.heap.size w w51)); clear hg hw hp_))
   replace HO160 := zA.mk (Kd.zI HO160.out); replace HO163 := zA.mk (Kd.zI HO163.out); replace BK155 := zA.mk (zC BK155.out); replace HB := zA.mk (below_drew1 HB.out); have p172 : 0 ≤ ((ji17) : Int) := aD
   have q172 : (ji17) < (y171.length : Int) := (by have h_ : ((ji17) : Int) < ((y158.length : Int) : Int) := aD; first | (have e_ := (Kd.zN HO160.out).1; omega) | simpa only [Ny171.out, List.length_set] using h_)
   have ql172 : (((ji17) : Int) < ((y158.length : Int) : Int)) = True := eq_true (aD)
   obtain ⟨ad172, e172, hx172_0, hx172_1, hx172_2, hx172_3⟩ := at_T48 (Kd.zN HO160.out).2.2 (ji17) p172 q172; obtain rfl : (⟨go39, 0, none⟩ : Addr) = ad172 := (by injection e172)
   (first | simp only [add_plain] at hx172_0 | simp only [add_at] at hx172_0 | simp only [Addr.add, Nat.zero_add] at hx172_0 | skip)
   (first | simp only [add_plain] at hx172_1 | simp only [add_at] at hx172_1 | simp only [Addr.add, Nat.zero_add] at hx172_1 | skip)
   (first | simp only [add_plain] at hx172_2 | simp only [add_at] at hx172_2 | simp only [Addr.add, Nat.zero_add] at hx172_2 | skip)
   (first | simp only [add_plain] at hx172_3 | simp only [add_at] at hx172_3 | simp only [Addr.add, Nat.zero_add] at hx172_3 | skip)
   replace p172 := eq_true p172; replace q172 := eq_true q172; have p40 : 0 ≤ ((ji17) : Int) := aD
   have q40 : ((ji17) : Int) < ((y158.length : Int) : Int) := aD
   obtain ⟨ce40, hcl40, hM40, hcc40, hfr40⟩ := Kd.R_elem HO160.out z48 ((ji17) : Int) p40 q40; obtain rfl := k48_openM hM40
   have hx40_0 : World.cell? _ ⟨go39, ((ji17) : Int).toNat * 4, none⟩ = some (.int .i64 ((rd_T48 y171 (ji17)).f0)) := hcc40 0 _ rfl
   have hx40_1 : World.cell? _ ⟨go39, ((ji17) : Int).toNat * 4 + 1, none⟩ = some (.int .i64 ((rd_T48 y171 (ji17)).f1)) := hcc40 1 _ rfl
   have hx40_2 : World.cell? _ ⟨go39, ((ji17) : Int).toNat * 4 + 2, none⟩ = some (.int .i64 ((rd_T48 y171 (ji17)).f2)) := hcc40 2 _ rfl
   have hx40_3 : World.cell? _ ⟨go39, ((ji17) : Int).toNat * 4 + 3, none⟩ = some (.int .u8 ((rd_T48 y171 (ji17)).f3)) := hcc40 3 _ rfl
   have hf40_0 : World.frozen? _ ⟨go39, ((ji17) : Int).toNat * 4, none⟩ = false := hfr40 0
   have hf40_1 : World.frozen? _ ⟨go39, ((ji17) : Int).toNat * 4 + 1, none⟩ = false := hfr40 1
   have hf40_2 : World.frozen? _ ⟨go39, ((ji17) : Int).toNat * 4 + 2, none⟩ = false := hfr40 2
   have hf40_3 : World.frozen? _ ⟨go39, ((ji17) : Int).toNat * 4 + 3, none⟩ = false := hfr40 3
   (try clear hcl40); (try clear hcc40); (try clear hfr40); (try clear hM40)
   replace p40 := eq_true p40; replace q40 := eq_true q40; obtain ⟨cx53, gx53⟩ := Kd.R_typed HO160.out _ rfl; have GG53_ := zA.mk gx53; clear gx53; obtain ⟨ce53, hcl53, hM53, hcc53, hfr53⟩ := Kd.R_elem HO160.out z48 ((ji17) : Int) (aD) (by have h_ : ((ji17) : Int) < ((y158.length : Int) : Int) := aD; first | exact h_ | (have e_ := (Kd.zN HO160.out).1; omega) | simpa using h_)
   obtain rfl := k48_openM hM53
   have HP53 := (Kd.R_seg HO160.out ((ji17) : Int) (aD) (by have h_ : ((ji17) : Int) < ((y158.length : Int) : Int) := aD; first | exact h_ | (have e_ := (Kd.zN HO160.out).1; omega) | simpa using h_) (seg := [.int .i64 (wrap64 (((rd_T48 y171 (ji17)).f1) + ((rd_T50 l0 x15_1).f2)))]) (j := 1) hcl53 hcc53 (show 2 ≤ 4 from by decide) (x' := (⟨(rd_T48 y171 (ji17)).f0, wrap64 (((rd_T48 y171 (ji17)).f1) + ((rd_T50 l0 x15_1).f2)), (rd_T48 y171 (ji17)).f2, (rd_T48 y171 (ji17)).f3⟩ : S48)) (k48_mkM _ _ _ (⟨(rd_T48 y171 (ji17)).f0, wrap64 (((rd_T48 y171 (ji17)).f1) + ((rd_T50 l0 x15_1).f2)), (rd_T48 y171 (ji17)).f2, (rd_T48 y171 (ji17)).f3⟩ : S48) ) (fun _ hk => hk)).1
   rw [← Ny173.out] at HP53; have HQ53 := zA.mk HP53; clear hcl53 hcc53 hfr53 hM53 HP53; refine start_ (n := 10) (S := fun w' => w'.cell? ⟨gb155, 0, none⟩ = some (.int .i32 ((rd_T50 l0 x15_1).f0)) ∧ w'.cell? ⟨gb155, 1, none⟩ = some (.int .i64 ((rd_T50 l0 x15_1).f1)) ∧ w'.cell? ⟨gb155, 2, none⟩ = some (.int .i64 ((rd_T50 l0 x15_1).f2)) ∧ w'.cell? ⟨go39, ((ji17)).toNat * 4, none⟩ = some (.int .i64 ((rd_T48 y171 (ji17)).f0)) ∧ w'.cell? ⟨go39, ((ji17)).toNat * 4 + 1, none⟩ = some (.int .i64 ((rd_T48 y171 (ji17)).f1)) ∧ w'.cell? ⟨go39, ((ji17)).toNat * 4 + 2, none⟩ = some (.int .i64 ((rd_T48 y171 (ji17)).f2)) ∧ w'.cell? ⟨go39, ((ji17)).toNat * 4 + 3, none⟩ = some (.int .u8 ((rd_T48 y171 (ji17)).f3))) (ds := [9]) #[false, false, false, false, false, false, false, false, false, false] (by kernel_rfl) rfl rfl ⟨(zE BK155.out 0).trans rfl, (zE BK155.out 1).trans rfl, (zE BK155.out 2).trans rfl, hx172_0, hx172_1, hx172_2, hx172_3⟩ (fun hHeld => ?_); refine with_tabW cells_Make.tab12 cells_Make.bits12 (fun HT_ HW_ => ?_)
   generalize w51.drew = w52 at HO160 HO163 BK155 HB GG53_ HQ53 hf40_0 hf40_1 hf40_2 hf40_3 hx172_0 hx172_1 hx172_2 hx172_3 hx40_0 hx40_1 hx40_2 hx40_3 hHeld ⊢
   refine aP 0 (some 64) (tf_ 1 10) HT_ ?_
   refine aP 1 (some 65) (tf_ 2 10) HT_ ?_
   refine aP 2 (some 66) (tf_ 3 10) HT_ ?_
   refine aP 4 (some 68) (tb_ 23 10) HT_ ?_
   refine take_ (i := 3) (N := some 67) (v := ?_) (a' := ?_) (tf_ 5 10) rfl rfl (take_ofW HT_.out HW_.out (by kernel_rfl)) (fun _ _ _ h => h) (Or.inl ⟨by rfl, ?_⟩) hHeld ?_ ?_
   rotate_left
   ·rintro w' ⟨s0, s1, s2, s3, s4, s5, s6⟩
    go_simp
    with_reducible rfl
   rotate_left
   ·simp only [Act.put, sA_, sB_, sC_, i64_w, i32_w]
    rfl
   refine take_ (i := 5) (N := some 69) (v := ?_) (a' := ?_) (tf_ 6 10) rfl rfl (take_ofW HT_.out HW_.out (by kernel_rfl)) (fun _ _ _ h => h) (Or.inl ⟨by rfl, ?_⟩) hHeld ?_ ?_
   rotate_left
   ·rintro w' ⟨s0, s1, s2, s3, s4, s5, s6⟩
    go_simp
    with_reducible rfl
   rotate_left
   ·simp only [Act.put, sA_, sB_, sC_, i64_w, i32_w]
    rfl
   refine aP 6 (some 70) (tf_ 7 10) HT_ ?_
   refine aP 7 (some 71) (tf_ 8 10) HT_ ?_
   refine aP 8 (some 72) (tf_ 9 10) HT_ ?_
   refine last_ (i := 9) (N := none) (tb_ 1023 10) rfl rfl (one_of HT_.out (by kernel_rfl)) (by decide) (fun K hK => ?_)
   refine skip_ (w1 := ?_) (by rfl) rfl ?_ ?_
   rotate_left
   ·go_simp
    rfl
   refine hK.out _ _ ?_
   clear hK K; refine done_ (done_of HT_.out (by kernel_rfl)) ?_
   try go_wp2
   have n0_ : zA (Kd.R k48 48 (w52.setCell ⟨go39, ((ji17) : Int).toNat * 4 + 1, none⟩ (.int .i64 (wrap64 (((rd_T48 y171 (ji17)).f1) + ((rd_T50 l0 x15_1).f2))))) w.heap.size (fun _ => True) (.slice (some ⟨go39, 0, none⟩) y158.length co48) y173) := ⟨aR HQ53⟩
   have n1_ : zA (Kd.R (Kd.int .i64) 3 (w52.setCell ⟨go39, ((ji17) : Int).toNat * 4 + 1, none⟩ (.int .i64 (wrap64 (((rd_T48 y171 (ji17)).f1) + ((rd_T50 l0 x15_1).f2))))) w.heap.size (fun _ => True) (.slice (some ad165) y161.length co49) y161) := ⟨by (with_reducible repeat (first | apply Kd.zG | apply Kd.zH | apply Kd.zI)); exact Kd.zS (Kd.zP (p := ⟨go39, ((ji17) : Int).toNat * 4 + 1, none⟩) (Kd.zT HO163.out GG53_.out (by decide)) (fun _ hk => hk.2) (.int .i64 (wrap64 (((rd_T48 y171 (ji17)).f1) + ((rd_T50 l0 x15_1).f2))))) (fun _ hk => trivial)⟩
   have n2_ : zA ((w52.setCell ⟨go39, ((ji17) : Int).toNat * 4 + 1, none⟩ (.int .i64 (wrap64 (((rd_T48 y171 (ji17)).f1) + ((rd_T50 l0 x15_1).f2))))).heap[gb155]? = some (.cells #[.int .i32 ((rd_T50 l0 x15_1).f0), .int .i64 ((rd_T50 l0 x15_1).f1), .int .i64 ((rd_T50 l0 x15_1).f2)] 50 (0, 0))) := ⟨by (with_reducible repeat (first | refine zD ?_ _ | refine zC ?_ | refine zB ?_ _)); refine blk_far ?_ (by have h_ := Kd.R_ne HO160.out BK155.out (by decide); intro e_; exact h_ (by rw [e_]; rfl)) _; (with_reducible repeat (first | refine zD ?_ _ | refine zC ?_ | refine zB ?_ _)); exact BK155.out⟩
   have n3_ : zA (Below w.heap.size w (w52.setCell ⟨go39, ((ji17) : Int).toNat * 4 + 1, none⟩ (.int .i64 (wrap64 (((rd_T48 y171 (ji17)).f1) + ((rd_T50 l0 x15_1).f2)))))) := ⟨aL HB⟩
   (try clear HO160)
   (try clear HO163)
   (try clear BK155)
   (try clear HB)
   generalize (w52.setCell ⟨go39, ((ji17) : Int).toNat * 4 + 1, none⟩ (.int .i64 (wrap64 (((rd_T48 y171 (ji17)).f1) + ((rd_T50 l0 x15_1).f2))))) = w54 at n0_ n1_ n2_ n3_ ⊢
   have HO160 := n0_; have HO163 := n1_; have BK155 := n2_; have HB := n3_; clear n0_ n1_ n2_ n3_; replace HO160 := zA.mk (Kd.zI HO160.out); replace HO163 := zA.mk (Kd.zI HO163.out); replace BK155 := zA.mk (zC BK155.out); replace HB := zA.mk (below_drew1 HB.out); have p174 : 0 ≤ ((ji17) : Int) := aD
   have q174 : (ji17) < (y173.length : Int) := (by have h_ : ((ji17) : Int) < ((y158.length : Int) : Int) := aD; first | (have e_ := (Kd.zN HO160.out).1; omega) | simpa only [Ny171.out, Ny173.out, List.length_set] using h_)
   have ql174 : (((ji17) : Int) < ((y158.length : Int) : Int)) = True := eq_true (aD)
   obtain ⟨ad174, e174, hx174_0, hx174_1, hx174_2, hx174_3⟩ := at_T48 (Kd.zN HO160.out).2.2 (ji17) p174 q174; obtain rfl : (⟨go39, 0, none⟩ : Addr) = ad174 := (by injection e174)
   (first | simp only [add_plain] at hx174_0 | simp only [add_at] at hx174_0 | simp only [Addr.add, Nat.zero_add] at hx174_0 | skip)
   (first | simp only [add_plain] at hx174_1 | simp only [add_at] at hx174_1 | simp only [Addr.add, Nat.zero_add] at hx174_1 | skip)
   (first | simp only [add_plain] at hx174_2 | simp only [add_at] at hx174_2 | simp only [Addr.add, Nat.zero_add] at hx174_2 | skip)
   (first | simp only [add_plain] at hx174_3 | simp only [add_at] at hx174_3 | simp only [Addr.add, Nat.zero_add] at hx174_3 | skip)
   replace p174 := eq_true p174; replace q174 := eq_true q174; refine start_ (n := 14) (S := fun w' => w'.cell? ⟨gb155, 0, none⟩ = some (.int .i32 ((rd_T50 l0 x15_1).f0)) ∧ w'.cell? ⟨gb155, 1, none⟩ = some (.int .i64 ((rd_T50 l0 x15_1).f1)) ∧ w'.cell? ⟨gb155, 2, none⟩ = some (.int .i64 ((rd_T50 l0 x15_1).f2)) ∧ w'.cell? ⟨go39, ((ji17)).toNat * 4, none⟩ = some (.int .i64 ((rd_T48 y173 (ji17)).f0)) ∧ w'.cell? ⟨go39, ((ji17)).toNat * 4 + 1, none⟩ = some (.int .i64 ((rd_T48 y173 (ji17)).f1)) ∧ w'.cell? ⟨go39, ((ji17)).toNat * 4 + 2, none⟩ = some (.int .i64 ((rd_T48 y173 (ji17)).f2)) ∧ w'.cell? ⟨go39, ((ji17)).toNat * 4 + 3, none⟩ = some (.int .u8 ((rd_T48 y173 (ji17)).f3))) (ds := [13]) #[false, false, false, false, false, false, false, false, false, false, false, false, false, false] (by kernel_rfl) rfl rfl ⟨(zE BK155.out 0).trans rfl, (zE BK155.out 1).trans rfl, (zE BK155.out 2).trans rfl, hx174_0, hx174_1, hx174_2, hx174_3⟩ (fun hHeld => ?_); refine with_tabW cells_Make.tab13 cells_Make.bits13 (fun HT_ HW_ => ?_)
   generalize w54.drew = w55 at HO160 HO163 BK155 HB HQ53 hx174_0 hx174_1 hx174_2 hx174_3 hHeld ⊢
   refine aP 0 (some 73) (tf_ 1 14) HT_ ?_
   refine aP 1 (some 74) (tf_ 2 14) HT_ ?_
   refine aP 2 (some 75) (tf_ 3 14) HT_ ?_
   refine aP 3 (some 76) (tf_ 4 14) HT_ ?_
   refine aP 5 (some 78) (tb_ 47 14) HT_ ?_
   refine aP 6 (some 79) (tb_ 111 14) HT_ ?_
   refine take_ (i := 4) (N := some 77) (v := ?_) (a' := ?_) (tf_ 7 14) rfl rfl (take_ofW HT_.out HW_.out (by kernel_rfl)) (fun _ _ _ h => h) (Or.inl ⟨by rfl, ?_⟩) hHeld ?_ ?_
   rotate_left
   ·rintro w' ⟨s0, s1, s2, s3, s4, s5, s6⟩
    go_simp
    with_reducible rfl
   rotate_left
   ·simp only [Act.put, sA_, sB_, sC_, i64_w, i32_w]
    rfl
   refine take_ (i := 7) (N := some 80) (v := ?_) (a' := ?_) (tf_ 8 14) rfl rfl (take_ofW HT_.out HW_.out (by kernel_rfl)) (fun _ _ _ h => h) (Or.inl ⟨by rfl, ?_⟩) hHeld ?_ ?_
   rotate_left
   ·rintro w' ⟨s0, s1, s2, s3, s4, s5, s6⟩
    go_simp
    with_reducible rfl
   rotate_left
   ·simp only [Act.put, sA_, sB_, sC_, i64_w, i32_w]
    rfl
   refine one_ (i := 8) (N := some 81) (tb_ 511 14) rfl rfl (one_of HT_.out (by kernel_rfl)) (by decide) (fun K hK => ?_)
   refine goes_ Try.func22 (by kernel_rfl) rfl #[vt2_, .int .i32 ((rd_T50 l0 x15_1).f0)] (by rfl) rfl rfl aT ?_
   with_reducible refine (prop_Table_Of.calls vt2_ a2 ((rd_T50 l0 x15_1).f0) t175 _ ?side1 A41.out).mono ?_
   (case side1 => exact TabAt.below HTa2.out (aL HB))
   rintro e w' ⟨rfl, ⟨nd, rfl⟩⟩
   refine ⟨_, rfl, ?_⟩
   have p44 : 0 ≤ ((ji17) : Int) := aD
   have q44 : ((ji17) : Int) < ((y158.length : Int) : Int) := aD
   obtain ⟨ce44, hcl44, hM44, hcc44, hfr44⟩ := Kd.R_elem HO160.out z48 ((ji17) : Int) p44 q44; obtain rfl := k48_openM hM44
   have hx44_0 : World.cell? _ ⟨go39, ((ji17) : Int).toNat * 4, none⟩ = some (.int .i64 ((rd_T48 y173 (ji17)).f0)) := hcc44 0 _ rfl
   have hx44_1 : World.cell? _ ⟨go39, ((ji17) : Int).toNat * 4 + 1, none⟩ = some (.int .i64 ((rd_T48 y173 (ji17)).f1)) := hcc44 1 _ rfl
   have hx44_2 : World.cell? _ ⟨go39, ((ji17) : Int).toNat * 4 + 2, none⟩ = some (.int .i64 ((rd_T48 y173 (ji17)).f2)) := hcc44 2 _ rfl
   have hx44_3 : World.cell? _ ⟨go39, ((ji17) : Int).toNat * 4 + 3, none⟩ = some (.int .u8 ((rd_T48 y173 (ji17)).f3)) := hcc44 3 _ rfl
   have hf44_0 : World.frozen? _ ⟨go39, ((ji17) : Int).toNat * 4, none⟩ = false := hfr44 0
   have hf44_1 : World.frozen? _ ⟨go39, ((ji17) : Int).toNat * 4 + 1, none⟩ = false := hfr44 1
   have hf44_2 : World.frozen? _ ⟨go39, ((ji17) : Int).toNat * 4 + 2, none⟩ = false := hfr44 2
   have hf44_3 : World.frozen? _ ⟨go39, ((ji17) : Int).toNat * 4 + 3, none⟩ = false := hfr44 3
   (try clear hcl44); (try clear hcc44); (try clear hfr44); (try clear hM44)
   replace p44 := eq_true p44; replace q44 := eq_true q44; obtain ⟨cx56, gx56⟩ := Kd.R_typed HO160.out _ rfl; have GG56_ := zA.mk gx56; clear gx56; obtain ⟨ce56, hcl56, hM56, hcc56, hfr56⟩ := Kd.R_elem HO160.out z48 ((ji17) : Int) (aD) (by have h_ : ((ji17) : Int) < ((y158.length : Int) : Int) := aD; first | exact h_ | (have e_ := (Kd.zN HO160.out).1; omega) | simpa using h_)
   obtain rfl := k48_openM hM56
   have HP56 := (Kd.R_seg HO160.out ((ji17) : Int) (aD) (by have h_ : ((ji17) : Int) < ((y158.length : Int) : Int) := aD; first | exact h_ | (have e_ := (Kd.zN HO160.out).1; omega) | simpa using h_) (seg := [.int .i64 ji43]) (j := 2) hcl56 hcc56 (show 3 ≤ 4 from by decide) (x' := (⟨(rd_T48 y173 (ji17)).f0, (rd_T48 y173 (ji17)).f1, ji43, (rd_T48 y173 (ji17)).f3⟩ : S48)) (k48_mkM _ _ _ (⟨(rd_T48 y173 (ji17)).f0, (rd_T48 y173 (ji17)).f1, ji43, (rd_T48 y173 (ji17)).f3⟩ : S48) ) (fun _ hk => hk)).1
   rw [← Ny176.out] at HP56; have HQ56 := zA.mk HP56; clear hcl56 hcc56 hfr56 hM56 HP56; refine hK.out _ _ ⟨(zE BK155.out 0).trans rfl, (zE BK155.out 1).trans rfl, (zE BK155.out 2).trans rfl, hHeld.2.2.2.1, hHeld.2.2.2.2.1, hHeld.2.2.2.2.2.1, hHeld.2.2.2.2.2.2⟩ (fun hHeld => ?_)
   clear hK K; refine norm_ (a' := ?_) ?_ ?_
   rotate_left
   ·show Act.put _ (some 81) _ = _
    simp only [Act.put, sA_, sB_, sC_, i64_w, i32_w]; rfl
   refine aP 9 (some 82) (tf_ 10 14) HT_ ?_
   refine aP 10 (some 83) (tf_ 11 14) HT_ ?_
   refine aP 11 (some 84) (tf_ 12 14) HT_ ?_
   refine aP 12 (some 85) (tf_ 13 14) HT_ ?_
   refine last_ (i := 13) (N := none) (tb_ 16383 14) rfl rfl (one_of HT_.out (by kernel_rfl)) (by decide) (fun K hK => ?_)
   refine skip_ (w1 := ?_) (by rfl) rfl ?_ ?_
   rotate_left
   ·go_simp
    rfl
   refine hK.out _ _ ?_
   clear hK K; refine done_ (done_of HT_.out (by kernel_rfl)) ?_
   try go_wp2
   go_roundg kj6
   case measure => have := HK1.out; have := HJ6.out; omega
   case rel => exact ⟨(y176), (y161), (wrap64 (x15_1 + 1)), aZ, H', ⟨by have := HK1.out; have := HJ6.out; omega⟩, ⟨aR HQ56⟩, ⟨by (with_reducible repeat (first | apply Kd.zG | apply Kd.zH | apply Kd.zI)); exact Kd.zS (Kd.zP (p := ⟨go39, ((ji17) : Int).toNat * 4 + 2, none⟩) (Kd.zT HO163.out GG56_.out (by decide)) (fun _ hk => hk.2) (.int .i64 ji43)) (fun _ hk => trivial)⟩, ⟨aL HB⟩⟩
mutual
def items_Make.l0 : Nat → List (S50) → List Int → List Bool → List Int → Int → Int → List (S48) → List Int → Option ((List (S48)) × List Int)
 | 0, _, _, _, _, _, _, _, _ => none
 | k + 1, x0, x2, x3, x25, x26, x27, x198000, x198001 => if x27 < x26 then (if 0 ≤ x27 then (if x27 < (x25.length : Int) then (if (rd x25 x27) = (x0.length : Int) then (if x198001.length < 140737488355328 then (items_Make.l0 k x0 x2 x3 x25 x26 (wrap64 (x27 + 1)) x198000 (x198001 ++ [2])) else (none)) else (if (rd x25 x27) = 0 then (items_Make.j1 k x0 x2 x3 (rd x25 x27) x25 x26 x27 true x198000 x198001) else (items_Make.j1 k x0 x2 x3 (rd x25 x27) x25 x26 x27 (decide ((rd x25 x27) ≥ (x2.length : Int))) x198000 x198001))) else (none)) else (none)) else (some (x198000, x198001))
def items_Make.j1 : Nat → List (S50) → List Int → List Bool → Int → List Int → Int → Int → Bool → List (S48) → List Int → Option ((List (S48)) × List Int)
 | 0, _, _, _, _, _, _, _, _, _, _ => none
 | k + 1, x0, x2, x3, x15, x25, x26, x27, x50, x198000, x198001 => if x50 = true then (if x198001.length < 140737488355328 then (items_Make.l0 k x0 x2 x3 x25 x26 (wrap64 (x27 + 1)) x198000 (x198001 ++ [0])) else (none)) else (if 0 ≤ x15 then (if x15 < (x2.length : Int) then (if (rd x2 x15) = 0 then (if x15 < (x3.length : Int) then (if rdOf false x3 x15 = true then (if x198001.length < 140737488355328 then (items_Make.l0 k x0 x2 x3 x25 x26 (wrap64 (x27 + 1)) x198000 (x198001 ++ [3])) else (none)) else (if x198001.length < 140737488355328 then (items_Make.l0 k x0 x2 x3 x25 x26 (wrap64 (x27 + 1)) x198000 (x198001 ++ [rd x2 x15])) else (none))) else (if x198001.length < 140737488355328 then (items_Make.l0 k x0 x2 x3 x25 x26 (wrap64 (x27 + 1)) x198000 (x198001 ++ [rd x2 x15])) else (none))) else (if x198001.length < 140737488355328 then (items_Make.l0 k x0 x2 x3 x25 x26 (wrap64 (x27 + 1)) x198000 (x198001 ++ [rd x2 x15])) else (none))) else (none)) else (none))
end
def items_Make.f (k : Nat) (l0 : List (S50)) (l1 : List Int) (l2 : List Int) (l3 : List Bool) (a4 : Option (List (Int × Int × Int))) : Option ((List (S48)) × List Int) := (cells_Make.f k l0 l1 a4).bind fun bt191 => (items_Make.l0 k l0 l2 l3 bt191.2 (bt191.2.length : Int) 0 bt191.1 ([] : List Int))
theorem items_Make.mono_l : ∀ k, (∀ y0 y1 y2 y3 y4 y5 y6 y7, LeO (items_Make.l0 k y0 y1 y2 y3 y4 y5 y6 y7) (items_Make.l0 (k + 1) y0 y1 y2 y3 y4 y5 y6 y7)) ∧ (∀ y0 y1 y2 y3 y4 y5 y6 y7 y8 y9, LeO (items_Make.j1 k y0 y1 y2 y3 y4 y5 y6 y7 y8 y9) (items_Make.j1 (k + 1) y0 y1 y2 y3 y4 y5 y6 y7 y8 y9))
 | 0 => ⟨fun _ _ _ _ _ _ _ _ r h => by simp [items_Make.l0] at h, fun _ _ _ _ _ _ _ _ _ _ r h => by simp [items_Make.j1] at h⟩
 | k + 1 => by
  obtain ⟨ih0, ih1⟩ := items_Make.mono_l k; refine ⟨?_, ?_⟩
  ·intro y0 y1 y2 y3 y4 y5 y6 y7
   unfold items_Make.l0
   repeat' (with_reducible first | exact ih0 _ _ _ _ _ _ _ _ | exact ih1 _ _ _ _ _ _ _ _ _ _ | exact cells_Make.mono _ _ _ _ | exact LeO.refl _ | exact LeO.none _ | refine LeO.ite ?_ ?_ | refine LeO.bind ?_ (fun _ => ?_))
  ·intro y0 y1 y2 y3 y4 y5 y6 y7 y8 y9
   unfold items_Make.j1
   repeat' (with_reducible first | exact ih0 _ _ _ _ _ _ _ _ | exact ih1 _ _ _ _ _ _ _ _ _ _ | exact cells_Make.mono _ _ _ _ | exact LeO.refl _ | exact LeO.none _ | refine LeO.ite ?_ ?_ | refine LeO.bind ?_ (fun _ => ?_))
theorem items_Make.mono : ∀ a0 a1 a2 a3 a4 k, LeO (items_Make.f k a0 a1 a2 a3 a4) (items_Make.f (k + 1) a0 a1 a2 a3 a4) := by
 intro a0 a1 a2 a3 a4 k
 obtain ⟨ih0, ih1⟩ := items_Make.mono_l k; unfold items_Make.f
 repeat' (with_reducible first | exact ih0 _ _ _ _ _ _ _ _ | exact ih1 _ _ _ _ _ _ _ _ _ _ | exact cells_Make.mono _ _ _ _ | exact LeO.refl _ | exact LeO.none _ | refine LeO.ite ?_ ?_ | refine LeO.bind ?_ (fun _ => ?_))
def items_Make.T6 : Bool × List (List Nat × List Nat) := (true, [([], []), ([0], [0]), ([], []), ([], []), ([2, 3], [2, 3]), ([4], [4]), ([5], [5]), ([1, 6], [1, 6]), ([0, 1, 2, 3, 4, 5, 6, 7], []), ([8, 7, 7, 0, 1, 2, 3, 4, 5, 6, 7], [7, 8])])
def items_Make.B6 : List Nat := [0, 1, 0, 0, 12, 28, 60, 127, 255, 511]
theorem items_Make.tab6 : rtab .any (opsOf Try.f24 6) = items_Make.T6 := by kernel_rfl
theorem items_Make.bits6 : waitsOk items_Make.T6.2 items_Make.B6 = true := by kernel_rfl
set_option maxHeartbeats 8000000 in
set_option maxRecDepth 100000 in
theorem items_Make.calls (k : Nat) (A0 : Option Addr) (c0 : Nat) (l0 : List (S50)) (A1 : Option Addr) (c1 : Nat) (l1 : List Int) (A2 : Option Addr) (c2 : Nat) (l2 : List Int) (A3 : Option Addr) (c3 : Nat) (l3 : List Bool) (vt4_ : Value) (a4 : Option (List (Int × Int × Int))) (r1 : List (S48)) (r2 : List Int) (w : World) (hr0 : Kd.C k50 w A0 l0.length l0) (hc0 : l0.length ≤ c0) (hr1 : Kd.C (Kd.int .u8) w A1 l1.length l1) (hc1 : l1.length ≤ c1) (hr2 : Kd.C (Kd.int .u8) w A2 l2.length l2) (hc2 : l2.length ≤ c2) (hr3 : Kd.C Kd.bool w A3 l3.length l3) (hc3 : l3.length ≤ c3) (hta4 : TabAt w a4 vt4_) (h : items_Make.f k l0 l1 l2 l3 a4 = some (r1, r2)) :
  Calls Try.prog 24 #[.slice A0 l0.length c0, .slice A1 l1.length c1, .slice A2 l2.length c2, .slice A3 l3.length c3, vt4_] w fun e w' => ∃ v0_ v1_ : Value, e = .returned (.agg #[v0_, v1_]) ∧ Kd.R k48 48 w' w.heap.size (fun _ => True) v0_ r1 ∧ Kd.R (Kd.int .u8) 53 w' w.heap.size (fun _ => True) v1_ r2 ∧ Below w.heap.size w w' := by
 have hu60 := Try.underlying60; have HR0 := zA.mk hr0; have HC0 := zA.mk hc0; clear hr0 hc0; have HR1 := zA.mk hr1; have HC1 := zA.mk hc1; clear hr1 hc1; have HR2 := zA.mk hr2; have HC2 := zA.mk hc2; clear hr2 hc2; have HR3 := zA.mk hr3; have HC3 := zA.mk hc3; clear hr3 hc3; have HTa4 := zA.mk hta4; clear hta4; have HB := zA.mk (Below.refl w.heap.size w); have H : ((cells_Make.f k l0 l1 a4).bind fun bt191 => (items_Make.l0 k l0 l2 l3 bt191.2 (bt191.2.length : Int) 0 bt191.1 ([] : List Int))) = some (r1, r2) := h
 clear h; replace H := Option.bind_eq_some_iff.mp H; obtain ⟨⟨t191, t192⟩, A60, H⟩ := H; replace H : (items_Make.l0 k l0 l2 l3 t192 (t192.length : Int) 0 t191 ([] : List Int)) = some (r1, r2) := H; have A6 := zA.mk A60; clear A60; have H' := zA.mk H
 clear H; go_enter Try.func24, Try.ntmps24
 go_wp2_with (first | ((with_reducible refine gate_dst (N := 10) rfl ?_); (try (refine gate_guard (by rfl) ?_; dsimp only)); refine box_event ?hg (N := 10) ?hd (cs := #[.slice none 0 0, .slice none 0 0]) (t := 60) ?hr ?_; (case hd => rfl); (case hg => rfl); (case hr => first | (go_simp; done) | (go_simp; rfl)); intro gb190 hg w7 hbox hb; have BK190 := zA.mk (hbox); have GW190 := zA.mk ((by rw [hg]; exact (below_size (aL HB)) : w.heap.size ≤ gb190)); replace HB := zA.mk (below_step (aL HB) hb); have GE190 := GW190; clear hb hbox hg) | ((with_reducible refine gate_callee (f := 17) rfl ?_); refine goesL_ (some 20) rfl rfl Try.func17 (by kernel_rfl) rfl #[.slice A0 l0.length c0, .slice A1 l1.length c1, vt4_] rfl aT ?_; (with_reducible refine (cells_Make.calls k _ _ l0 _ _ l1 vt4_ a4 t191 t192 _ ?side1 ?side2 ?side3 ?side4 ?side5 A6.out).mono ?_); (case side1 => exact aA HR0 HB); (case side2 => exact HC0.out); (case side3 => exact aA HR1 HB); (case side4 => exact HC1.out); (case side5 => exact TabAt.below HTa4.out (aL HB)); rintro e w8 ⟨v193, v195, rfl, ho0, ho1, hb⟩; refine ⟨_, rfl, ?_⟩; have HO194 := zA.mk (Kd.zR ho0 (below_size (aL HB))); have HO196 := zA.mk (Kd.zR ho1 (below_size (aL HB))); replace BK190 := zA.mk (zF (aB BK190) hb); replace HB := zA.mk (below_step (aL HB) hb); (try clear hb); (try clear hb2); (try clear hk); (try clear hi); (try clear ho0); (try clear ho1); obtain ⟨Ao9, co9, eo9⟩ := Kd.zQ HO194.out; subst eo9) | ((with_reducible refine gate_dst (N := 13) rfl ?_); (try (refine gate_guard (by rfl) ?_; dsimp only)); refine box_event ?hg (N := 13) ?hd (cs := #[.slice none 0 0, .slice none 0 0]) (t := 60) ?hr ?_; (case hd => rfl); (case hg => rfl); (case hr => first | (go_simp; done) | (go_simp; rfl)); intro gb197 hg w10 hbox hb; replace HO194 := zA.mk (Kd.zO (aR HO194) hb); replace HO196 := zA.mk (Kd.zO (aR HO196) hb); have BK197 := zA.mk (hbox); have GW197 := zA.mk ((by rw [hg]; exact (below_size (aL HB)) : w.heap.size ≤ gb197)); replace HB := zA.mk (below_step (aL HB) hb); have GE197 := GW197; have NB190_197 := zA.mk ((by rw [hg]; exact Nat.ne_of_lt (blk_lt (aB BK190)) : gb190 ≠ gb197)); have NB197_190 := zA.mk ((by rw [hg]; exact Nat.ne_of_gt (blk_lt (g := gb190) (o := .cells #[.slice none 0 0, .slice none 0 0] 60 (0, 0)) (aB BK190)) : gb197 ≠ gb190)); replace BK190 := zA.mk (zF (aB BK190) hb); clear hb hbox hg; have hnb11 := NB197_190.out; have hnc11 := NB190_197.out; obtain ⟨hcz12_0, hcz12_1, hfz12_0, hfz12_1⟩ := aC2 BK197) | ((with_reducible refine gate_store (t := 60) (p := 13) rfl ?_); refine store_event (t := 60) (p := 13) (v := ?vo_w13) (w1 := ((w10.setCell ⟨gb197, 0, none⟩ (.slice Ao9 t191.length co9)).setCell ⟨gb197, 1, none⟩ (.slice none 0 0))) ?hg ?ho ?hn ?hr ?_; (case ho => rfl); (case hg => rfl); (case hn => rfl); (case hr => first | (go_simp; done) | (go_simp; rfl)); intro w13 hw; have n0_ : zA (Kd.R k48 48 w13 w.heap.size (fun _ => True) (.slice Ao9 t191.length co9) t191) := ⟨(by rw [hw]; exact (by (with_reducible repeat (first | apply Kd.zG | apply Kd.zH | apply Kd.zI)); exact Kd.zS (Kd.zP (p := ⟨gb197, 1, none⟩) (Kd.zP (p := ⟨gb197, 0, none⟩) (Kd.zT HO194.out BK197.out (by decide)) (fun _ hk => hk.2) (.slice Ao9 t191.length co9)) (fun _ hk => hk.2) (.slice none 0 0)) (fun _ hk => trivial)))⟩; have n1_ : zA (Kd.R (Kd.int .i64) 3 w13 w.heap.size (fun _ => True) v195 t192) := ⟨(by rw [hw]; exact (by (with_reducible repeat (first | apply Kd.zG | apply Kd.zH | apply Kd.zI)); exact Kd.zS (Kd.zP (p := ⟨gb197, 1, none⟩) (Kd.zP (p := ⟨gb197, 0, none⟩) (Kd.zT HO196.out BK197.out (by decide)) (fun _ hk => hk.2) (.slice Ao9 t191.length co9)) (fun _ hk => hk.2) (.slice none 0 0)) (fun _ hk => trivial)))⟩; have n2_ : zA (w13.heap[gb190]? = some (.cells #[.slice none 0 0, .slice none 0 0] 60 (0, 0))) := ⟨(by rw [hw]; exact (aB BK190))⟩; have n3_ : zA (w13.heap[gb197]? = some (.cells #[.slice Ao9 t191.length co9, .slice none 0 0] 60 (0, 0))) := ⟨(by rw [hw]; exact (by (with_reducible repeat (first | refine zD ?_ _ | refine zC ?_ | refine zB ?_ _)); refine blk_put (cs := #[.slice Ao9 t191.length co9, .slice none 0 0]) ?_ 1 _ rfl; (with_reducible repeat (first | refine zD ?_ _ | refine zC ?_ | refine zB ?_ _)); refine blk_put (cs := #[.slice none 0 0, .slice none 0 0]) ?_ 0 _ rfl; (with_reducible repeat (first | refine zD ?_ _ | refine zC ?_ | refine zB ?_ _)); exact BK197.out))⟩; have n4_ : zA (Below w.heap.size w w13) := ⟨(by rw [hw]; exact (aL HB))⟩; clear hw; clear HO194; clear HO196; clear BK190; clear BK197; clear HB; have HO194 := n0_; have HO196 := n1_; have BK190 := n2_; have BK197 := n3_; have HB := n4_; clear n0_ n1_ n2_ n3_ n4_; obtain ⟨Ao14, co14, eo14⟩ := Kd.zQ HO196.out; subst eo14))
 go_loopg [27] k (fun kq v27 w' => ∃ (x27_1 : Int) (x198001_1 : List Int) (u198001 : Value), v27 = .int .i64 x27_1 ∧ zA (items_Make.l0 kq l0 l2 l3 t192 (t192.length : Int) x27_1 t191 x198001_1 = some (r1, r2)) ∧ zA (kq ≤ k) ∧ zA (Kd.R (Kd.int .i64) 3 w' w.heap.size (fun _ => True) (.slice Ao14 t192.length co14) t192) ∧ zA (Kd.R k48 48 w' w.heap.size (fun _ => True) (.slice Ao9 t191.length co9) t191) ∧ zA (Kd.R (Kd.int .u8) 53 w' w.heap.size (fun _ => True) u198001 x198001_1) ∧ zA (w'.heap[gb190]? = some (.cells #[(.slice none 0 0), (.slice none 0 0)] 60 (0, 0))) ∧ zA (w'.heap[gb197]? = some (.cells #[(.slice Ao9 t191.length co9), u198001] 60 (0, 0))) ∧ zA (Below w.heap.size w w'))
 case atStart => exact ⟨(0), (([] : List Int)), (.slice none 0 0), aZ, H', ⟨Nat.le_refl _⟩, ⟨aR HO196⟩, ⟨aR HO194⟩, ⟨by first | exact Kd.R_nil _ _ _ _ _ | exact Kd.N_nil _ _ _ _ _ | exact Kd.V_nil _ _ _ _ _ | exact Kd.Q_nil _ _ _ _ _ | exact Kd.S_nil _ _ _ _ _⟩, ⟨aB BK190⟩, ⟨aB BK197⟩, ⟨aL HB⟩⟩
 clear H'; obtain ⟨x27_1, x198001_1, u198001, rfl, HA, HK1, HO_25, HO_198000, HO_198001, BK190, BK197, HB⟩ := hrel; cases gk with
 | zero => exact absurd HA.out (by simp [items_Make.l0])
 | succ k1 =>
  have H := HA.out; clear HA; simp only [items_Make.l0] at H; by_cases c15 : x27_1 < (t192.length : Int)
  rotate_left
  ·rw [if_neg c15] at H
   have c15b0 : decide (x27_1 < (t192.length : Int)) = false := decide_eq_false c15
   clear c15; simp only [Option.some.injEq, Prod.mk.injEq] at H; obtain ⟨rfl, rfl⟩ := H; have hnb61 := NB197_190.out; have hnc61 := NB190_197.out; obtain ⟨hcz62_0, hcz62_1, hfz62_0, hfz62_1⟩ := aC2 BK197; obtain ⟨hcz63_0, hcz63_1, hfz63_0, hfz63_1⟩ := aC2 BK190; obtain ⟨Ao64, co64, eo64⟩ := Kd.zQ HO_198001.out; subst eo64; go_wp2_with (first | ((with_reducible refine gate_store (t := 60) (p := 10) rfl ?_); refine store_event (t := 60) (p := 10) (v := ?vo_w65) (w1 := ((wr.setCell ⟨gb190, 0, none⟩ (.slice Ao9 t191.length co9)).setCell ⟨gb190, 1, none⟩ (.slice Ao64 x198001_1.length co64))) ?hg ?ho ?hn ?hr ?_; (case ho => rfl); (case hg => rfl); (case hn => rfl); (case hr => first | (go_simp; done) | (go_simp; rfl)); intro w65 hw; have n0_ : zA (Kd.R (Kd.int .i64) 3 w65 w.heap.size (fun _ => True) (.slice Ao14 t192.length co14) t192) := ⟨(by rw [hw]; exact (by (with_reducible repeat (first | apply Kd.zG | apply Kd.zH | apply Kd.zI)); exact Kd.zS (Kd.zP (p := ⟨gb190, 1, none⟩) (Kd.zP (p := ⟨gb190, 0, none⟩) (Kd.zT HO_25.out BK190.out (by decide)) (fun _ hk => hk.2) (.slice Ao9 t191.length co9)) (fun _ hk => hk.2) (.slice Ao64 x198001_1.length co64)) (fun _ hk => trivial)))⟩; have n1_ : zA (Kd.R k48 48 w65 w.heap.size (fun _ => True) (.slice Ao9 t191.length co9) t191) := ⟨(by rw [hw]; exact (by (with_reducible repeat (first | apply Kd.zG | apply Kd.zH | apply Kd.zI)); exact Kd.zS (Kd.zP (p := ⟨gb190, 1, none⟩) (Kd.zP (p := ⟨gb190, 0, none⟩) (Kd.zT HO_198000.out BK190.out (by decide)) (fun _ hk => hk.2) (.slice Ao9 t191.length co9)) (fun _ hk => hk.2) (.slice Ao64 x198001_1.length co64)) (fun _ hk => trivial)))⟩; have n2_ : zA (Kd.R (Kd.int .u8) 53 w65 w.heap.size (fun _ => True) (.slice Ao64 x198001_1.length co64) x198001_1) := ⟨(by rw [hw]; exact (by (with_reducible repeat (first | apply Kd.zG | apply Kd.zH | apply Kd.zI)); exact Kd.zS (Kd.zP (p := ⟨gb190, 1, none⟩) (Kd.zP (p := ⟨gb190, 0, none⟩) (Kd.zT HO_198001.out BK190.out (by decide)) (fun _ hk => hk.2) (.slice Ao9 t191.length co9)) (fun _ hk => hk.2) (.slice Ao64 x198001_1.length co64)) (fun _ hk => trivial)))⟩; have n3_ : zA (w65.heap[gb190]? = some (.cells #[.slice Ao9 t191.length co9, .slice Ao64 x198001_1.length co64] 60 (0, 0))) := ⟨(by rw [hw]; exact (by (with_reducible repeat (first | refine zD ?_ _ | refine zC ?_ | refine zB ?_ _)); refine blk_put (cs := #[.slice Ao9 t191.length co9, .slice none 0 0]) ?_ 1 _ rfl; (with_reducible repeat (first | refine zD ?_ _ | refine zC ?_ | refine zB ?_ _)); refine blk_put (cs := #[.slice none 0 0, .slice none 0 0]) ?_ 0 _ rfl; (with_reducible repeat (first | refine zD ?_ _ | refine zC ?_ | refine zB ?_ _)); exact BK190.out))⟩; have n4_ : zA (w65.heap[gb197]? = some (.cells #[.slice Ao9 t191.length co9, .slice Ao64 x198001_1.length co64] 60 (0, 0))) := ⟨(by rw [hw]; exact (aB BK197))⟩; have n5_ : zA (Below w.heap.size w w65) := ⟨(by rw [hw]; exact (aL HB))⟩; clear hw; clear HO_25; clear HO_198000; clear HO_198001; clear BK190; clear BK197; clear HB; have HO_25 := n0_; have HO_198000 := n1_; have HO_198001 := n2_; have BK190 := n3_; have BK197 := n4_; have HB := n5_; clear n0_ n1_ n2_ n3_ n4_ n5_))
   refine bodyPost_ret (results_cell_row rfl _ _ gb190 60 #[.slice Ao9 t191.length co9, .slice Ao64 x198001_1.length co64] (0, 0) _ rfl (aB BK190) Try.underlying60 rfl (by kernel_rfl)) rfl ?_
   exact ⟨_, _, aX, aR HO_198000, aR HO_198001, aL HB⟩
  rw [if_pos c15] at H; have c15b0 : decide (x27_1 < (t192.length : Int)) = true := decide_eq_true c15
  clear c15; by_cases c16 : 0 ≤ x27_1
  rotate_left
  ·rw [if_neg c16] at H
   exact absurd H (by simp)
  rw [if_pos c16] at H; have c16b0 : decide (0 ≤ x27_1) = true := decide_eq_true c16
  clear c16; by_cases c17 : x27_1 < (t192.length : Int)
  rotate_left
  ·rw [if_neg c17] at H
   exact absurd H (by simp)
  rw [if_pos c17] at H; have c17b0 : decide (x27_1 < (t192.length : Int)) = true := decide_eq_true c17
  clear c17; by_cases c18 : (rd t192 x27_1) = (l0.length : Int)
  ·rw [if_pos c18] at H
   have c18b0 : ((rd t192 x27_1) == (l0.length : Int)) = true := beq_iff_eq.mpr c18
   have c18b1 : ((rd t192 x27_1) != (l0.length : Int)) = false := bne_eq_false_iff_eq.mpr c18
   clear c18; by_cases c19 : x198001_1.length < 140737488355328
   rotate_left
   ·rw [if_neg c19] at H
    exact absurd H (by simp)
   rw [if_pos c19] at H; have LMc19 := zA.mk c19; clear c19; obtain ⟨y199, hy199⟩ : ∃ y_ : List Int, y_ = (x198001_1 ++ [2]) := ⟨_, rfl⟩; replace H : (items_Make.l0 k1 l0 l2 l3 t192 (t192.length : Int) (wrap64 (x27_1 + 1)) t191 y199) = some (r1, r2) := by first | (rw [hy199]; with_reducible exact H) | (have H2_ := (Option.bind_some _ _).symm.trans H; rw [hy199]; with_reducible exact H2_) | (have H2_ := (Option.bind_some _ _).symm.trans H; with_reducible exact H2_) | with_reducible exact H | (rw [hy199]; exact H) | exact H
   have Ny199 := zA.mk hy199; clear hy199; have H' := zA.mk H
   clear H; have p198 : 0 ≤ (x27_1 : Int) := aD
   have q198 : x27_1 < (t192.length : Int) := aD
   obtain ⟨ad198, e198, hx198_0⟩ := Kd.at_int (Kd.zN HO_25.out).2.2 x27_1 p198 q198; cases e198
   replace p198 := eq_true p198; replace q198 := eq_true q198; have hnb20 := NB197_190.out; have hnc20 := NB190_197.out; obtain ⟨hcz21_0, hcz21_1, hfz21_0, hfz21_1⟩ := aC2 BK197; go_wp2_with (first | ((with_reducible refine gate_builtin (b := .append) (xs := #[.tmp 46, .tmp 47]) rfl ?_); (try (refine gate_guard (by rfl) ?_; dsimp only)); at_builtin; refine Kd.R_append (Kd.int .u8) (w0 := w) w.heap.size rfl (.tmp 46) (.tmp 47) 38 53 (.int .u8 0) 1 rfl Try.underlying38 info53 rfl (by decide) (by omega) u198001 x198001_1 2 [.int .u8 2] (fun _ => True) (fun _ => False) rfl rfl ?aP (fun _ hk => hk.elim) ?aF ?aO ?aB ?aS ?aL ?_; (case aP => exact rfl); (case aB => exact (aL HB)); (case aF => exact (fun _ _ => trivial)); (case aO => exact (aR HO_198001)); (case aS => exact (below_size (aL HB))); (case aL => have := LMc19.out; omega); intro v200 w22 ho hb hg hat; rw [← Ny199.out] at ho; replace HO_25 := zA.mk (Kd.R_over' (aR HO_25) (Kd.R_typed (aR HO_198001)) (by decide) hg); replace HO_198000 := zA.mk (Kd.R_over' (aR HO_198000) (Kd.R_typed (aR HO_198001)) (by decide) hg); replace BK190 := zA.mk (blk_grown (g := gb190) (o := .cells #[.slice none 0 0, .slice none 0 0] 60 (0, 0)) (aB BK190) hg (Kd.R_ne HO_198001.out BK190.out (by decide))); replace BK197 := zA.mk (blk_grown (g := gb197) (o := .cells #[.slice Ao9 t191.length co9, u198001] 60 (0, 0)) (aB BK197) hg (Kd.R_ne HO_198001.out BK197.out (by decide))); replace HB := zA.mk (hb); have HO201 := zA.mk (ho); clear HO_198001; clear ho hb hg hat; obtain ⟨Ao23, co23, eo23⟩ := Kd.zQ HO201.out; subst eo23; obtain ⟨hcz24_0, hcz24_1, hfz24_0, hfz24_1⟩ := aC2 BK197))
   go_roundg k1
   case measure => have := HK1.out; omega
   case rel => exact ⟨(wrap64 (x27_1 + 1)), (y199), (.slice Ao23 y199.length co23), aZ, H', ⟨by have := HK1.out; omega⟩, ⟨by (with_reducible repeat (first | apply Kd.zG | apply Kd.zH | apply Kd.zI)); exact Kd.zS (Kd.zP (p := ⟨gb197, 1, none⟩) (Kd.zT HO_25.out BK197.out (by decide)) (fun _ hk => hk.2) (.slice Ao23 y199.length co23)) (fun _ hk => trivial)⟩, ⟨by (with_reducible repeat (first | apply Kd.zG | apply Kd.zH | apply Kd.zI)); exact Kd.zS (Kd.zP (p := ⟨gb197, 1, none⟩) (Kd.zT HO_198000.out BK197.out (by decide)) (fun _ hk => hk.2) (.slice Ao23 y199.length co23)) (fun _ hk => trivial)⟩, ⟨by (with_reducible repeat (first | apply Kd.zG | apply Kd.zH | apply Kd.zI)); exact Kd.zS (Kd.zP (p := ⟨gb197, 1, none⟩) (Kd.zT HO201.out BK197.out (by decide)) (fun _ hk => hk.2) (.slice Ao23 y199.length co23)) (fun _ hk => trivial)⟩, ⟨by (with_reducible repeat (first | refine zD ?_ _ | refine zC ?_ | refine zB ?_ _)); refine blk_far ?_ NB190_197.out _; (with_reducible repeat (first | refine zD ?_ _ | refine zC ?_ | refine zB ?_ _)); exact BK190.out⟩, ⟨by (with_reducible repeat (first | refine zD ?_ _ | refine zC ?_ | refine zB ?_ _)); refine blk_put (cs := #[.slice Ao9 t191.length co9, u198001]) ?_ 1 _ rfl; (with_reducible repeat (first | refine zD ?_ _ | refine zC ?_ | refine zB ?_ _)); exact BK197.out⟩, ⟨aL HB⟩⟩
  rw [if_neg c18] at H; have c18b0 : ((rd t192 x27_1) == (l0.length : Int)) = false := beq_eq_false_iff_ne.mpr c18
  have c18b1 : ((rd t192 x27_1) != (l0.length : Int)) = true := bne_iff_ne.mpr c18
  have HC25 := zA.mk H; clear H; have p198 : 0 ≤ (x27_1 : Int) := aD
  have q198 : x27_1 < (t192.length : Int) := aD
  obtain ⟨ad198, e198, hx198_0⟩ := Kd.at_int (Kd.zN HO_25.out).2.2 x27_1 p198 q198; cases e198
  replace p198 := eq_true p198; replace q198 := eq_true q198; go_upto_region 9 with (fail)
  go_cut [50] (fun v50 wc => ∃ (kq : Nat) (x50_24 : Bool), v50 = .bool x50_24 ∧ zA (items_Make.j1 kq l0 l2 l3 (rd t192 x27_1) t192 (t192.length : Int) x27_1 x50_24 t191 x198001_1 = some (r1, r2)) ∧ zA (kq ≤ k1) ∧ zA (Kd.R (Kd.int .i64) 3 wc w.heap.size (fun _ => True) (.slice (some ad198) t192.length co14) t192) ∧ zA (Kd.R k48 48 wc w.heap.size (fun _ => True) (.slice Ao9 t191.length co9) t191) ∧ zA (Kd.R (Kd.int .u8) 53 wc w.heap.size (fun _ => True) u198001 x198001_1) ∧ zA (wc.heap[gb190]? = some (.cells #[(.slice none 0 0), (.slice none 0 0)] 60 (0, 0))) ∧ zA (wc.heap[gb197]? = some (.cells #[(.slice Ao9 t191.length co9), u198001] 60 (0, 0))) ∧ zA (Below w.heap.size w wc))
  case first =>
   have H := HC25.out; clear HC25; by_cases c26 : (rd t192 x27_1) = 0
   ·rw [if_pos c26] at H
    have c26b0 : ((rd t192 x27_1) == 0) = true := beq_iff_eq.mpr c26
    have c26b1 : ((rd t192 x27_1) != 0) = false := bne_eq_false_iff_eq.mpr c26
    clear c26; (first | rw [c26b0] | (simp only [i64_w, i32_w]; rw [c26b0]) | skip)
    have H' := zA.mk H
    clear H; go_wp2
    go_meet
    case rel => exact ⟨_, (true), aZ, H', ⟨by have := HK1.out; first | omega | exact Nat.le_refl _⟩, ⟨aR HO_25⟩, ⟨aR HO_198000⟩, ⟨aR HO_198001⟩, ⟨aB BK190⟩, ⟨aB BK197⟩, ⟨aL HB⟩⟩
   rw [if_neg c26] at H; have c26b0 : ((rd t192 x27_1) == 0) = false := beq_eq_false_iff_ne.mpr c26
   have c26b1 : ((rd t192 x27_1) != 0) = true := bne_iff_ne.mpr c26
   (first | rw [c26b0] | (simp only [i64_w, i32_w]; rw [c26b0]) | skip)
   have H' := zA.mk H
   clear H; go_wp2
   go_meet
   case rel => exact ⟨_, (decide ((rd t192 x27_1) ≥ (l2.length : Int))), aZ, H', ⟨by have := HK1.out; first | omega | exact Nat.le_refl _⟩, ⟨aR HO_25⟩, ⟨aR HO_198000⟩, ⟨aR HO_198001⟩, ⟨aB BK190⟩, ⟨aB BK197⟩, ⟨aL HB⟩⟩
  clear HC25; obtain ⟨kq, x50_24, rfl, HA, HJ24, HO_25, HO_198000, HO_198001, BK190, BK197, HB⟩ := hcut; cases kq with
  | zero => exact absurd HA.out (by simp [items_Make.j1])
  | succ kj24 =>
   have H := HA.out; clear HA; simp only [items_Make.j1] at H; by_cases c27 : x50_24 = true
   ·subst c27
    have H1 : (if x198001_1.length < 140737488355328 then (items_Make.l0 kj24 l0 l2 l3 t192 (t192.length : Int) (wrap64 (x27_1 + 1)) t191 (x198001_1 ++ [0])) else (none)) = some (r1, r2) := by rw [if_pos rfl] at H; exact H
    clear H; have H := H1; clear H1; by_cases c28 : x198001_1.length < 140737488355328
    rotate_left
    ·rw [if_neg c28] at H
     exact absurd H (by simp)
    rw [if_pos c28] at H; have LMc28 := zA.mk c28; clear c28; obtain ⟨y202, hy202⟩ : ∃ y_ : List Int, y_ = (x198001_1 ++ [0]) := ⟨_, rfl⟩; replace H : (items_Make.l0 kj24 l0 l2 l3 t192 (t192.length : Int) (wrap64 (x27_1 + 1)) t191 y202) = some (r1, r2) := by first | (rw [hy202]; with_reducible exact H) | (have H2_ := (Option.bind_some _ _).symm.trans H; rw [hy202]; with_reducible exact H2_) | (have H2_ := (Option.bind_some _ _).symm.trans H; with_reducible exact H2_) | with_reducible exact H | (rw [hy202]; exact H) | exact H
    have Ny202 := zA.mk hy202; clear hy202; have H' := zA.mk H
    clear H; have hnb29 := NB197_190.out; have hnc29 := NB190_197.out; obtain ⟨hcz30_0, hcz30_1, hfz30_0, hfz30_1⟩ := aC2 BK197; go_wp2_with (first | ((with_reducible refine gate_builtin (b := .append) (xs := #[.tmp 60, .tmp 61]) rfl ?_); (try (refine gate_guard (by rfl) ?_; dsimp only)); at_builtin; refine Kd.R_append (Kd.int .u8) (w0 := w) w.heap.size rfl (.tmp 60) (.tmp 61) 38 53 (.int .u8 0) 1 rfl Try.underlying38 info53 rfl (by decide) (by omega) u198001 x198001_1 0 [.int .u8 0] (fun _ => True) (fun _ => False) rfl rfl ?aP (fun _ hk => hk.elim) ?aF ?aO ?aB ?aS ?aL ?_; (case aP => exact rfl); (case aB => exact (aL HB)); (case aF => exact (fun _ _ => trivial)); (case aO => exact (aR HO_198001)); (case aS => exact (below_size (aL HB))); (case aL => have := LMc28.out; omega); intro v203 w31 ho hb hg hat; rw [← Ny202.out] at ho; replace HO_25 := zA.mk (Kd.R_over' (aR HO_25) (Kd.R_typed (aR HO_198001)) (by decide) hg); replace HO_198000 := zA.mk (Kd.R_over' (aR HO_198000) (Kd.R_typed (aR HO_198001)) (by decide) hg); replace BK190 := zA.mk (blk_grown (g := gb190) (o := .cells #[.slice none 0 0, .slice none 0 0] 60 (0, 0)) (aB BK190) hg (Kd.R_ne HO_198001.out BK190.out (by decide))); replace BK197 := zA.mk (blk_grown (g := gb197) (o := .cells #[.slice Ao9 t191.length co9, u198001] 60 (0, 0)) (aB BK197) hg (Kd.R_ne HO_198001.out BK197.out (by decide))); replace HB := zA.mk (hb); have HO204 := zA.mk (ho); clear HO_198001; clear ho hb hg hat; obtain ⟨Ao32, co32, eo32⟩ := Kd.zQ HO204.out; subst eo32; obtain ⟨hcz33_0, hcz33_1, hfz33_0, hfz33_1⟩ := aC2 BK197))
    go_roundg kj24
    case measure => have := HK1.out; have := HJ24.out; omega
    case rel => exact ⟨(wrap64 (x27_1 + 1)), (y202), (.slice Ao32 y202.length co32), aZ, H', ⟨by have := HK1.out; have := HJ24.out; omega⟩, ⟨by (with_reducible repeat (first | apply Kd.zG | apply Kd.zH | apply Kd.zI)); exact Kd.zS (Kd.zP (p := ⟨gb197, 1, none⟩) (Kd.zT HO_25.out BK197.out (by decide)) (fun _ hk => hk.2) (.slice Ao32 y202.length co32)) (fun _ hk => trivial)⟩, ⟨by (with_reducible repeat (first | apply Kd.zG | apply Kd.zH | apply Kd.zI)); exact Kd.zS (Kd.zP (p := ⟨gb197, 1, none⟩) (Kd.zT HO_198000.out BK197.out (by decide)) (fun _ hk => hk.2) (.slice Ao32 y202.length co32)) (fun _ hk => trivial)⟩, ⟨by (with_reducible repeat (first | apply Kd.zG | apply Kd.zH | apply Kd.zI)); exact Kd.zS (Kd.zP (p := ⟨gb197, 1, none⟩) (Kd.zT HO204.out BK197.out (by decide)) (fun _ hk => hk.2) (.slice Ao32 y202.length co32)) (fun _ hk => trivial)⟩, ⟨by (with_reducible repeat (first | refine zD ?_ _ | refine zC ?_ | refine zB ?_ _)); refine blk_far ?_ NB190_197.out _; (with_reducible repeat (first | refine zD ?_ _ | refine zC ?_ | refine zB ?_ _)); exact BK190.out⟩, ⟨by (with_reducible repeat (first | refine zD ?_ _ | refine zC ?_ | refine zB ?_ _)); refine blk_put (cs := #[.slice Ao9 t191.length co9, u198001]) ?_ 1 _ rfl; (with_reducible repeat (first | refine zD ?_ _ | refine zC ?_ | refine zB ?_ _)); exact BK197.out⟩, ⟨aL HB⟩⟩
   replace c27 := Bool.eq_false_iff.mpr c27; subst c27; have H1 : (if 0 ≤ (rd t192 x27_1) then (if (rd t192 x27_1) < (l2.length : Int) then (if (rd l2 (rd t192 x27_1)) = 0 then (if (rd t192 x27_1) < (l3.length : Int) then (if rdOf false l3 (rd t192 x27_1) = true then (if x198001_1.length < 140737488355328 then (items_Make.l0 kj24 l0 l2 l3 t192 (t192.length : Int) (wrap64 (x27_1 + 1)) t191 (x198001_1 ++ [3])) else (none)) else (if x198001_1.length < 140737488355328 then (items_Make.l0 kj24 l0 l2 l3 t192 (t192.length : Int) (wrap64 (x27_1 + 1)) t191 (x198001_1 ++ [rd l2 (rd t192 x27_1)])) else (none))) else (if x198001_1.length < 140737488355328 then (items_Make.l0 kj24 l0 l2 l3 t192 (t192.length : Int) (wrap64 (x27_1 + 1)) t191 (x198001_1 ++ [rd l2 (rd t192 x27_1)])) else (none))) else (if x198001_1.length < 140737488355328 then (items_Make.l0 kj24 l0 l2 l3 t192 (t192.length : Int) (wrap64 (x27_1 + 1)) t191 (x198001_1 ++ [rd l2 (rd t192 x27_1)])) else (none))) else (none)) else (none)) = some (r1, r2) := by rw [if_neg (show ¬ (false = true) by decide)] at H; exact H
   clear H; have H := H1; clear H1; by_cases c34 : 0 ≤ (rd t192 x27_1)
   rotate_left
   ·rw [if_neg c34] at H
    exact absurd H (by simp)
   rw [if_pos c34] at H; have c34b0 : decide (0 ≤ (rd t192 x27_1)) = true := decide_eq_true c34
   clear c34; by_cases c35 : (rd t192 x27_1) < (l2.length : Int)
   rotate_left
   ·rw [if_neg c35] at H
    exact absurd H (by simp)
   rw [if_pos c35] at H; have c35b0 : decide ((rd t192 x27_1) < (l2.length : Int)) = true := decide_eq_true c35
   clear c35; by_cases c36 : (rd l2 (rd t192 x27_1)) = 0
   rotate_left
   ·rw [if_neg c36] at H
    have c36b0 : ((rd l2 (rd t192 x27_1)) == 0) = false := beq_eq_false_iff_ne.mpr c36
    have c36b1 : ((rd l2 (rd t192 x27_1)) != 0) = true := bne_iff_ne.mpr c36
    by_cases c56 : x198001_1.length < 140737488355328
    rotate_left
    ·rw [if_neg c56] at H
     exact absurd H (by simp)
    rw [if_pos c56] at H; have LMc56 := zA.mk c56; clear c56; obtain ⟨y219, hy219⟩ : ∃ y_ : List Int, y_ = (x198001_1 ++ [rd l2 (rd t192 x27_1)]) := ⟨_, rfl⟩; replace H : (items_Make.l0 kj24 l0 l2 l3 t192 (t192.length : Int) (wrap64 (x27_1 + 1)) t191 y219) = some (r1, r2) := by first | (rw [hy219]; with_reducible exact H) | (have H2_ := (Option.bind_some _ _).symm.trans H; rw [hy219]; with_reducible exact H2_) | (have H2_ := (Option.bind_some _ _).symm.trans H; with_reducible exact H2_) | with_reducible exact H | (rw [hy219]; exact H) | exact H
    have Ny219 := zA.mk hy219; clear hy219; have H' := zA.mk H
    clear H; have p205 : 0 ≤ ((rd t192 x27_1) : Int) := aD
    have q205 : (rd t192 x27_1) < (l2.length : Int) := aD
    obtain ⟨ad205, e205, hx205_0⟩ := Kd.at_int HR2.out (rd t192 x27_1) p205 q205; cases e205
    replace hx205_0 := (HB.out.cell (World.block_lt_of_cell? w _ hx205_0)).trans hx205_0; replace p205 := eq_true p205; replace q205 := eq_true q205; try go_wp2
    replace HO_25 := zA.mk (Kd.zI HO_25.out); replace HO_198000 := zA.mk (Kd.zI HO_198000.out); replace HO_198001 := zA.mk (Kd.zI HO_198001.out); replace BK190 := zA.mk (zC BK190.out); replace BK197 := zA.mk (zC BK197.out); replace HB := zA.mk (below_drew1 HB.out); have p218 : 0 ≤ ((rd t192 x27_1) : Int) := aD
    have q218 : (rd t192 x27_1) < (l2.length : Int) := aD
    obtain ⟨ad218, e218, hx218_0⟩ := Kd.at_int HR2.out (rd t192 x27_1) p218 q218; have hw218_0 := hx218_0; obtain rfl : ad205 = ad218 := (by injection e218)
    replace hx218_0 := (HB.out.cell (World.block_lt_of_cell? w _ hx218_0)).trans hx218_0; replace p218 := eq_true p218; replace q218 := eq_true q218; refine start_ (n := 10) (S := fun w' => w'.cell? ⟨gb197, 0, none⟩ = some (.slice Ao9 t191.length co9) ∧ w'.cell? ⟨gb197, 1, none⟩ = some (u198001) ∧ w'.cell? (ad205.add ((rd t192 x27_1)).toNat) = some (.int .u8 (rd l2 (rd t192 x27_1)))) (ds := [9]) #[false, false, false, false, false, false, false, false, false, false] (by kernel_rfl) rfl rfl ⟨(zE BK197.out 0).trans rfl, (zE BK197.out 1).trans rfl, ((HB.out.cell (World.block_lt_of_cell? w _ hw218_0)).trans hw218_0)⟩ (fun hHeld => ?_); refine with_tabW items_Make.tab6 items_Make.bits6 (fun HT_ HW_ => ?_)
    generalize wc.drew = w57 at HO_25 HO_198000 HO_198001 BK190 BK197 HB hx218_0 hHeld ⊢
    refine aP 0 (some 31) (tf_ 1 10) HT_ ?_
    refine aP 2 (some 33) (tb_ 5 10) HT_ ?_
    refine aP 3 (some 34) (tb_ 13 10) HT_ ?_
    refine aP 4 (some 35) (tb_ 29 10) HT_ ?_
    refine take_ (i := 1) (N := some 32) (v := ?_) (a' := ?_) (tf_ 5 10) rfl rfl (take_ofW HT_.out HW_.out (by kernel_rfl)) (fun _ _ _ h => h) (Or.inl ⟨by rfl, ?_⟩) hHeld ?_ ?_
    rotate_left
    ·rintro w' ⟨s0, s1, s2⟩
     go_simp
     with_reducible rfl
    rotate_left
    ·simp only [Act.put, sA_, sB_, sC_, i64_w, i32_w]
     rfl
    refine take_ (i := 5) (N := some 36) (v := ?_) (a' := ?_) (tf_ 6 10) rfl rfl (take_ofW HT_.out HW_.out (by kernel_rfl)) (fun _ _ _ h => h) (Or.inl ⟨by rfl, ?_⟩) hHeld ?_ ?_
    rotate_left
    ·rintro w' ⟨s0, s1, s2⟩
     go_simp
     with_reducible rfl
    rotate_left
    ·simp only [Act.put, sA_, sB_, sC_, i64_w, i32_w]
     rfl
    refine one_ (i := 6) (N := some 37) (tb_ 127 10) rfl rfl (one_of HT_.out (by kernel_rfl)) (by decide) (fun K hK => ?_)
    refine value_ (w1 := ?_) (v := ?_) (by rfl) rfl ?_ ?_
    rotate_left 2
    ·go_simp
     constructor
     ·rfl
     rfl
    refine hK.out _ _ ⟨(zE (zB BK197.out _) 0).trans rfl, (zE (zB BK197.out _) 1).trans rfl, (World.cell?_alloc_lt _ _ _ (World.block_lt_of_cell? _ _ (((HB.out.cell (World.block_lt_of_cell? w _ hw218_0)).trans hw218_0)))).trans (((HB.out.cell (World.block_lt_of_cell? w _ hw218_0)).trans hw218_0))⟩ (fun hHeld => ?_)
    clear hK K; refine norm_ (a' := ?_) ?_ ?_
    rotate_left
    ·show Act.put _ (some 37) _ = _
     simp only [Act.put, sA_, sB_, sC_, i64_w, i32_w]; rfl
    refine one_ (i := 7) (N := some 38) (tb_ 255 10) rfl rfl (one_of HT_.out (by kernel_rfl)) (by decide) (fun K hK => ?_)
    refine Kd.R_append_step (Kd.int .u8) (w0 := w) w.heap.size (by rfl) (.tmp 32) (.tmp 37) 38 53 (.int .u8 0) 1 rfl Try.underlying38 info53 rfl (by decide) (by omega) u198001 x198001_1 (rd l2 (rd t192 x27_1)) [.int .u8 (rd l2 (rd t192 x27_1))] (fun _ => True) (fun _ => False) rfl rfl ?aP (fun _ hk => hk.elim) ?aF ?aO ?aB ?aS ?aL ?_
    (case aP => exact rfl)
    (case aB => exact (aL HB))
    (case aF => exact (fun _ _ => trivial))
    (case aO => exact (aR HO_198001))
    (case aS => exact (below_size (aL HB)))
    (case aL => have := LMc56.out; omega)
    intro v220 w58 ho hb hg hat
    rw [← Ny219.out] at ho; replace HO_25 := zA.mk (Kd.R_over' (aR HO_25) (Kd.R_typed (aR HO_198001)) (by decide) hg)
    replace HO_198000 := zA.mk (Kd.R_over' (aR HO_198000) (Kd.R_typed (aR HO_198001)) (by decide) hg)
    replace BK190 := zA.mk (blk_grown (g := gb190) (o := .cells #[.slice none 0 0, .slice none 0 0] 60 (0, 0)) (aB BK190) hg (Kd.R_ne HO_198001.out BK190.out (by decide)))
    replace BK197 := zA.mk (blk_grown (g := gb197) (o := .cells #[.slice Ao9 t191.length co9, u198001] 60 (0, 0)) (aB BK197) hg (Kd.R_ne HO_198001.out BK197.out (by decide)))
    replace HB := zA.mk (hb); have HO221 := zA.mk (ho); clear HO_198001; clear ho hb hg hat; obtain ⟨Ao59, co59, eo59⟩ := Kd.zQ HO221.out; (first | subst eo59 | (injection eo59 with f1_ f2_ f3_; have f4_ := f1_.symm; have f5_ := f3_.symm; clear f1_ f2_ f3_; subst f4_; subst f5_))
    refine hK.out _ _ ⟨(zE BK197.out 0).trans rfl, (zE BK197.out 1).trans rfl, ((HB.out.cell (World.block_lt_of_cell? w _ hw218_0)).trans hw218_0)⟩ (fun hHeld => ?_)
    clear hK K; refine norm_ (a' := ?_) ?_ ?_
    rotate_left
    ·show Act.put _ (some 38) _ = _
     simp only [Act.put, sA_, sB_, sC_, i64_w, i32_w]; rfl
    refine aP 8 (some 39) (tf_ 9 10) HT_ ?_
    refine last_ (i := 9) (N := none) (tb_ 1023 10) rfl rfl (one_of HT_.out (by kernel_rfl)) (by decide) (fun K hK => ?_)
    have hs60 : w58.cell? ⟨gb197, 1, none⟩ = some (u198001) := (zE BK197.out 1).trans rfl
    have hfs60 := blk_frozen BK197.out 1; have hns60_0 := NB190_197.out; have hms60_0 := NB197_190.out; refine skip_ (w1 := ?_) (by rfl) rfl ?_ ?_
    rotate_left
    ·go_simp
     rfl
    refine hK.out _ _ ?_
    clear hK K; refine done_ (done_of HT_.out (by kernel_rfl)) ?_
    try go_wp2
    go_roundg kj24
    case measure => have := HK1.out; have := HJ24.out; omega
    case rel => exact ⟨(wrap64 (x27_1 + 1)), (y219), (.slice Ao59 y219.length co59), aZ, H', ⟨by have := HK1.out; have := HJ24.out; omega⟩, ⟨by (with_reducible repeat (first | apply Kd.zG | apply Kd.zH | apply Kd.zI)); exact Kd.zS (Kd.zP (p := ⟨gb197, 1, none⟩) (Kd.zT HO_25.out BK197.out (by decide)) (fun _ hk => hk.2) (.slice Ao59 y219.length co59)) (fun _ hk => trivial)⟩, ⟨by (with_reducible repeat (first | apply Kd.zG | apply Kd.zH | apply Kd.zI)); exact Kd.zS (Kd.zP (p := ⟨gb197, 1, none⟩) (Kd.zT HO_198000.out BK197.out (by decide)) (fun _ hk => hk.2) (.slice Ao59 y219.length co59)) (fun _ hk => trivial)⟩, ⟨by (with_reducible repeat (first | apply Kd.zG | apply Kd.zH | apply Kd.zI)); exact Kd.zS (Kd.zP (p := ⟨gb197, 1, none⟩) (Kd.zT HO221.out BK197.out (by decide)) (fun _ hk => hk.2) (.slice Ao59 y219.length co59)) (fun _ hk => trivial)⟩, ⟨by (with_reducible repeat (first | refine zD ?_ _ | refine zC ?_ | refine zB ?_ _)); refine blk_far ?_ NB190_197.out _; (with_reducible repeat (first | refine zD ?_ _ | refine zC ?_ | refine zB ?_ _)); exact BK190.out⟩, ⟨by (with_reducible repeat (first | refine zD ?_ _ | refine zC ?_ | refine zB ?_ _)); refine blk_put (cs := #[.slice Ao9 t191.length co9, u198001]) ?_ 1 _ rfl; (with_reducible repeat (first | refine zD ?_ _ | refine zC ?_ | refine zB ?_ _)); exact BK197.out⟩, ⟨aL HB⟩⟩
   rw [if_pos c36] at H; have c36b0 : ((rd l2 (rd t192 x27_1)) == 0) = true := beq_iff_eq.mpr c36
   have c36b1 : ((rd l2 (rd t192 x27_1)) != 0) = false := bne_eq_false_iff_eq.mpr c36
   clear c36; by_cases c37 : (rd t192 x27_1) < (l3.length : Int)
   rotate_left
   ·rw [if_neg c37] at H
    have c37b0 : decide ((rd t192 x27_1) < (l3.length : Int)) = false := decide_eq_false c37
    clear c37; by_cases c51 : x198001_1.length < 140737488355328
    rotate_left
    ·rw [if_neg c51] at H
     exact absurd H (by simp)
    rw [if_pos c51] at H; have LMc51 := zA.mk c51; clear c51; obtain ⟨y215, hy215⟩ : ∃ y_ : List Int, y_ = (x198001_1 ++ [rd l2 (rd t192 x27_1)]) := ⟨_, rfl⟩; replace H : (items_Make.l0 kj24 l0 l2 l3 t192 (t192.length : Int) (wrap64 (x27_1 + 1)) t191 y215) = some (r1, r2) := by first | (rw [hy215]; with_reducible exact H) | (have H2_ := (Option.bind_some _ _).symm.trans H; rw [hy215]; with_reducible exact H2_) | (have H2_ := (Option.bind_some _ _).symm.trans H; with_reducible exact H2_) | with_reducible exact H | (rw [hy215]; exact H) | exact H
    have Ny215 := zA.mk hy215; clear hy215; have H' := zA.mk H
    clear H; have p205 : 0 ≤ ((rd t192 x27_1) : Int) := aD
    have q205 : (rd t192 x27_1) < (l2.length : Int) := aD
    obtain ⟨ad205, e205, hx205_0⟩ := Kd.at_int HR2.out (rd t192 x27_1) p205 q205; cases e205
    replace hx205_0 := (HB.out.cell (World.block_lt_of_cell? w _ hx205_0)).trans hx205_0; replace p205 := eq_true p205; replace q205 := eq_true q205; try go_wp2
    replace HO_25 := zA.mk (Kd.zI HO_25.out); replace HO_198000 := zA.mk (Kd.zI HO_198000.out); replace HO_198001 := zA.mk (Kd.zI HO_198001.out); replace BK190 := zA.mk (zC BK190.out); replace BK197 := zA.mk (zC BK197.out); replace HB := zA.mk (below_drew1 HB.out); have p214 : 0 ≤ ((rd t192 x27_1) : Int) := aD
    have q214 : (rd t192 x27_1) < (l2.length : Int) := aD
    obtain ⟨ad214, e214, hx214_0⟩ := Kd.at_int HR2.out (rd t192 x27_1) p214 q214; have hw214_0 := hx214_0; obtain rfl : ad205 = ad214 := (by injection e214)
    replace hx214_0 := (HB.out.cell (World.block_lt_of_cell? w _ hx214_0)).trans hx214_0; replace p214 := eq_true p214; replace q214 := eq_true q214; refine start_ (n := 10) (S := fun w' => w'.cell? ⟨gb197, 0, none⟩ = some (.slice Ao9 t191.length co9) ∧ w'.cell? ⟨gb197, 1, none⟩ = some (u198001) ∧ w'.cell? (ad205.add ((rd t192 x27_1)).toNat) = some (.int .u8 (rd l2 (rd t192 x27_1)))) (ds := [9]) #[false, false, false, false, false, false, false, false, false, false] (by kernel_rfl) rfl rfl ⟨(zE BK197.out 0).trans rfl, (zE BK197.out 1).trans rfl, ((HB.out.cell (World.block_lt_of_cell? w _ hw214_0)).trans hw214_0)⟩ (fun hHeld => ?_); refine with_tabW items_Make.tab6 items_Make.bits6 (fun HT_ HW_ => ?_)
    generalize wc.drew = w52 at HO_25 HO_198000 HO_198001 BK190 BK197 HB hx214_0 hHeld ⊢
    refine aP 0 (some 31) (tf_ 1 10) HT_ ?_
    refine aP 2 (some 33) (tb_ 5 10) HT_ ?_
    refine aP 3 (some 34) (tb_ 13 10) HT_ ?_
    refine aP 4 (some 35) (tb_ 29 10) HT_ ?_
    refine take_ (i := 1) (N := some 32) (v := ?_) (a' := ?_) (tf_ 5 10) rfl rfl (take_ofW HT_.out HW_.out (by kernel_rfl)) (fun _ _ _ h => h) (Or.inl ⟨by rfl, ?_⟩) hHeld ?_ ?_
    rotate_left
    ·rintro w' ⟨s0, s1, s2⟩
     go_simp
     with_reducible rfl
    rotate_left
    ·simp only [Act.put, sA_, sB_, sC_, i64_w, i32_w]
     rfl
    refine take_ (i := 5) (N := some 36) (v := ?_) (a' := ?_) (tf_ 6 10) rfl rfl (take_ofW HT_.out HW_.out (by kernel_rfl)) (fun _ _ _ h => h) (Or.inl ⟨by rfl, ?_⟩) hHeld ?_ ?_
    rotate_left
    ·rintro w' ⟨s0, s1, s2⟩
     go_simp
     with_reducible rfl
    rotate_left
    ·simp only [Act.put, sA_, sB_, sC_, i64_w, i32_w]
     rfl
    refine one_ (i := 6) (N := some 37) (tb_ 127 10) rfl rfl (one_of HT_.out (by kernel_rfl)) (by decide) (fun K hK => ?_)
    refine value_ (w1 := ?_) (v := ?_) (by rfl) rfl ?_ ?_
    rotate_left 2
    ·go_simp
     constructor
     ·rfl
     rfl
    refine hK.out _ _ ⟨(zE (zB BK197.out _) 0).trans rfl, (zE (zB BK197.out _) 1).trans rfl, (World.cell?_alloc_lt _ _ _ (World.block_lt_of_cell? _ _ (((HB.out.cell (World.block_lt_of_cell? w _ hw214_0)).trans hw214_0)))).trans (((HB.out.cell (World.block_lt_of_cell? w _ hw214_0)).trans hw214_0))⟩ (fun hHeld => ?_)
    clear hK K; refine norm_ (a' := ?_) ?_ ?_
    rotate_left
    ·show Act.put _ (some 37) _ = _
     simp only [Act.put, sA_, sB_, sC_, i64_w, i32_w]; rfl
    refine one_ (i := 7) (N := some 38) (tb_ 255 10) rfl rfl (one_of HT_.out (by kernel_rfl)) (by decide) (fun K hK => ?_)
    refine Kd.R_append_step (Kd.int .u8) (w0 := w) w.heap.size (by rfl) (.tmp 32) (.tmp 37) 38 53 (.int .u8 0) 1 rfl Try.underlying38 info53 rfl (by decide) (by omega) u198001 x198001_1 (rd l2 (rd t192 x27_1)) [.int .u8 (rd l2 (rd t192 x27_1))] (fun _ => True) (fun _ => False) rfl rfl ?aP (fun _ hk => hk.elim) ?aF ?aO ?aB ?aS ?aL ?_
    (case aP => exact rfl)
    (case aB => exact (aL HB))
    (case aF => exact (fun _ _ => trivial))
    (case aO => exact (aR HO_198001))
    (case aS => exact (below_size (aL HB)))
    (case aL => have := LMc51.out; omega)
    intro v216 w53 ho hb hg hat
    rw [← Ny215.out] at ho; replace HO_25 := zA.mk (Kd.R_over' (aR HO_25) (Kd.R_typed (aR HO_198001)) (by decide) hg)
    replace HO_198000 := zA.mk (Kd.R_over' (aR HO_198000) (Kd.R_typed (aR HO_198001)) (by decide) hg)
    replace BK190 := zA.mk (blk_grown (g := gb190) (o := .cells #[.slice none 0 0, .slice none 0 0] 60 (0, 0)) (aB BK190) hg (Kd.R_ne HO_198001.out BK190.out (by decide)))
    replace BK197 := zA.mk (blk_grown (g := gb197) (o := .cells #[.slice Ao9 t191.length co9, u198001] 60 (0, 0)) (aB BK197) hg (Kd.R_ne HO_198001.out BK197.out (by decide)))
    replace HB := zA.mk (hb); have HO217 := zA.mk (ho); clear HO_198001; clear ho hb hg hat; obtain ⟨Ao54, co54, eo54⟩ := Kd.zQ HO217.out; (first | subst eo54 | (injection eo54 with f1_ f2_ f3_; have f4_ := f1_.symm; have f5_ := f3_.symm; clear f1_ f2_ f3_; subst f4_; subst f5_))
    refine hK.out _ _ ⟨(zE BK197.out 0).trans rfl, (zE BK197.out 1).trans rfl, ((HB.out.cell (World.block_lt_of_cell? w _ hw214_0)).trans hw214_0)⟩ (fun hHeld => ?_)
    clear hK K; refine norm_ (a' := ?_) ?_ ?_
    rotate_left
    ·show Act.put _ (some 38) _ = _
     simp only [Act.put, sA_, sB_, sC_, i64_w, i32_w]; rfl
    refine aP 8 (some 39) (tf_ 9 10) HT_ ?_
    refine last_ (i := 9) (N := none) (tb_ 1023 10) rfl rfl (one_of HT_.out (by kernel_rfl)) (by decide) (fun K hK => ?_)
    have hs55 : w53.cell? ⟨gb197, 1, none⟩ = some (u198001) := (zE BK197.out 1).trans rfl
    have hfs55 := blk_frozen BK197.out 1; have hns55_0 := NB190_197.out; have hms55_0 := NB197_190.out; refine skip_ (w1 := ?_) (by rfl) rfl ?_ ?_
    rotate_left
    ·go_simp
     rfl
    refine hK.out _ _ ?_
    clear hK K; refine done_ (done_of HT_.out (by kernel_rfl)) ?_
    try go_wp2
    go_roundg kj24
    case measure => have := HK1.out; have := HJ24.out; omega
    case rel => exact ⟨(wrap64 (x27_1 + 1)), (y215), (.slice Ao54 y215.length co54), aZ, H', ⟨by have := HK1.out; have := HJ24.out; omega⟩, ⟨by (with_reducible repeat (first | apply Kd.zG | apply Kd.zH | apply Kd.zI)); exact Kd.zS (Kd.zP (p := ⟨gb197, 1, none⟩) (Kd.zT HO_25.out BK197.out (by decide)) (fun _ hk => hk.2) (.slice Ao54 y215.length co54)) (fun _ hk => trivial)⟩, ⟨by (with_reducible repeat (first | apply Kd.zG | apply Kd.zH | apply Kd.zI)); exact Kd.zS (Kd.zP (p := ⟨gb197, 1, none⟩) (Kd.zT HO_198000.out BK197.out (by decide)) (fun _ hk => hk.2) (.slice Ao54 y215.length co54)) (fun _ hk => trivial)⟩, ⟨by (with_reducible repeat (first | apply Kd.zG | apply Kd.zH | apply Kd.zI)); exact Kd.zS (Kd.zP (p := ⟨gb197, 1, none⟩) (Kd.zT HO217.out BK197.out (by decide)) (fun _ hk => hk.2) (.slice Ao54 y215.length co54)) (fun _ hk => trivial)⟩, ⟨by (with_reducible repeat (first | refine zD ?_ _ | refine zC ?_ | refine zB ?_ _)); refine blk_far ?_ NB190_197.out _; (with_reducible repeat (first | refine zD ?_ _ | refine zC ?_ | refine zB ?_ _)); exact BK190.out⟩, ⟨by (with_reducible repeat (first | refine zD ?_ _ | refine zC ?_ | refine zB ?_ _)); refine blk_put (cs := #[.slice Ao9 t191.length co9, u198001]) ?_ 1 _ rfl; (with_reducible repeat (first | refine zD ?_ _ | refine zC ?_ | refine zB ?_ _)); exact BK197.out⟩, ⟨aL HB⟩⟩
   rw [if_pos c37] at H; have c37b0 : decide ((rd t192 x27_1) < (l3.length : Int)) = true := decide_eq_true c37
   clear c37; obtain ⟨bq38, hbq38⟩ : ∃ b_ : Bool, b_ = (rdOf false l3 (rd t192 x27_1)) := ⟨_, rfl⟩; replace H : (if bq38 = true then (if x198001_1.length < 140737488355328 then (items_Make.l0 kj24 l0 l2 l3 t192 (t192.length : Int) (wrap64 (x27_1 + 1)) t191 (x198001_1 ++ [3])) else (none)) else (if x198001_1.length < 140737488355328 then (items_Make.l0 kj24 l0 l2 l3 t192 (t192.length : Int) (wrap64 (x27_1 + 1)) t191 (x198001_1 ++ [rd l2 (rd t192 x27_1)])) else (none))) = some (r1, r2) := by rw [← hbq38] at H; exact H
   have Nbq38 := zA.mk hbq38; clear hbq38; by_cases c39 : bq38 = true
   ·subst c39
    have H1 : (if x198001_1.length < 140737488355328 then (items_Make.l0 kj24 l0 l2 l3 t192 (t192.length : Int) (wrap64 (x27_1 + 1)) t191 (x198001_1 ++ [3])) else (none)) = some (r1, r2) := by rw [if_pos rfl] at H; exact H
    clear H; have H := H1; clear H1; by_cases c40 : x198001_1.length < 140737488355328
    rotate_left
    ·rw [if_neg c40] at H
     exact absurd H (by simp)
    rw [if_pos c40] at H; have LMc40 := zA.mk c40; clear c40; obtain ⟨y207, hy207⟩ : ∃ y_ : List Int, y_ = (x198001_1 ++ [3]) := ⟨_, rfl⟩; replace H : (items_Make.l0 kj24 l0 l2 l3 t192 (t192.length : Int) (wrap64 (x27_1 + 1)) t191 y207) = some (r1, r2) := by first | (rw [hy207]; with_reducible exact H) | (have H2_ := (Option.bind_some _ _).symm.trans H; rw [hy207]; with_reducible exact H2_) | (have H2_ := (Option.bind_some _ _).symm.trans H; with_reducible exact H2_) | with_reducible exact H | (rw [hy207]; exact H) | exact H
    have Ny207 := zA.mk hy207; clear hy207; have H' := zA.mk H
    clear H; have p205 : 0 ≤ ((rd t192 x27_1) : Int) := aD
    have q205 : (rd t192 x27_1) < (l2.length : Int) := aD
    obtain ⟨ad205, e205, hx205_0⟩ := Kd.at_int HR2.out (rd t192 x27_1) p205 q205; cases e205
    replace hx205_0 := (HB.out.cell (World.block_lt_of_cell? w _ hx205_0)).trans hx205_0; replace p205 := eq_true p205; replace q205 := eq_true q205; have p206 : 0 ≤ ((rd t192 x27_1) : Int) := aD
    have q206 : (rd t192 x27_1) < (l3.length : Int) := aD
    obtain ⟨ad206, e206, hx206_0⟩ := Kd.at_bool HR3.out (rd t192 x27_1) p206 q206; (try rw [← Nbq38.out] at hx206_0)
    cases e206
    replace hx206_0 := (HB.out.cell (World.block_lt_of_cell? w _ hx206_0)).trans hx206_0; replace p206 := eq_true p206; replace q206 := eq_true q206; have hnb41 := NB197_190.out; have hnc41 := NB190_197.out; obtain ⟨hcz42_0, hcz42_1, hfz42_0, hfz42_1⟩ := aC2 BK197; go_wp2_with (first | ((with_reducible refine gate_builtin (b := .append) (xs := #[.tmp 83, .tmp 84]) rfl ?_); (try (refine gate_guard (by rfl) ?_; dsimp only)); at_builtin; refine Kd.R_append (Kd.int .u8) (w0 := w) w.heap.size rfl (.tmp 83) (.tmp 84) 38 53 (.int .u8 0) 1 rfl Try.underlying38 info53 rfl (by decide) (by omega) u198001 x198001_1 3 [.int .u8 3] (fun _ => True) (fun _ => False) rfl rfl ?aP (fun _ hk => hk.elim) ?aF ?aO ?aB ?aS ?aL ?_; (case aP => exact rfl); (case aB => exact (aL HB)); (case aF => exact (fun _ _ => trivial)); (case aO => exact (aR HO_198001)); (case aS => exact (below_size (aL HB))); (case aL => have := LMc40.out; omega); intro v208 w43 ho hb hg hat; rw [← Ny207.out] at ho; replace HO_25 := zA.mk (Kd.R_over' (aR HO_25) (Kd.R_typed (aR HO_198001)) (by decide) hg); replace HO_198000 := zA.mk (Kd.R_over' (aR HO_198000) (Kd.R_typed (aR HO_198001)) (by decide) hg); replace BK190 := zA.mk (blk_grown (g := gb190) (o := .cells #[.slice none 0 0, .slice none 0 0] 60 (0, 0)) (aB BK190) hg (Kd.R_ne HO_198001.out BK190.out (by decide))); replace BK197 := zA.mk (blk_grown (g := gb197) (o := .cells #[.slice Ao9 t191.length co9, u198001] 60 (0, 0)) (aB BK197) hg (Kd.R_ne HO_198001.out BK197.out (by decide))); replace HB := zA.mk (hb); have HO209 := zA.mk (ho); clear HO_198001; clear ho hb hg hat; obtain ⟨Ao44, co44, eo44⟩ := Kd.zQ HO209.out; subst eo44; obtain ⟨hcz45_0, hcz45_1, hfz45_0, hfz45_1⟩ := aC2 BK197))
    go_roundg kj24
    case measure => have := HK1.out; have := HJ24.out; omega
    case rel => exact ⟨(wrap64 (x27_1 + 1)), (y207), (.slice Ao44 y207.length co44), aZ, H', ⟨by have := HK1.out; have := HJ24.out; omega⟩, ⟨by (with_reducible repeat (first | apply Kd.zG | apply Kd.zH | apply Kd.zI)); exact Kd.zS (Kd.zP (p := ⟨gb197, 1, none⟩) (Kd.zT HO_25.out BK197.out (by decide)) (fun _ hk => hk.2) (.slice Ao44 y207.length co44)) (fun _ hk => trivial)⟩, ⟨by (with_reducible repeat (first | apply Kd.zG | apply Kd.zH | apply Kd.zI)); exact Kd.zS (Kd.zP (p := ⟨gb197, 1, none⟩) (Kd.zT HO_198000.out BK197.out (by decide)) (fun _ hk => hk.2) (.slice Ao44 y207.length co44)) (fun _ hk => trivial)⟩, ⟨by (with_reducible repeat (first | apply Kd.zG | apply Kd.zH | apply Kd.zI)); exact Kd.zS (Kd.zP (p := ⟨gb197, 1, none⟩) (Kd.zT HO209.out BK197.out (by decide)) (fun _ hk => hk.2) (.slice Ao44 y207.length co44)) (fun _ hk => trivial)⟩, ⟨by (with_reducible repeat (first | refine zD ?_ _ | refine zC ?_ | refine zB ?_ _)); refine blk_far ?_ NB190_197.out _; (with_reducible repeat (first | refine zD ?_ _ | refine zC ?_ | refine zB ?_ _)); exact BK190.out⟩, ⟨by (with_reducible repeat (first | refine zD ?_ _ | refine zC ?_ | refine zB ?_ _)); refine blk_put (cs := #[.slice Ao9 t191.length co9, u198001]) ?_ 1 _ rfl; (with_reducible repeat (first | refine zD ?_ _ | refine zC ?_ | refine zB ?_ _)); exact BK197.out⟩, ⟨aL HB⟩⟩
   replace c39 := Bool.eq_false_iff.mpr c39; subst c39; have H1 : (if x198001_1.length < 140737488355328 then (items_Make.l0 kj24 l0 l2 l3 t192 (t192.length : Int) (wrap64 (x27_1 + 1)) t191 (x198001_1 ++ [rd l2 (rd t192 x27_1)])) else (none)) = some (r1, r2) := by rw [if_neg (show ¬ (false = true) by decide)] at H; exact H
   clear H; have H := H1; clear H1; by_cases c46 : x198001_1.length < 140737488355328
   rotate_left
   ·rw [if_neg c46] at H
    exact absurd H (by simp)
   rw [if_pos c46] at H; have LMc46 := zA.mk c46; clear c46; obtain ⟨y211, hy211⟩ : ∃ y_ : List Int, y_ = (x198001_1 ++ [rd l2 (rd t192 x27_1)]) := ⟨_, rfl⟩; replace H : (items_Make.l0 kj24 l0 l2 l3 t192 (t192.length : Int) (wrap64 (x27_1 + 1)) t191 y211) = some (r1, r2) := by first | (rw [hy211]; with_reducible exact H) | (have H2_ := (Option.bind_some _ _).symm.trans H; rw [hy211]; with_reducible exact H2_) | (have H2_ := (Option.bind_some _ _).symm.trans H; with_reducible exact H2_) | with_reducible exact H | (rw [hy211]; exact H) | exact H
   have Ny211 := zA.mk hy211; clear hy211; have H' := zA.mk H
   clear H; have p205 : 0 ≤ ((rd t192 x27_1) : Int) := aD
   have q205 : (rd t192 x27_1) < (l2.length : Int) := aD
   obtain ⟨ad205, e205, hx205_0⟩ := Kd.at_int HR2.out (rd t192 x27_1) p205 q205; cases e205
   replace hx205_0 := (HB.out.cell (World.block_lt_of_cell? w _ hx205_0)).trans hx205_0; replace p205 := eq_true p205; replace q205 := eq_true q205; have p206 : 0 ≤ ((rd t192 x27_1) : Int) := aD
   have q206 : (rd t192 x27_1) < (l3.length : Int) := aD
   obtain ⟨ad206, e206, hx206_0⟩ := Kd.at_bool HR3.out (rd t192 x27_1) p206 q206; (try rw [← Nbq38.out] at hx206_0)
   cases e206
   replace hx206_0 := (HB.out.cell (World.block_lt_of_cell? w _ hx206_0)).trans hx206_0; replace p206 := eq_true p206; replace q206 := eq_true q206; try go_wp2
   replace HO_25 := zA.mk (Kd.zI HO_25.out); replace HO_198000 := zA.mk (Kd.zI HO_198000.out); replace HO_198001 := zA.mk (Kd.zI HO_198001.out); replace BK190 := zA.mk (zC BK190.out); replace BK197 := zA.mk (zC BK197.out); replace HB := zA.mk (below_drew1 HB.out); have p210 : 0 ≤ ((rd t192 x27_1) : Int) := aD
   have q210 : (rd t192 x27_1) < (l2.length : Int) := aD
   obtain ⟨ad210, e210, hx210_0⟩ := Kd.at_int HR2.out (rd t192 x27_1) p210 q210; have hw210_0 := hx210_0; obtain rfl : ad205 = ad210 := (by injection e210)
   replace hx210_0 := (HB.out.cell (World.block_lt_of_cell? w _ hx210_0)).trans hx210_0; replace p210 := eq_true p210; replace q210 := eq_true q210; refine start_ (n := 10) (S := fun w' => w'.cell? ⟨gb197, 0, none⟩ = some (.slice Ao9 t191.length co9) ∧ w'.cell? ⟨gb197, 1, none⟩ = some (u198001) ∧ w'.cell? (ad205.add ((rd t192 x27_1)).toNat) = some (.int .u8 (rd l2 (rd t192 x27_1)))) (ds := [9]) #[false, false, false, false, false, false, false, false, false, false] (by kernel_rfl) rfl rfl ⟨(zE BK197.out 0).trans rfl, (zE BK197.out 1).trans rfl, ((HB.out.cell (World.block_lt_of_cell? w _ hw210_0)).trans hw210_0)⟩ (fun hHeld => ?_); refine with_tabW items_Make.tab6 items_Make.bits6 (fun HT_ HW_ => ?_)
   generalize wc.drew = w47 at HO_25 HO_198000 HO_198001 BK190 BK197 HB hx210_0 hHeld ⊢
   refine aP 0 (some 31) (tf_ 1 10) HT_ ?_
   refine aP 2 (some 33) (tb_ 5 10) HT_ ?_
   refine aP 3 (some 34) (tb_ 13 10) HT_ ?_
   refine aP 4 (some 35) (tb_ 29 10) HT_ ?_
   refine take_ (i := 1) (N := some 32) (v := ?_) (a' := ?_) (tf_ 5 10) rfl rfl (take_ofW HT_.out HW_.out (by kernel_rfl)) (fun _ _ _ h => h) (Or.inl ⟨by rfl, ?_⟩) hHeld ?_ ?_
   rotate_left
   ·rintro w' ⟨s0, s1, s2⟩
    go_simp
    with_reducible rfl
   rotate_left
   ·simp only [Act.put, sA_, sB_, sC_, i64_w, i32_w]
    rfl
   refine take_ (i := 5) (N := some 36) (v := ?_) (a' := ?_) (tf_ 6 10) rfl rfl (take_ofW HT_.out HW_.out (by kernel_rfl)) (fun _ _ _ h => h) (Or.inl ⟨by rfl, ?_⟩) hHeld ?_ ?_
   rotate_left
   ·rintro w' ⟨s0, s1, s2⟩
    go_simp
    with_reducible rfl
   rotate_left
   ·simp only [Act.put, sA_, sB_, sC_, i64_w, i32_w]
    rfl
   refine one_ (i := 6) (N := some 37) (tb_ 127 10) rfl rfl (one_of HT_.out (by kernel_rfl)) (by decide) (fun K hK => ?_)
   refine value_ (w1 := ?_) (v := ?_) (by rfl) rfl ?_ ?_
   rotate_left 2
   ·go_simp
    constructor
    ·rfl
    rfl
   refine hK.out _ _ ⟨(zE (zB BK197.out _) 0).trans rfl, (zE (zB BK197.out _) 1).trans rfl, (World.cell?_alloc_lt _ _ _ (World.block_lt_of_cell? _ _ (((HB.out.cell (World.block_lt_of_cell? w _ hw210_0)).trans hw210_0)))).trans (((HB.out.cell (World.block_lt_of_cell? w _ hw210_0)).trans hw210_0))⟩ (fun hHeld => ?_)
   clear hK K; refine norm_ (a' := ?_) ?_ ?_
   rotate_left
   ·show Act.put _ (some 37) _ = _
    simp only [Act.put, sA_, sB_, sC_, i64_w, i32_w]; rfl
   refine one_ (i := 7) (N := some 38) (tb_ 255 10) rfl rfl (one_of HT_.out (by kernel_rfl)) (by decide) (fun K hK => ?_)
   refine Kd.R_append_step (Kd.int .u8) (w0 := w) w.heap.size (by rfl) (.tmp 32) (.tmp 37) 38 53 (.int .u8 0) 1 rfl Try.underlying38 info53 rfl (by decide) (by omega) u198001 x198001_1 (rd l2 (rd t192 x27_1)) [.int .u8 (rd l2 (rd t192 x27_1))] (fun _ => True) (fun _ => False) rfl rfl ?aP (fun _ hk => hk.elim) ?aF ?aO ?aB ?aS ?aL ?_
   (case aP => exact rfl)
   (case aB => exact (aL HB))
   (case aF => exact (fun _ _ => trivial))
   (case aO => exact (aR HO_198001))
   (case aS => exact (below_size (aL HB)))
   (case aL => have := LMc46.out; omega)
   intro v212 w48 ho hb hg hat
   rw [← Ny211.out] at ho; replace HO_25 := zA.mk (Kd.R_over' (aR HO_25) (Kd.R_typed (aR HO_198001)) (by decide) hg)
   replace HO_198000 := zA.mk (Kd.R_over' (aR HO_198000) (Kd.R_typed (aR HO_198001)) (by decide) hg)
   replace BK190 := zA.mk (blk_grown (g := gb190) (o := .cells #[.slice none 0 0, .slice none 0 0] 60 (0, 0)) (aB BK190) hg (Kd.R_ne HO_198001.out BK190.out (by decide)))
   replace BK197 := zA.mk (blk_grown (g := gb197) (o := .cells #[.slice Ao9 t191.length co9, u198001] 60 (0, 0)) (aB BK197) hg (Kd.R_ne HO_198001.out BK197.out (by decide)))
   replace HB := zA.mk (hb); have HO213 := zA.mk (ho); clear HO_198001; clear ho hb hg hat; obtain ⟨Ao49, co49, eo49⟩ := Kd.zQ HO213.out; (first | subst eo49 | (injection eo49 with f1_ f2_ f3_; have f4_ := f1_.symm; have f5_ := f3_.symm; clear f1_ f2_ f3_; subst f4_; subst f5_))
   refine hK.out _ _ ⟨(zE BK197.out 0).trans rfl, (zE BK197.out 1).trans rfl, ((HB.out.cell (World.block_lt_of_cell? w _ hw210_0)).trans hw210_0)⟩ (fun hHeld => ?_)
   clear hK K; refine norm_ (a' := ?_) ?_ ?_
   rotate_left
   ·show Act.put _ (some 38) _ = _
    simp only [Act.put, sA_, sB_, sC_, i64_w, i32_w]; rfl
   refine aP 8 (some 39) (tf_ 9 10) HT_ ?_
   refine last_ (i := 9) (N := none) (tb_ 1023 10) rfl rfl (one_of HT_.out (by kernel_rfl)) (by decide) (fun K hK => ?_)
   have hs50 : w48.cell? ⟨gb197, 1, none⟩ = some (u198001) := (zE BK197.out 1).trans rfl
   have hfs50 := blk_frozen BK197.out 1; have hns50_0 := NB190_197.out; have hms50_0 := NB197_190.out; refine skip_ (w1 := ?_) (by rfl) rfl ?_ ?_
   rotate_left
   ·go_simp
    rfl
   refine hK.out _ _ ?_
   clear hK K; refine done_ (done_of HT_.out (by kernel_rfl)) ?_
   try go_wp2
   go_roundg kj24
   case measure => have := HK1.out; have := HJ24.out; omega
   case rel => exact ⟨(wrap64 (x27_1 + 1)), (y211), (.slice Ao49 y211.length co49), aZ, H', ⟨by have := HK1.out; have := HJ24.out; omega⟩, ⟨by (with_reducible repeat (first | apply Kd.zG | apply Kd.zH | apply Kd.zI)); exact Kd.zS (Kd.zP (p := ⟨gb197, 1, none⟩) (Kd.zT HO_25.out BK197.out (by decide)) (fun _ hk => hk.2) (.slice Ao49 y211.length co49)) (fun _ hk => trivial)⟩, ⟨by (with_reducible repeat (first | apply Kd.zG | apply Kd.zH | apply Kd.zI)); exact Kd.zS (Kd.zP (p := ⟨gb197, 1, none⟩) (Kd.zT HO_198000.out BK197.out (by decide)) (fun _ hk => hk.2) (.slice Ao49 y211.length co49)) (fun _ hk => trivial)⟩, ⟨by (with_reducible repeat (first | apply Kd.zG | apply Kd.zH | apply Kd.zI)); exact Kd.zS (Kd.zP (p := ⟨gb197, 1, none⟩) (Kd.zT HO213.out BK197.out (by decide)) (fun _ hk => hk.2) (.slice Ao49 y211.length co49)) (fun _ hk => trivial)⟩, ⟨by (with_reducible repeat (first | refine zD ?_ _ | refine zC ?_ | refine zB ?_ _)); refine blk_far ?_ NB190_197.out _; (with_reducible repeat (first | refine zD ?_ _ | refine zC ?_ | refine zB ?_ _)); exact BK190.out⟩, ⟨by (with_reducible repeat (first | refine zD ?_ _ | refine zC ?_ | refine zB ?_ _)); refine blk_put (cs := #[.slice Ao9 t191.length co9, u198001]) ?_ 1 _ rfl; (with_reducible repeat (first | refine zD ?_ _ | refine zC ?_ | refine zB ?_ _)); exact BK197.out⟩, ⟨aL HB⟩⟩
mutual
def items_Check.j0 : Nat → Bool → List (S48) → List Int → Option (Bool)
 | 0, _, _, _ => none
 | k + 1, x36, x223000, x223001 => if x36 = true then (some false) else (items_Check.l0 k 0 x223000 (x223000.length : Int) 0 x223000 x223001)
def items_Check.l0 : Nat → Int → List (S48) → Int → Int → List (S48) → List Int → Option (Bool)
 | 0, _, _, _, _, _, _ => none
 | k + 1, x3, x38, x39, x40, x223000, x223001 => if x40 < x39 then (if 0 ≤ x40 then (if x40 < (x38.length : Int) then (if ((rd_T48 x38 x40).f0) = x3 then (if ((rd_T48 x38 x40).f1) < 1 then (some false) else (if ((rd_T48 x38 x40).f1) > (wrap64 (4096 - x3)) then (some false) else (if ((rd_T48 x38 x40).f2) < 0 then (some false) else (if ((rd_T48 x38 x40).f2) > 2 then (some false) else (if ((rd_T48 x38 x40).f3) > 2 then (some false) else (if x40 < (x223001.length : Int) then (if (rd x223001 x40) > 3 then (some false) else (items_Check.l0 k (wrap64 (x3 + ((rd_T48 x38 x40).f1))) x38 x39 (wrap64 (x40 + 1)) x223000 x223001)) else (none))))))) else (some false)) else (none)) else (none)) else (some true)
end
def items_Check.f (k : Nat) (l0_0 : List (S48)) (l0_1 : List Int) : Option (Bool) := if (l0_1.length : Int) = (wrap64 ((l0_0.length : Int) + 1)) then (if 0 ≤ (l0_0.length : Int) then (if (l0_0.length : Int) < (l0_1.length : Int) then (if (rd l0_1 (l0_0.length : Int)) = 2 then (if (l0_0.length : Int) > 0 then (if 0 < (l0_1.length : Int) then (items_Check.j0 k ((rd l0_1 0) != 0) l0_0 l0_1) else (none)) else (items_Check.j0 k false l0_0 l0_1)) else (items_Check.j0 k true l0_0 l0_1)) else (none)) else (none)) else (items_Check.j0 k true l0_0 l0_1)
theorem items_Check.mono_l : ∀ k, (∀ y0 y1 y2, LeO (items_Check.j0 k y0 y1 y2) (items_Check.j0 (k + 1) y0 y1 y2)) ∧ (∀ y0 y1 y2 y3 y4 y5, LeO (items_Check.l0 k y0 y1 y2 y3 y4 y5) (items_Check.l0 (k + 1) y0 y1 y2 y3 y4 y5))
 | 0 => ⟨fun _ _ _ r h => by simp [items_Check.j0] at h, fun _ _ _ _ _ _ r h => by simp [items_Check.l0] at h⟩
 | k + 1 => by
  obtain ⟨ih0, ih1⟩ := items_Check.mono_l k; refine ⟨?_, ?_⟩
  ·intro y0 y1 y2
   unfold items_Check.j0
   repeat' (with_reducible first | exact ih0 _ _ _ | exact ih1 _ _ _ _ _ _ | exact LeO.refl _ | exact LeO.none _ | refine LeO.ite ?_ ?_ | refine LeO.bind ?_ (fun _ => ?_))
  ·intro y0 y1 y2 y3 y4 y5
   unfold items_Check.l0
   repeat' (with_reducible first | exact ih0 _ _ _ | exact ih1 _ _ _ _ _ _ | exact LeO.refl _ | exact LeO.none _ | refine LeO.ite ?_ ?_ | refine LeO.bind ?_ (fun _ => ?_))
theorem items_Check.mono : ∀ a0 a1 k, LeO (items_Check.f k a0 a1) (items_Check.f (k + 1) a0 a1) := by
 intro a0 a1 k
 obtain ⟨ih0, ih1⟩ := items_Check.mono_l k; unfold items_Check.f
 repeat' (with_reducible first | exact ih0 _ _ _ | exact ih1 _ _ _ _ _ _ | exact LeO.refl _ | exact LeO.none _ | refine LeO.ite ?_ ?_ | refine LeO.bind ?_ (fun _ => ?_))
set_option maxHeartbeats 8000000 in
set_option maxRecDepth 100000 in
theorem items_Check.calls (k : Nat) (A0_0 : Option Addr) (c0_0 : Nat) (l0_0 : List (S48)) (A0_1 : Option Addr) (c0_1 : Nat) (l0_1 : List Int) (r : Bool) (w : World) (hr0_0 : Kd.C k48 w A0_0 l0_0.length l0_0) (hc0_0 : l0_0.length ≤ c0_0) (hr0_1 : Kd.C (Kd.int .u8) w A0_1 l0_1.length l0_1) (hc0_1 : l0_1.length ≤ c0_1) (h : items_Check.f k l0_0 l0_1 = some r) :
  Calls Try.prog 28 #[.agg #[.slice A0_0 l0_0.length c0_0, .slice A0_1 l0_1.length c0_1]] w fun e w' => e = .returned (.bool r) ∧ Below w.heap.size w w' := by
 have hu60 := Try.underlying60; have hu48 := Try.underlying48; have HR0_0 := zA.mk hr0_0; have HC0_0 := zA.mk hc0_0; clear hr0_0 hc0_0; have HR0_1 := zA.mk hr0_1; have HC0_1 := zA.mk hc0_1; clear hr0_1 hc0_1; have HB := zA.mk (Below.refl w.heap.size w); have H : (if (l0_1.length : Int) = (wrap64 ((l0_0.length : Int) + 1)) then (if 0 ≤ (l0_0.length : Int) then (if (l0_0.length : Int) < (l0_1.length : Int) then (if (rd l0_1 (l0_0.length : Int)) = 2 then (if (l0_0.length : Int) > 0 then (if 0 < (l0_1.length : Int) then (items_Check.j0 k ((rd l0_1 0) != 0) l0_0 l0_1) else (none)) else (items_Check.j0 k false l0_0 l0_1)) else (items_Check.j0 k true l0_0 l0_1)) else (none)) else (none)) else (items_Check.j0 k true l0_0 l0_1)) = some r := h
 clear h; have HC2 := zA.mk H; clear H; go_enter Try.func28, Try.ntmps28
 go_upto_region 1 with (first | ((with_reducible refine gate_dst (N := 1) rfl ?_); (try (refine gate_guard (by rfl) ?_; dsimp only)); refine box_event ?hg (N := 1) ?hd (cs := #[.slice A0_0 l0_0.length c0_0, .slice A0_1 l0_1.length c0_1]) (t := 60) ?hr ?_; (case hd => rfl); (case hg => rfl); (case hr => first | (go_simp; done) | (go_simp; rfl)); intro gb222 hg w3 hbox hb; have BK222 := zA.mk (hbox); have GW222 := zA.mk ((by rw [hg]; exact (below_size (aL HB)) : w.heap.size ≤ gb222)); replace HB := zA.mk (below_step (aL HB) hb); have GE222 := GW222; clear hb hbox hg))
 (try simp only [Act.put, sA_, sB_, sC_])
 go_cut [36] (fun v36 wc => ∃ (kq : Nat) (x36_1 : Bool), v36 = .bool x36_1 ∧ zA (items_Check.j0 kq x36_1 l0_0 l0_1 = some r) ∧ zA (kq ≤ k) ∧ zA (wc.heap[gb222]? = some (.cells #[(.slice A0_0 l0_0.length c0_0), (.slice A0_1 l0_1.length c0_1)] 60 (0, 0))) ∧ zA (Below w.heap.size w wc))
 case first =>
  have H := HC2.out; clear HC2; by_cases c4 : (l0_1.length : Int) = (wrap64 ((l0_0.length : Int) + 1))
  rotate_left
  ·rw [if_neg c4] at H
   have c4b0 : ((l0_1.length : Int) == (wrap64 ((l0_0.length : Int) + 1))) = false := beq_eq_false_iff_ne.mpr c4
   have c4b1 : ((l0_1.length : Int) != (wrap64 ((l0_0.length : Int) + 1))) = true := bne_iff_ne.mpr c4
   (first | rw [c4b0] | (simp only [i64_w, i32_w]; rw [c4b0]) | skip)
   have H' := zA.mk H
   clear H; obtain ⟨hcz13_0, hcz13_1, hfz13_0, hfz13_1⟩ := aC2 BK222; go_wp2
   go_meet
   case rel => exact ⟨_, (true), aZ, H', ⟨by first | omega | exact Nat.le_refl _⟩, ⟨aB BK222⟩, ⟨aL HB⟩⟩
  rw [if_pos c4] at H; have c4b0 : ((l0_1.length : Int) == (wrap64 ((l0_0.length : Int) + 1))) = true := beq_iff_eq.mpr c4
  have c4b1 : ((l0_1.length : Int) != (wrap64 ((l0_0.length : Int) + 1))) = false := bne_eq_false_iff_eq.mpr c4
  clear c4; (first | rw [c4b0] | (simp only [i64_w, i32_w]; rw [c4b0]) | skip)
  by_cases c5 : 0 ≤ (l0_0.length : Int)
  rotate_left
  ·rw [if_neg c5] at H
   exact absurd H (by simp)
  rw [if_pos c5] at H; have c5b0 : decide (0 ≤ (l0_0.length : Int)) = true := decide_eq_true c5
  have c5b1 : decide (0 ≤ l0_0.length) = true := decide_eq_true (by omega)
  clear c5; by_cases c6 : (l0_0.length : Int) < (l0_1.length : Int)
  rotate_left
  ·rw [if_neg c6] at H
   exact absurd H (by simp)
  rw [if_pos c6] at H; have c6b0 : decide ((l0_0.length : Int) < (l0_1.length : Int)) = true := decide_eq_true c6
  have c6b1 : decide (l0_0.length < l0_1.length) = true := decide_eq_true (Int.ofNat_lt.mp c6)
  clear c6; by_cases c7 : (rd l0_1 (l0_0.length : Int)) = 2
  rotate_left
  ·rw [if_neg c7] at H
   have c7b0 : ((rd l0_1 (l0_0.length : Int)) == 2) = false := beq_eq_false_iff_ne.mpr c7
   have c7b1 : ((rd l0_1 (l0_0.length : Int)) != 2) = true := bne_iff_ne.mpr c7
   have H' := zA.mk H
   clear H; obtain ⟨hcz12_0, hcz12_1, hfz12_0, hfz12_1⟩ := aC2 BK222; have p223 : 0 ≤ ((l0_0.length : Int) : Int) := aD
   have q223 : (l0_0.length : Int) < (l0_1.length : Int) := aD
   obtain ⟨ad223, e223, hx223_0⟩ := Kd.at_int HR0_1.out (l0_0.length : Int) p223 q223; cases e223
   replace hx223_0 := (HB.out.cell (World.block_lt_of_cell? w _ hx223_0)).trans hx223_0; (try simp only [Go.IntWalk.toNatUp] at hx223_0)
   replace p223 := eq_true p223; replace q223 := eq_true q223; go_wp2
   go_meet
   case rel => exact ⟨_, (true), aZ, H', ⟨by first | omega | exact Nat.le_refl _⟩, ⟨aB BK222⟩, ⟨aL HB⟩⟩
  rw [if_pos c7] at H; have c7b0 : ((rd l0_1 (l0_0.length : Int)) == 2) = true := beq_iff_eq.mpr c7
  have c7b1 : ((rd l0_1 (l0_0.length : Int)) != 2) = false := bne_eq_false_iff_eq.mpr c7
  clear c7; by_cases c8 : (l0_0.length : Int) > 0
  rotate_left
  ·rw [if_neg c8] at H
   have c8b0 : decide (0 < (l0_0.length : Int)) = false := decide_eq_false c8
   have c8b1 : decide (0 < l0_0.length) = false := decide_eq_false (by omega)
   clear c8; have H' := zA.mk H
   clear H; obtain ⟨hcz11_0, hcz11_1, hfz11_0, hfz11_1⟩ := aC2 BK222; have p223 : 0 ≤ ((l0_0.length : Int) : Int) := aD
   have q223 : (l0_0.length : Int) < (l0_1.length : Int) := aD
   obtain ⟨ad223, e223, hx223_0⟩ := Kd.at_int HR0_1.out (l0_0.length : Int) p223 q223; cases e223
   replace hx223_0 := (HB.out.cell (World.block_lt_of_cell? w _ hx223_0)).trans hx223_0; (try simp only [Go.IntWalk.toNatUp] at hx223_0)
   replace p223 := eq_true p223; replace q223 := eq_true q223; go_wp2
   go_meet
   case rel => exact ⟨_, (false), aZ, H', ⟨by first | omega | exact Nat.le_refl _⟩, ⟨aB BK222⟩, ⟨aL HB⟩⟩
  rw [if_pos c8] at H; have c8b0 : decide (0 < (l0_0.length : Int)) = true := decide_eq_true c8
  have c8b1 : decide (0 < l0_0.length) = true := decide_eq_true (by omega)
  clear c8; by_cases c9 : 0 < (l0_1.length : Int)
  rotate_left
  ·rw [if_neg c9] at H
   exact absurd H (by simp)
  rw [if_pos c9] at H; have c9b0 : decide (0 < (l0_1.length : Int)) = true := decide_eq_true c9
  have c9b1 : decide (0 < l0_1.length) = true := decide_eq_true (by omega)
  clear c9; have H' := zA.mk H
  clear H; obtain ⟨hcz10_0, hcz10_1, hfz10_0, hfz10_1⟩ := aC2 BK222; have p223 : 0 ≤ ((l0_0.length : Int) : Int) := aD
  have q223 : (l0_0.length : Int) < (l0_1.length : Int) := aD
  obtain ⟨ad223, e223, hx223_0⟩ := Kd.at_int HR0_1.out (l0_0.length : Int) p223 q223; cases e223
  replace hx223_0 := (HB.out.cell (World.block_lt_of_cell? w _ hx223_0)).trans hx223_0; (try simp only [Go.IntWalk.toNatUp] at hx223_0)
  replace p223 := eq_true p223; replace q223 := eq_true q223; have p224 : 0 ≤ (0 : Int) := (by omega)
  have q224 : 0 < (l0_1.length : Int) := aD
  obtain ⟨ad224, e224, hx224_0⟩ := Kd.at_int HR0_1.out 0 p224 q224; obtain rfl : ad223 = ad224 := (by injection e224)
  have qi224 : (0 < l0_1.length) = True := eq_true (by omega)
  (try rw [show ((0 : Int)).toNat = 0 from rfl] at hx224_0)
  (try rw [Addr.add_zero'] at hx224_0)
  replace hx224_0 := (HB.out.cell (World.block_lt_of_cell? w _ hx224_0)).trans hx224_0; replace p224 := eq_true p224; replace q224 := eq_true q224; go_wp2
  go_meet
  case rel => exact ⟨_, (((rd l0_1 0) != 0)), aZ, H', ⟨by first | omega | exact Nat.le_refl _⟩, ⟨aB BK222⟩, ⟨aL HB⟩⟩
 clear HC2; obtain ⟨kq, x36_1, rfl, HA, HJ1, BK222, HB⟩ := hcut; cases kq with
 | zero => exact absurd HA.out (by simp [items_Check.j0])
 | succ kj1 =>
  have H := HA.out; clear HA; simp only [items_Check.j0] at H; by_cases c14 : x36_1 = true
  ·subst c14
   have H1 : (some false) = some r := by rw [if_pos rfl] at H; exact H
   clear H; have H := H1; clear H1; obtain rfl := Option.some.inj H
   go_wp2
   go_ret
   exact ⟨aX, aL HB⟩
  replace c14 := Bool.eq_false_iff.mpr c14; subst c14; have H1 : (items_Check.l0 kj1 0 l0_0 (l0_0.length : Int) 0 l0_0 l0_1) = some r := by rw [if_neg (show ¬ (false = true) by decide)] at H; exact H
  clear H; have H := H1; clear H1; have H' := zA.mk H
  clear H; obtain ⟨hcz15_0, hcz15_1, hfz15_0, hfz15_1⟩ := aC2 BK222; go_wp2
  go_loopg [3, 40] kj1 (fun kq v3 v40 w' => ∃ (x3_2 : Int) (x40_2 : Int), v3 = .int .i64 x3_2 ∧ v40 = .int .i64 x40_2 ∧ zA (items_Check.l0 kq x3_2 l0_0 (l0_0.length : Int) x40_2 l0_0 l0_1 = some r) ∧ zA (kq ≤ kj1) ∧ zA (w'.heap[gb222]? = some (.cells #[(.slice A0_0 l0_0.length c0_0), (.slice A0_1 l0_1.length c0_1)] 60 (0, 0))) ∧ zA (Below w.heap.size w w'))
  case atStart => exact ⟨(0), (0), aZ, aZ, H', ⟨Nat.le_refl _⟩, ⟨aB BK222⟩, ⟨aL HB⟩⟩
  clear H'; obtain ⟨x3_2, x40_2, rfl, rfl, HA, HK2, BK222, HB⟩ := hrel; cases gk with
  | zero => exact absurd HA.out (by simp [items_Check.l0])
  | succ k2 =>
   have H := HA.out; clear HA; simp only [items_Check.l0] at H; by_cases c16 : x40_2 < (l0_0.length : Int)
   rotate_left
   ·rw [if_neg c16] at H
    have c16b0 : decide (x40_2 < (l0_0.length : Int)) = false := decide_eq_false c16
    clear c16; obtain rfl := Option.some.inj H
    go_wp2
    go_ret
    exact ⟨aX, aL HB⟩
   rw [if_pos c16] at H; have c16b0 : decide (x40_2 < (l0_0.length : Int)) = true := decide_eq_true c16
   clear c16; by_cases c17 : 0 ≤ x40_2
   rotate_left
   ·rw [if_neg c17] at H
    exact absurd H (by simp)
   rw [if_pos c17] at H; have c17b0 : decide (0 ≤ x40_2) = true := decide_eq_true c17
   clear c17; by_cases c18 : x40_2 < (l0_0.length : Int)
   rotate_left
   ·rw [if_neg c18] at H
    exact absurd H (by simp)
   rw [if_pos c18] at H; have c18b0 : decide (x40_2 < (l0_0.length : Int)) = true := decide_eq_true c18
   clear c18; by_cases c19 : ((rd_T48 l0_0 x40_2).f0) = x3_2
   rotate_left
   ·rw [if_neg c19] at H
    have c19b0 : (((rd_T48 l0_0 x40_2).f0) == x3_2) = false := beq_eq_false_iff_ne.mpr c19
    have c19b1 : (((rd_T48 l0_0 x40_2).f0) != x3_2) = true := bne_iff_ne.mpr c19
    obtain rfl := Option.some.inj H
    have p225 : 0 ≤ (x40_2 : Int) := aD
    have q225 : x40_2 < (l0_0.length : Int) := aD
    obtain ⟨ad225, e225, hx225_0, hx225_1, hx225_2, hx225_3⟩ := at_T48 HR0_0.out x40_2 p225 q225; cases e225
    replace hx225_0 := (HB.out.cell (World.block_lt_of_cell? w _ hx225_0)).trans hx225_0; replace hx225_1 := (HB.out.cell (World.block_lt_of_cell? w _ hx225_1)).trans hx225_1; replace hx225_2 := (HB.out.cell (World.block_lt_of_cell? w _ hx225_2)).trans hx225_2; replace hx225_3 := (HB.out.cell (World.block_lt_of_cell? w _ hx225_3)).trans hx225_3; replace p225 := eq_true p225; replace q225 := eq_true q225; go_wp2_with (first | ((with_reducible refine gate_dst (N := 5) rfl ?_); (try (refine gate_guard (by rfl) ?_; dsimp only)); refine box_event ?hg (N := 5) ?hd (cs := #[.int .i64 0, .int .i64 0, .int .i64 0, .int .u8 0]) (t := 48) ?hr ?_; (case hd => rfl); (case hg => rfl); (case hr => first | (go_simp; done) | (go_simp; rfl)); intro gb226 hg w64 hbox hb; have BK226 := zA.mk (hbox); have GW226 := zA.mk ((by rw [hg]; exact (below_size (aL HB)) : w.heap.size ≤ gb226)); replace HB := zA.mk (below_step (aL HB) hb); have GE226 := GW226; have NB222_226 := zA.mk ((by rw [hg]; exact Nat.ne_of_lt (blk_lt (aB BK222)) : gb222 ≠ gb226)); have NB226_222 := zA.mk ((by rw [hg]; exact Nat.ne_of_gt (blk_lt (g := gb222) (o := .cells #[.slice (some ad225) l0_0.length c0_0, .slice A0_1 l0_1.length c0_1] 60 (0, 0)) (aB BK222)) : gb226 ≠ gb222)); replace BK222 := zA.mk (zF (aB BK222) hb); clear hb hbox hg; have hnb65 := NB226_222.out; have hnc65 := NB222_226.out; obtain ⟨hcz66_0, hcz66_1, hcz66_2, hcz66_3, hfz66_0, hfz66_1, hfz66_2, hfz66_3⟩ := aC4 BK226) | ((with_reducible refine gate_store (t := 48) (p := 5) rfl ?_); refine store_event (t := 48) (p := 5) (v := ?vo_w67) (w1 := ((((w64.setCell ⟨gb226, 0, none⟩ (.int .i64 ((rd_T48 l0_0 x40_2).f0))).setCell ⟨gb226, 1, none⟩ (.int .i64 ((rd_T48 l0_0 x40_2).f1))).setCell ⟨gb226, 2, none⟩ (.int .i64 ((rd_T48 l0_0 x40_2).f2))).setCell ⟨gb226, 3, none⟩ (.int .u8 ((rd_T48 l0_0 x40_2).f3)))) ?hg ?ho ?hn ?hr ?_; (case ho => rfl); (case hg => rfl); (case hn => rfl); (case hr => first | (go_simp; done) | (go_simp; rfl)); intro w67 hw; have n0_ : zA (w67.heap[gb222]? = some (.cells #[.slice (some ad225) l0_0.length c0_0, .slice A0_1 l0_1.length c0_1] 60 (0, 0))) := ⟨(by rw [hw]; exact (aB BK222))⟩; have n1_ : zA (w67.heap[gb226]? = some (.cells #[.int .i64 ((rd_T48 l0_0 x40_2).f0), .int .i64 ((rd_T48 l0_0 x40_2).f1), .int .i64 ((rd_T48 l0_0 x40_2).f2), .int .u8 ((rd_T48 l0_0 x40_2).f3)] 48 (0, 0))) := ⟨(by rw [hw]; exact (by (with_reducible repeat (first | refine zD ?_ _ | refine zC ?_ | refine zB ?_ _)); refine blk_put (cs := #[.int .i64 ((rd_T48 l0_0 x40_2).f0), .int .i64 ((rd_T48 l0_0 x40_2).f1), .int .i64 ((rd_T48 l0_0 x40_2).f2), .int .u8 0]) ?_ 3 _ rfl; (with_reducible repeat (first | refine zD ?_ _ | refine zC ?_ | refine zB ?_ _)); refine blk_put (cs := #[.int .i64 ((rd_T48 l0_0 x40_2).f0), .int .i64 ((rd_T48 l0_0 x40_2).f1), .int .i64 0, .int .u8 0]) ?_ 2 _ rfl; (with_reducible repeat (first | refine zD ?_ _ | refine zC ?_ | refine zB ?_ _)); refine blk_put (cs := #[.int .i64 ((rd_T48 l0_0 x40_2).f0), .int .i64 0, .int .i64 0, .int .u8 0]) ?_ 1 _ rfl; (with_reducible repeat (first | refine zD ?_ _ | refine zC ?_ | refine zB ?_ _)); refine blk_put (cs := #[.int .i64 0, .int .i64 0, .int .i64 0, .int .u8 0]) ?_ 0 _ rfl; (with_reducible repeat (first | refine zD ?_ _ | refine zC ?_ | refine zB ?_ _)); exact BK226.out))⟩; have n2_ : zA (Below w.heap.size w w67) := ⟨(by rw [hw]; exact (aL HB))⟩; clear hw; clear BK222; clear BK226; clear HB; have BK222 := n0_; have BK226 := n1_; have HB := n2_; clear n0_ n1_ n2_; obtain ⟨hcz68_0, hcz68_1, hcz68_2, hcz68_3, hfz68_0, hfz68_1, hfz68_2, hfz68_3⟩ := aC4 BK226))
    go_ret
    exact ⟨aX, aL HB⟩
   rw [if_pos c19] at H; have c19b0 : (((rd_T48 l0_0 x40_2).f0) == x3_2) = true := beq_iff_eq.mpr c19
   have c19b1 : (((rd_T48 l0_0 x40_2).f0) != x3_2) = false := bne_eq_false_iff_eq.mpr c19
   clear c19; by_cases c20 : ((rd_T48 l0_0 x40_2).f1) < 1
   ·rw [if_pos c20] at H
    have c20b0 : decide (((rd_T48 l0_0 x40_2).f1) < 1) = true := decide_eq_true c20
    clear c20; obtain rfl := Option.some.inj H
    have p225 : 0 ≤ (x40_2 : Int) := aD
    have q225 : x40_2 < (l0_0.length : Int) := aD
    obtain ⟨ad225, e225, hx225_0, hx225_1, hx225_2, hx225_3⟩ := at_T48 HR0_0.out x40_2 p225 q225; cases e225
    replace hx225_0 := (HB.out.cell (World.block_lt_of_cell? w _ hx225_0)).trans hx225_0; replace hx225_1 := (HB.out.cell (World.block_lt_of_cell? w _ hx225_1)).trans hx225_1; replace hx225_2 := (HB.out.cell (World.block_lt_of_cell? w _ hx225_2)).trans hx225_2; replace hx225_3 := (HB.out.cell (World.block_lt_of_cell? w _ hx225_3)).trans hx225_3; replace p225 := eq_true p225; replace q225 := eq_true q225; go_wp2_with (first | ((with_reducible refine gate_dst (N := 5) rfl ?_); (try (refine gate_guard (by rfl) ?_; dsimp only)); refine box_event ?hg (N := 5) ?hd (cs := #[.int .i64 0, .int .i64 0, .int .i64 0, .int .u8 0]) (t := 48) ?hr ?_; (case hd => rfl); (case hg => rfl); (case hr => first | (go_simp; done) | (go_simp; rfl)); intro gb226 hg w21 hbox hb; have BK226 := zA.mk (hbox); have GW226 := zA.mk ((by rw [hg]; exact (below_size (aL HB)) : w.heap.size ≤ gb226)); replace HB := zA.mk (below_step (aL HB) hb); have GE226 := GW226; have NB222_226 := zA.mk ((by rw [hg]; exact Nat.ne_of_lt (blk_lt (aB BK222)) : gb222 ≠ gb226)); have NB226_222 := zA.mk ((by rw [hg]; exact Nat.ne_of_gt (blk_lt (g := gb222) (o := .cells #[.slice (some ad225) l0_0.length c0_0, .slice A0_1 l0_1.length c0_1] 60 (0, 0)) (aB BK222)) : gb226 ≠ gb222)); replace BK222 := zA.mk (zF (aB BK222) hb); clear hb hbox hg; have hnb22 := NB226_222.out; have hnc22 := NB222_226.out; obtain ⟨hcz23_0, hcz23_1, hcz23_2, hcz23_3, hfz23_0, hfz23_1, hfz23_2, hfz23_3⟩ := aC4 BK226) | ((with_reducible refine gate_store (t := 48) (p := 5) rfl ?_); refine store_event (t := 48) (p := 5) (v := ?vo_w24) (w1 := ((((w21.setCell ⟨gb226, 0, none⟩ (.int .i64 ((rd_T48 l0_0 x40_2).f0))).setCell ⟨gb226, 1, none⟩ (.int .i64 ((rd_T48 l0_0 x40_2).f1))).setCell ⟨gb226, 2, none⟩ (.int .i64 ((rd_T48 l0_0 x40_2).f2))).setCell ⟨gb226, 3, none⟩ (.int .u8 ((rd_T48 l0_0 x40_2).f3)))) ?hg ?ho ?hn ?hr ?_; (case ho => rfl); (case hg => rfl); (case hn => rfl); (case hr => first | (go_simp; done) | (go_simp; rfl)); intro w24 hw; have n0_ : zA (w24.heap[gb222]? = some (.cells #[.slice (some ad225) l0_0.length c0_0, .slice A0_1 l0_1.length c0_1] 60 (0, 0))) := ⟨(by rw [hw]; exact (aB BK222))⟩; have n1_ : zA (w24.heap[gb226]? = some (.cells #[.int .i64 ((rd_T48 l0_0 x40_2).f0), .int .i64 ((rd_T48 l0_0 x40_2).f1), .int .i64 ((rd_T48 l0_0 x40_2).f2), .int .u8 ((rd_T48 l0_0 x40_2).f3)] 48 (0, 0))) := ⟨(by rw [hw]; exact (by (with_reducible repeat (first | refine zD ?_ _ | refine zC ?_ | refine zB ?_ _)); refine blk_put (cs := #[.int .i64 ((rd_T48 l0_0 x40_2).f0), .int .i64 ((rd_T48 l0_0 x40_2).f1), .int .i64 ((rd_T48 l0_0 x40_2).f2), .int .u8 0]) ?_ 3 _ rfl; (with_reducible repeat (first | refine zD ?_ _ | refine zC ?_ | refine zB ?_ _)); refine blk_put (cs := #[.int .i64 ((rd_T48 l0_0 x40_2).f0), .int .i64 ((rd_T48 l0_0 x40_2).f1), .int .i64 0, .int .u8 0]) ?_ 2 _ rfl; (with_reducible repeat (first | refine zD ?_ _ | refine zC ?_ | refine zB ?_ _)); refine blk_put (cs := #[.int .i64 ((rd_T48 l0_0 x40_2).f0), .int .i64 0, .int .i64 0, .int .u8 0]) ?_ 1 _ rfl; (with_reducible repeat (first | refine zD ?_ _ | refine zC ?_ | refine zB ?_ _)); refine blk_put (cs := #[.int .i64 0, .int .i64 0, .int .i64 0, .int .u8 0]) ?_ 0 _ rfl; (with_reducible repeat (first | refine zD ?_ _ | refine zC ?_ | refine zB ?_ _)); exact BK226.out))⟩; have n2_ : zA (Below w.heap.size w w24) := ⟨(by rw [hw]; exact (aL HB))⟩; clear hw; clear BK222; clear BK226; clear HB; have BK222 := n0_; have BK226 := n1_; have HB := n2_; clear n0_ n1_ n2_; obtain ⟨hcz25_0, hcz25_1, hcz25_2, hcz25_3, hfz25_0, hfz25_1, hfz25_2, hfz25_3⟩ := aC4 BK226))
    go_ret
    exact ⟨aX, aL HB⟩
   rw [if_neg c20] at H; have c20b0 : decide (((rd_T48 l0_0 x40_2).f1) < 1) = false := decide_eq_false c20
   clear c20; by_cases c26 : ((rd_T48 l0_0 x40_2).f1) > (wrap64 (4096 - x3_2))
   ·rw [if_pos c26] at H
    have c26b0 : decide ((wrap64 (4096 - x3_2)) < ((rd_T48 l0_0 x40_2).f1)) = true := decide_eq_true c26
    clear c26; obtain rfl := Option.some.inj H
    have p225 : 0 ≤ (x40_2 : Int) := aD
    have q225 : x40_2 < (l0_0.length : Int) := aD
    obtain ⟨ad225, e225, hx225_0, hx225_1, hx225_2, hx225_3⟩ := at_T48 HR0_0.out x40_2 p225 q225; cases e225
    replace hx225_0 := (HB.out.cell (World.block_lt_of_cell? w _ hx225_0)).trans hx225_0; replace hx225_1 := (HB.out.cell (World.block_lt_of_cell? w _ hx225_1)).trans hx225_1; replace hx225_2 := (HB.out.cell (World.block_lt_of_cell? w _ hx225_2)).trans hx225_2; replace hx225_3 := (HB.out.cell (World.block_lt_of_cell? w _ hx225_3)).trans hx225_3; replace p225 := eq_true p225; replace q225 := eq_true q225; go_wp2_with (first | ((with_reducible refine gate_dst (N := 5) rfl ?_); (try (refine gate_guard (by rfl) ?_; dsimp only)); refine box_event ?hg (N := 5) ?hd (cs := #[.int .i64 0, .int .i64 0, .int .i64 0, .int .u8 0]) (t := 48) ?hr ?_; (case hd => rfl); (case hg => rfl); (case hr => first | (go_simp; done) | (go_simp; rfl)); intro gb226 hg w27 hbox hb; have BK226 := zA.mk (hbox); have GW226 := zA.mk ((by rw [hg]; exact (below_size (aL HB)) : w.heap.size ≤ gb226)); replace HB := zA.mk (below_step (aL HB) hb); have GE226 := GW226; have NB222_226 := zA.mk ((by rw [hg]; exact Nat.ne_of_lt (blk_lt (aB BK222)) : gb222 ≠ gb226)); have NB226_222 := zA.mk ((by rw [hg]; exact Nat.ne_of_gt (blk_lt (g := gb222) (o := .cells #[.slice (some ad225) l0_0.length c0_0, .slice A0_1 l0_1.length c0_1] 60 (0, 0)) (aB BK222)) : gb226 ≠ gb222)); replace BK222 := zA.mk (zF (aB BK222) hb); clear hb hbox hg; have hnb28 := NB226_222.out; have hnc28 := NB222_226.out; obtain ⟨hcz29_0, hcz29_1, hcz29_2, hcz29_3, hfz29_0, hfz29_1, hfz29_2, hfz29_3⟩ := aC4 BK226) | ((with_reducible refine gate_store (t := 48) (p := 5) rfl ?_); refine store_event (t := 48) (p := 5) (v := ?vo_w30) (w1 := ((((w27.setCell ⟨gb226, 0, none⟩ (.int .i64 ((rd_T48 l0_0 x40_2).f0))).setCell ⟨gb226, 1, none⟩ (.int .i64 ((rd_T48 l0_0 x40_2).f1))).setCell ⟨gb226, 2, none⟩ (.int .i64 ((rd_T48 l0_0 x40_2).f2))).setCell ⟨gb226, 3, none⟩ (.int .u8 ((rd_T48 l0_0 x40_2).f3)))) ?hg ?ho ?hn ?hr ?_; (case ho => rfl); (case hg => rfl); (case hn => rfl); (case hr => first | (go_simp; done) | (go_simp; rfl)); intro w30 hw; have n0_ : zA (w30.heap[gb222]? = some (.cells #[.slice (some ad225) l0_0.length c0_0, .slice A0_1 l0_1.length c0_1] 60 (0, 0))) := ⟨(by rw [hw]; exact (aB BK222))⟩; have n1_ : zA (w30.heap[gb226]? = some (.cells #[.int .i64 ((rd_T48 l0_0 x40_2).f0), .int .i64 ((rd_T48 l0_0 x40_2).f1), .int .i64 ((rd_T48 l0_0 x40_2).f2), .int .u8 ((rd_T48 l0_0 x40_2).f3)] 48 (0, 0))) := ⟨(by rw [hw]; exact (by (with_reducible repeat (first | refine zD ?_ _ | refine zC ?_ | refine zB ?_ _)); refine blk_put (cs := #[.int .i64 ((rd_T48 l0_0 x40_2).f0), .int .i64 ((rd_T48 l0_0 x40_2).f1), .int .i64 ((rd_T48 l0_0 x40_2).f2), .int .u8 0]) ?_ 3 _ rfl; (with_reducible repeat (first | refine zD ?_ _ | refine zC ?_ | refine zB ?_ _)); refine blk_put (cs := #[.int .i64 ((rd_T48 l0_0 x40_2).f0), .int .i64 ((rd_T48 l0_0 x40_2).f1), .int .i64 0, .int .u8 0]) ?_ 2 _ rfl; (with_reducible repeat (first | refine zD ?_ _ | refine zC ?_ | refine zB ?_ _)); refine blk_put (cs := #[.int .i64 ((rd_T48 l0_0 x40_2).f0), .int .i64 0, .int .i64 0, .int .u8 0]) ?_ 1 _ rfl; (with_reducible repeat (first | refine zD ?_ _ | refine zC ?_ | refine zB ?_ _)); refine blk_put (cs := #[.int .i64 0, .int .i64 0, .int .i64 0, .int .u8 0]) ?_ 0 _ rfl; (with_reducible repeat (first | refine zD ?_ _ | refine zC ?_ | refine zB ?_ _)); exact BK226.out))⟩; have n2_ : zA (Below w.heap.size w w30) := ⟨(by rw [hw]; exact (aL HB))⟩; clear hw; clear BK222; clear BK226; clear HB; have BK222 := n0_; have BK226 := n1_; have HB := n2_; clear n0_ n1_ n2_; obtain ⟨hcz31_0, hcz31_1, hcz31_2, hcz31_3, hfz31_0, hfz31_1, hfz31_2, hfz31_3⟩ := aC4 BK226))
    go_ret
    exact ⟨aX, aL HB⟩
   rw [if_neg c26] at H; have c26b0 : decide ((wrap64 (4096 - x3_2)) < ((rd_T48 l0_0 x40_2).f1)) = false := decide_eq_false c26
   clear c26; by_cases c32 : ((rd_T48 l0_0 x40_2).f2) < 0
   ·rw [if_pos c32] at H
    have c32b0 : decide (((rd_T48 l0_0 x40_2).f2) < 0) = true := decide_eq_true c32
    clear c32; obtain rfl := Option.some.inj H
    have p225 : 0 ≤ (x40_2 : Int) := aD
    have q225 : x40_2 < (l0_0.length : Int) := aD
    obtain ⟨ad225, e225, hx225_0, hx225_1, hx225_2, hx225_3⟩ := at_T48 HR0_0.out x40_2 p225 q225; cases e225
    replace hx225_0 := (HB.out.cell (World.block_lt_of_cell? w _ hx225_0)).trans hx225_0; replace hx225_1 := (HB.out.cell (World.block_lt_of_cell? w _ hx225_1)).trans hx225_1; replace hx225_2 := (HB.out.cell (World.block_lt_of_cell? w _ hx225_2)).trans hx225_2; replace hx225_3 := (HB.out.cell (World.block_lt_of_cell? w _ hx225_3)).trans hx225_3; replace p225 := eq_true p225; replace q225 := eq_true q225; go_wp2_with (first | ((with_reducible refine gate_dst (N := 5) rfl ?_); (try (refine gate_guard (by rfl) ?_; dsimp only)); refine box_event ?hg (N := 5) ?hd (cs := #[.int .i64 0, .int .i64 0, .int .i64 0, .int .u8 0]) (t := 48) ?hr ?_; (case hd => rfl); (case hg => rfl); (case hr => first | (go_simp; done) | (go_simp; rfl)); intro gb226 hg w33 hbox hb; have BK226 := zA.mk (hbox); have GW226 := zA.mk ((by rw [hg]; exact (below_size (aL HB)) : w.heap.size ≤ gb226)); replace HB := zA.mk (below_step (aL HB) hb); have GE226 := GW226; have NB222_226 := zA.mk ((by rw [hg]; exact Nat.ne_of_lt (blk_lt (aB BK222)) : gb222 ≠ gb226)); have NB226_222 := zA.mk ((by rw [hg]; exact Nat.ne_of_gt (blk_lt (g := gb222) (o := .cells #[.slice (some ad225) l0_0.length c0_0, .slice A0_1 l0_1.length c0_1] 60 (0, 0)) (aB BK222)) : gb226 ≠ gb222)); replace BK222 := zA.mk (zF (aB BK222) hb); clear hb hbox hg; have hnb34 := NB226_222.out; have hnc34 := NB222_226.out; obtain ⟨hcz35_0, hcz35_1, hcz35_2, hcz35_3, hfz35_0, hfz35_1, hfz35_2, hfz35_3⟩ := aC4 BK226) | ((with_reducible refine gate_store (t := 48) (p := 5) rfl ?_); refine store_event (t := 48) (p := 5) (v := ?vo_w36) (w1 := ((((w33.setCell ⟨gb226, 0, none⟩ (.int .i64 ((rd_T48 l0_0 x40_2).f0))).setCell ⟨gb226, 1, none⟩ (.int .i64 ((rd_T48 l0_0 x40_2).f1))).setCell ⟨gb226, 2, none⟩ (.int .i64 ((rd_T48 l0_0 x40_2).f2))).setCell ⟨gb226, 3, none⟩ (.int .u8 ((rd_T48 l0_0 x40_2).f3)))) ?hg ?ho ?hn ?hr ?_; (case ho => rfl); (case hg => rfl); (case hn => rfl); (case hr => first | (go_simp; done) | (go_simp; rfl)); intro w36 hw; have n0_ : zA (w36.heap[gb222]? = some (.cells #[.slice (some ad225) l0_0.length c0_0, .slice A0_1 l0_1.length c0_1] 60 (0, 0))) := ⟨(by rw [hw]; exact (aB BK222))⟩; have n1_ : zA (w36.heap[gb226]? = some (.cells #[.int .i64 ((rd_T48 l0_0 x40_2).f0), .int .i64 ((rd_T48 l0_0 x40_2).f1), .int .i64 ((rd_T48 l0_0 x40_2).f2), .int .u8 ((rd_T48 l0_0 x40_2).f3)] 48 (0, 0))) := ⟨(by rw [hw]; exact (by (with_reducible repeat (first | refine zD ?_ _ | refine zC ?_ | refine zB ?_ _)); refine blk_put (cs := #[.int .i64 ((rd_T48 l0_0 x40_2).f0), .int .i64 ((rd_T48 l0_0 x40_2).f1), .int .i64 ((rd_T48 l0_0 x40_2).f2), .int .u8 0]) ?_ 3 _ rfl; (with_reducible repeat (first | refine zD ?_ _ | refine zC ?_ | refine zB ?_ _)); refine blk_put (cs := #[.int .i64 ((rd_T48 l0_0 x40_2).f0), .int .i64 ((rd_T48 l0_0 x40_2).f1), .int .i64 0, .int .u8 0]) ?_ 2 _ rfl; (with_reducible repeat (first | refine zD ?_ _ | refine zC ?_ | refine zB ?_ _)); refine blk_put (cs := #[.int .i64 ((rd_T48 l0_0 x40_2).f0), .int .i64 0, .int .i64 0, .int .u8 0]) ?_ 1 _ rfl; (with_reducible repeat (first | refine zD ?_ _ | refine zC ?_ | refine zB ?_ _)); refine blk_put (cs := #[.int .i64 0, .int .i64 0, .int .i64 0, .int .u8 0]) ?_ 0 _ rfl; (with_reducible repeat (first | refine zD ?_ _ | refine zC ?_ | refine zB ?_ _)); exact BK226.out))⟩; have n2_ : zA (Below w.heap.size w w36) := ⟨(by rw [hw]; exact (aL HB))⟩; clear hw; clear BK222; clear BK226; clear HB; have BK222 := n0_; have BK226 := n1_; have HB := n2_; clear n0_ n1_ n2_; obtain ⟨hcz37_0, hcz37_1, hcz37_2, hcz37_3, hfz37_0, hfz37_1, hfz37_2, hfz37_3⟩ := aC4 BK226))
    go_ret
    exact ⟨aX, aL HB⟩
   rw [if_neg c32] at H; have c32b0 : decide (((rd_T48 l0_0 x40_2).f2) < 0) = false := decide_eq_false c32
   clear c32; by_cases c38 : ((rd_T48 l0_0 x40_2).f2) > 2
   ·rw [if_pos c38] at H
    have c38b0 : decide (2 < ((rd_T48 l0_0 x40_2).f2)) = true := decide_eq_true c38
    clear c38; obtain rfl := Option.some.inj H
    have p225 : 0 ≤ (x40_2 : Int) := aD
    have q225 : x40_2 < (l0_0.length : Int) := aD
    obtain ⟨ad225, e225, hx225_0, hx225_1, hx225_2, hx225_3⟩ := at_T48 HR0_0.out x40_2 p225 q225; cases e225
    replace hx225_0 := (HB.out.cell (World.block_lt_of_cell? w _ hx225_0)).trans hx225_0; replace hx225_1 := (HB.out.cell (World.block_lt_of_cell? w _ hx225_1)).trans hx225_1; replace hx225_2 := (HB.out.cell (World.block_lt_of_cell? w _ hx225_2)).trans hx225_2; replace hx225_3 := (HB.out.cell (World.block_lt_of_cell? w _ hx225_3)).trans hx225_3; replace p225 := eq_true p225; replace q225 := eq_true q225; go_wp2_with (first | ((with_reducible refine gate_dst (N := 5) rfl ?_); (try (refine gate_guard (by rfl) ?_; dsimp only)); refine box_event ?hg (N := 5) ?hd (cs := #[.int .i64 0, .int .i64 0, .int .i64 0, .int .u8 0]) (t := 48) ?hr ?_; (case hd => rfl); (case hg => rfl); (case hr => first | (go_simp; done) | (go_simp; rfl)); intro gb226 hg w39 hbox hb; have BK226 := zA.mk (hbox); have GW226 := zA.mk ((by rw [hg]; exact (below_size (aL HB)) : w.heap.size ≤ gb226)); replace HB := zA.mk (below_step (aL HB) hb); have GE226 := GW226; have NB222_226 := zA.mk ((by rw [hg]; exact Nat.ne_of_lt (blk_lt (aB BK222)) : gb222 ≠ gb226)); have NB226_222 := zA.mk ((by rw [hg]; exact Nat.ne_of_gt (blk_lt (g := gb222) (o := .cells #[.slice (some ad225) l0_0.length c0_0, .slice A0_1 l0_1.length c0_1] 60 (0, 0)) (aB BK222)) : gb226 ≠ gb222)); replace BK222 := zA.mk (zF (aB BK222) hb); clear hb hbox hg; have hnb40 := NB226_222.out; have hnc40 := NB222_226.out; obtain ⟨hcz41_0, hcz41_1, hcz41_2, hcz41_3, hfz41_0, hfz41_1, hfz41_2, hfz41_3⟩ := aC4 BK226) | ((with_reducible refine gate_store (t := 48) (p := 5) rfl ?_); refine store_event (t := 48) (p := 5) (v := ?vo_w42) (w1 := ((((w39.setCell ⟨gb226, 0, none⟩ (.int .i64 ((rd_T48 l0_0 x40_2).f0))).setCell ⟨gb226, 1, none⟩ (.int .i64 ((rd_T48 l0_0 x40_2).f1))).setCell ⟨gb226, 2, none⟩ (.int .i64 ((rd_T48 l0_0 x40_2).f2))).setCell ⟨gb226, 3, none⟩ (.int .u8 ((rd_T48 l0_0 x40_2).f3)))) ?hg ?ho ?hn ?hr ?_; (case ho => rfl); (case hg => rfl); (case hn => rfl); (case hr => first | (go_simp; done) | (go_simp; rfl)); intro w42 hw; have n0_ : zA (w42.heap[gb222]? = some (.cells #[.slice (some ad225) l0_0.length c0_0, .slice A0_1 l0_1.length c0_1] 60 (0, 0))) := ⟨(by rw [hw]; exact (aB BK222))⟩; have n1_ : zA (w42.heap[gb226]? = some (.cells #[.int .i64 ((rd_T48 l0_0 x40_2).f0), .int .i64 ((rd_T48 l0_0 x40_2).f1), .int .i64 ((rd_T48 l0_0 x40_2).f2), .int .u8 ((rd_T48 l0_0 x40_2).f3)] 48 (0, 0))) := ⟨(by rw [hw]; exact (by (with_reducible repeat (first | refine zD ?_ _ | refine zC ?_ | refine zB ?_ _)); refine blk_put (cs := #[.int .i64 ((rd_T48 l0_0 x40_2).f0), .int .i64 ((rd_T48 l0_0 x40_2).f1), .int .i64 ((rd_T48 l0_0 x40_2).f2), .int .u8 0]) ?_ 3 _ rfl; (with_reducible repeat (first | refine zD ?_ _ | refine zC ?_ | refine zB ?_ _)); refine blk_put (cs := #[.int .i64 ((rd_T48 l0_0 x40_2).f0), .int .i64 ((rd_T48 l0_0 x40_2).f1), .int .i64 0, .int .u8 0]) ?_ 2 _ rfl; (with_reducible repeat (first | refine zD ?_ _ | refine zC ?_ | refine zB ?_ _)); refine blk_put (cs := #[.int .i64 ((rd_T48 l0_0 x40_2).f0), .int .i64 0, .int .i64 0, .int .u8 0]) ?_ 1 _ rfl; (with_reducible repeat (first | refine zD ?_ _ | refine zC ?_ | refine zB ?_ _)); refine blk_put (cs := #[.int .i64 0, .int .i64 0, .int .i64 0, .int .u8 0]) ?_ 0 _ rfl; (with_reducible repeat (first | refine zD ?_ _ | refine zC ?_ | refine zB ?_ _)); exact BK226.out))⟩; have n2_ : zA (Below w.heap.size w w42) := ⟨(by rw [hw]; exact (aL HB))⟩; clear hw; clear BK222; clear BK226; clear HB; have BK222 := n0_; have BK226 := n1_; have HB := n2_; clear n0_ n1_ n2_; obtain ⟨hcz43_0, hcz43_1, hcz43_2, hcz43_3, hfz43_0, hfz43_1, hfz43_2, hfz43_3⟩ := aC4 BK226))
    go_ret
    exact ⟨aX, aL HB⟩
   rw [if_neg c38] at H; have c38b0 : decide (2 < ((rd_T48 l0_0 x40_2).f2)) = false := decide_eq_false c38
   clear c38; by_cases c44 : ((rd_T48 l0_0 x40_2).f3) > 2
   ·rw [if_pos c44] at H
    have c44b0 : decide (2 < ((rd_T48 l0_0 x40_2).f3)) = true := decide_eq_true c44
    clear c44; obtain rfl := Option.some.inj H
    have p225 : 0 ≤ (x40_2 : Int) := aD
    have q225 : x40_2 < (l0_0.length : Int) := aD
    obtain ⟨ad225, e225, hx225_0, hx225_1, hx225_2, hx225_3⟩ := at_T48 HR0_0.out x40_2 p225 q225; cases e225
    replace hx225_0 := (HB.out.cell (World.block_lt_of_cell? w _ hx225_0)).trans hx225_0; replace hx225_1 := (HB.out.cell (World.block_lt_of_cell? w _ hx225_1)).trans hx225_1; replace hx225_2 := (HB.out.cell (World.block_lt_of_cell? w _ hx225_2)).trans hx225_2; replace hx225_3 := (HB.out.cell (World.block_lt_of_cell? w _ hx225_3)).trans hx225_3; replace p225 := eq_true p225; replace q225 := eq_true q225; go_wp2_with (first | ((with_reducible refine gate_dst (N := 5) rfl ?_); (try (refine gate_guard (by rfl) ?_; dsimp only)); refine box_event ?hg (N := 5) ?hd (cs := #[.int .i64 0, .int .i64 0, .int .i64 0, .int .u8 0]) (t := 48) ?hr ?_; (case hd => rfl); (case hg => rfl); (case hr => first | (go_simp; done) | (go_simp; rfl)); intro gb226 hg w45 hbox hb; have BK226 := zA.mk (hbox); have GW226 := zA.mk ((by rw [hg]; exact (below_size (aL HB)) : w.heap.size ≤ gb226)); replace HB := zA.mk (below_step (aL HB) hb); have GE226 := GW226; have NB222_226 := zA.mk ((by rw [hg]; exact Nat.ne_of_lt (blk_lt (aB BK222)) : gb222 ≠ gb226)); have NB226_222 := zA.mk ((by rw [hg]; exact Nat.ne_of_gt (blk_lt (g := gb222) (o := .cells #[.slice (some ad225) l0_0.length c0_0, .slice A0_1 l0_1.length c0_1] 60 (0, 0)) (aB BK222)) : gb226 ≠ gb222)); replace BK222 := zA.mk (zF (aB BK222) hb); clear hb hbox hg; have hnb46 := NB226_222.out; have hnc46 := NB222_226.out; obtain ⟨hcz47_0, hcz47_1, hcz47_2, hcz47_3, hfz47_0, hfz47_1, hfz47_2, hfz47_3⟩ := aC4 BK226) | ((with_reducible refine gate_store (t := 48) (p := 5) rfl ?_); refine store_event (t := 48) (p := 5) (v := ?vo_w48) (w1 := ((((w45.setCell ⟨gb226, 0, none⟩ (.int .i64 ((rd_T48 l0_0 x40_2).f0))).setCell ⟨gb226, 1, none⟩ (.int .i64 ((rd_T48 l0_0 x40_2).f1))).setCell ⟨gb226, 2, none⟩ (.int .i64 ((rd_T48 l0_0 x40_2).f2))).setCell ⟨gb226, 3, none⟩ (.int .u8 ((rd_T48 l0_0 x40_2).f3)))) ?hg ?ho ?hn ?hr ?_; (case ho => rfl); (case hg => rfl); (case hn => rfl); (case hr => first | (go_simp; done) | (go_simp; rfl)); intro w48 hw; have n0_ : zA (w48.heap[gb222]? = some (.cells #[.slice (some ad225) l0_0.length c0_0, .slice A0_1 l0_1.length c0_1] 60 (0, 0))) := ⟨(by rw [hw]; exact (aB BK222))⟩; have n1_ : zA (w48.heap[gb226]? = some (.cells #[.int .i64 ((rd_T48 l0_0 x40_2).f0), .int .i64 ((rd_T48 l0_0 x40_2).f1), .int .i64 ((rd_T48 l0_0 x40_2).f2), .int .u8 ((rd_T48 l0_0 x40_2).f3)] 48 (0, 0))) := ⟨(by rw [hw]; exact (by (with_reducible repeat (first | refine zD ?_ _ | refine zC ?_ | refine zB ?_ _)); refine blk_put (cs := #[.int .i64 ((rd_T48 l0_0 x40_2).f0), .int .i64 ((rd_T48 l0_0 x40_2).f1), .int .i64 ((rd_T48 l0_0 x40_2).f2), .int .u8 0]) ?_ 3 _ rfl; (with_reducible repeat (first | refine zD ?_ _ | refine zC ?_ | refine zB ?_ _)); refine blk_put (cs := #[.int .i64 ((rd_T48 l0_0 x40_2).f0), .int .i64 ((rd_T48 l0_0 x40_2).f1), .int .i64 0, .int .u8 0]) ?_ 2 _ rfl; (with_reducible repeat (first | refine zD ?_ _ | refine zC ?_ | refine zB ?_ _)); refine blk_put (cs := #[.int .i64 ((rd_T48 l0_0 x40_2).f0), .int .i64 0, .int .i64 0, .int .u8 0]) ?_ 1 _ rfl; (with_reducible repeat (first | refine zD ?_ _ | refine zC ?_ | refine zB ?_ _)); refine blk_put (cs := #[.int .i64 0, .int .i64 0, .int .i64 0, .int .u8 0]) ?_ 0 _ rfl; (with_reducible repeat (first | refine zD ?_ _ | refine zC ?_ | refine zB ?_ _)); exact BK226.out))⟩; have n2_ : zA (Below w.heap.size w w48) := ⟨(by rw [hw]; exact (aL HB))⟩; clear hw; clear BK222; clear BK226; clear HB; have BK222 := n0_; have BK226 := n1_; have HB := n2_; clear n0_ n1_ n2_; obtain ⟨hcz49_0, hcz49_1, hcz49_2, hcz49_3, hfz49_0, hfz49_1, hfz49_2, hfz49_3⟩ := aC4 BK226))
    go_ret
    exact ⟨aX, aL HB⟩
   rw [if_neg c44] at H; have c44b0 : decide (2 < ((rd_T48 l0_0 x40_2).f3)) = false := decide_eq_false c44
   clear c44; by_cases c50 : x40_2 < (l0_1.length : Int)
   rotate_left
   ·rw [if_neg c50] at H
    exact absurd H (by simp)
   rw [if_pos c50] at H; have c50b0 : decide (x40_2 < (l0_1.length : Int)) = true := decide_eq_true c50
   clear c50; by_cases c51 : (rd l0_1 x40_2) > 3
   ·rw [if_pos c51] at H
    have c51b0 : decide (3 < (rd l0_1 x40_2)) = true := decide_eq_true c51
    clear c51; obtain rfl := Option.some.inj H
    have p225 : 0 ≤ (x40_2 : Int) := aD
    have q225 : x40_2 < (l0_0.length : Int) := aD
    obtain ⟨ad225, e225, hx225_0, hx225_1, hx225_2, hx225_3⟩ := at_T48 HR0_0.out x40_2 p225 q225; cases e225
    replace hx225_0 := (HB.out.cell (World.block_lt_of_cell? w _ hx225_0)).trans hx225_0; replace hx225_1 := (HB.out.cell (World.block_lt_of_cell? w _ hx225_1)).trans hx225_1; replace hx225_2 := (HB.out.cell (World.block_lt_of_cell? w _ hx225_2)).trans hx225_2; replace hx225_3 := (HB.out.cell (World.block_lt_of_cell? w _ hx225_3)).trans hx225_3; replace p225 := eq_true p225; replace q225 := eq_true q225; go_wp2_with (first | ((with_reducible refine gate_dst (N := 5) rfl ?_); (try (refine gate_guard (by rfl) ?_; dsimp only)); refine box_event ?hg (N := 5) ?hd (cs := #[.int .i64 0, .int .i64 0, .int .i64 0, .int .u8 0]) (t := 48) ?hr ?_; (case hd => rfl); (case hg => rfl); (case hr => first | (go_simp; done) | (go_simp; rfl)); intro gb226 hg w52 hbox hb; have BK226 := zA.mk (hbox); have GW226 := zA.mk ((by rw [hg]; exact (below_size (aL HB)) : w.heap.size ≤ gb226)); replace HB := zA.mk (below_step (aL HB) hb); have GE226 := GW226; have NB222_226 := zA.mk ((by rw [hg]; exact Nat.ne_of_lt (blk_lt (aB BK222)) : gb222 ≠ gb226)); have NB226_222 := zA.mk ((by rw [hg]; exact Nat.ne_of_gt (blk_lt (g := gb222) (o := .cells #[.slice (some ad225) l0_0.length c0_0, .slice A0_1 l0_1.length c0_1] 60 (0, 0)) (aB BK222)) : gb226 ≠ gb222)); replace BK222 := zA.mk (zF (aB BK222) hb); clear hb hbox hg; have hnb53 := NB226_222.out; have hnc53 := NB222_226.out; obtain ⟨hcz54_0, hcz54_1, hcz54_2, hcz54_3, hfz54_0, hfz54_1, hfz54_2, hfz54_3⟩ := aC4 BK226) | ((with_reducible refine gate_store (t := 48) (p := 5) rfl ?_); refine store_event (t := 48) (p := 5) (v := ?vo_w55) (w1 := ((((w52.setCell ⟨gb226, 0, none⟩ (.int .i64 ((rd_T48 l0_0 x40_2).f0))).setCell ⟨gb226, 1, none⟩ (.int .i64 ((rd_T48 l0_0 x40_2).f1))).setCell ⟨gb226, 2, none⟩ (.int .i64 ((rd_T48 l0_0 x40_2).f2))).setCell ⟨gb226, 3, none⟩ (.int .u8 ((rd_T48 l0_0 x40_2).f3)))) ?hg ?ho ?hn ?hr ?_; (case ho => rfl); (case hg => rfl); (case hn => rfl); (case hr => first | (go_simp; done) | (go_simp; rfl)); intro w55 hw; have n0_ : zA (w55.heap[gb222]? = some (.cells #[.slice (some ad225) l0_0.length c0_0, .slice A0_1 l0_1.length c0_1] 60 (0, 0))) := ⟨(by rw [hw]; exact (aB BK222))⟩; have n1_ : zA (w55.heap[gb226]? = some (.cells #[.int .i64 ((rd_T48 l0_0 x40_2).f0), .int .i64 ((rd_T48 l0_0 x40_2).f1), .int .i64 ((rd_T48 l0_0 x40_2).f2), .int .u8 ((rd_T48 l0_0 x40_2).f3)] 48 (0, 0))) := ⟨(by rw [hw]; exact (by (with_reducible repeat (first | refine zD ?_ _ | refine zC ?_ | refine zB ?_ _)); refine blk_put (cs := #[.int .i64 ((rd_T48 l0_0 x40_2).f0), .int .i64 ((rd_T48 l0_0 x40_2).f1), .int .i64 ((rd_T48 l0_0 x40_2).f2), .int .u8 0]) ?_ 3 _ rfl; (with_reducible repeat (first | refine zD ?_ _ | refine zC ?_ | refine zB ?_ _)); refine blk_put (cs := #[.int .i64 ((rd_T48 l0_0 x40_2).f0), .int .i64 ((rd_T48 l0_0 x40_2).f1), .int .i64 0, .int .u8 0]) ?_ 2 _ rfl; (with_reducible repeat (first | refine zD ?_ _ | refine zC ?_ | refine zB ?_ _)); refine blk_put (cs := #[.int .i64 ((rd_T48 l0_0 x40_2).f0), .int .i64 0, .int .i64 0, .int .u8 0]) ?_ 1 _ rfl; (with_reducible repeat (first | refine zD ?_ _ | refine zC ?_ | refine zB ?_ _)); refine blk_put (cs := #[.int .i64 0, .int .i64 0, .int .i64 0, .int .u8 0]) ?_ 0 _ rfl; (with_reducible repeat (first | refine zD ?_ _ | refine zC ?_ | refine zB ?_ _)); exact BK226.out))⟩; have n2_ : zA (Below w.heap.size w w55) := ⟨(by rw [hw]; exact (aL HB))⟩; clear hw; clear BK222; clear BK226; clear HB; have BK222 := n0_; have BK226 := n1_; have HB := n2_; clear n0_ n1_ n2_; obtain ⟨hcz56_0, hcz56_1, hcz56_2, hcz56_3, hfz56_0, hfz56_1, hfz56_2, hfz56_3⟩ := aC4 BK226; obtain ⟨hcz57_0, hcz57_1, hfz57_0, hfz57_1⟩ := aC2 BK222; have p227 : 0 ≤ (x40_2 : Int) := aD; have q227 : x40_2 < (l0_1.length : Int) := aD; obtain ⟨ad227, e227, hx227_0⟩ := Kd.at_int HR0_1.out x40_2 p227 q227; cases e227; replace hx227_0 := (HB.out.cell (World.block_lt_of_cell? w _ hx227_0)).trans hx227_0; replace p227 := eq_true p227; replace q227 := eq_true q227))
    go_ret
    exact ⟨aX, aL HB⟩
   rw [if_neg c51] at H; have c51b0 : decide (3 < (rd l0_1 x40_2)) = false := decide_eq_false c51
   clear c51; have H' := zA.mk H
   clear H; have p225 : 0 ≤ (x40_2 : Int) := aD
   have q225 : x40_2 < (l0_0.length : Int) := aD
   obtain ⟨ad225, e225, hx225_0, hx225_1, hx225_2, hx225_3⟩ := at_T48 HR0_0.out x40_2 p225 q225; cases e225
   replace hx225_0 := (HB.out.cell (World.block_lt_of_cell? w _ hx225_0)).trans hx225_0; replace hx225_1 := (HB.out.cell (World.block_lt_of_cell? w _ hx225_1)).trans hx225_1; replace hx225_2 := (HB.out.cell (World.block_lt_of_cell? w _ hx225_2)).trans hx225_2; replace hx225_3 := (HB.out.cell (World.block_lt_of_cell? w _ hx225_3)).trans hx225_3; replace p225 := eq_true p225; replace q225 := eq_true q225; go_wp2_with (first | ((with_reducible refine gate_dst (N := 5) rfl ?_); (try (refine gate_guard (by rfl) ?_; dsimp only)); refine box_event ?hg (N := 5) ?hd (cs := #[.int .i64 0, .int .i64 0, .int .i64 0, .int .u8 0]) (t := 48) ?hr ?_; (case hd => rfl); (case hg => rfl); (case hr => first | (go_simp; done) | (go_simp; rfl)); intro gb226 hg w58 hbox hb; have BK226 := zA.mk (hbox); have GW226 := zA.mk ((by rw [hg]; exact (below_size (aL HB)) : w.heap.size ≤ gb226)); replace HB := zA.mk (below_step (aL HB) hb); have GE226 := GW226; have NB222_226 := zA.mk ((by rw [hg]; exact Nat.ne_of_lt (blk_lt (aB BK222)) : gb222 ≠ gb226)); have NB226_222 := zA.mk ((by rw [hg]; exact Nat.ne_of_gt (blk_lt (g := gb222) (o := .cells #[.slice (some ad225) l0_0.length c0_0, .slice A0_1 l0_1.length c0_1] 60 (0, 0)) (aB BK222)) : gb226 ≠ gb222)); replace BK222 := zA.mk (zF (aB BK222) hb); clear hb hbox hg; have hnb59 := NB226_222.out; have hnc59 := NB222_226.out; obtain ⟨hcz60_0, hcz60_1, hcz60_2, hcz60_3, hfz60_0, hfz60_1, hfz60_2, hfz60_3⟩ := aC4 BK226) | ((with_reducible refine gate_store (t := 48) (p := 5) rfl ?_); refine store_event (t := 48) (p := 5) (v := ?vo_w61) (w1 := ((((w58.setCell ⟨gb226, 0, none⟩ (.int .i64 ((rd_T48 l0_0 x40_2).f0))).setCell ⟨gb226, 1, none⟩ (.int .i64 ((rd_T48 l0_0 x40_2).f1))).setCell ⟨gb226, 2, none⟩ (.int .i64 ((rd_T48 l0_0 x40_2).f2))).setCell ⟨gb226, 3, none⟩ (.int .u8 ((rd_T48 l0_0 x40_2).f3)))) ?hg ?ho ?hn ?hr ?_; (case ho => rfl); (case hg => rfl); (case hn => rfl); (case hr => first | (go_simp; done) | (go_simp; rfl)); intro w61 hw; have n0_ : zA (w61.heap[gb222]? = some (.cells #[.slice (some ad225) l0_0.length c0_0, .slice A0_1 l0_1.length c0_1] 60 (0, 0))) := ⟨(by rw [hw]; exact (aB BK222))⟩; have n1_ : zA (w61.heap[gb226]? = some (.cells #[.int .i64 ((rd_T48 l0_0 x40_2).f0), .int .i64 ((rd_T48 l0_0 x40_2).f1), .int .i64 ((rd_T48 l0_0 x40_2).f2), .int .u8 ((rd_T48 l0_0 x40_2).f3)] 48 (0, 0))) := ⟨(by rw [hw]; exact (by (with_reducible repeat (first | refine zD ?_ _ | refine zC ?_ | refine zB ?_ _)); refine blk_put (cs := #[.int .i64 ((rd_T48 l0_0 x40_2).f0), .int .i64 ((rd_T48 l0_0 x40_2).f1), .int .i64 ((rd_T48 l0_0 x40_2).f2), .int .u8 0]) ?_ 3 _ rfl; (with_reducible repeat (first | refine zD ?_ _ | refine zC ?_ | refine zB ?_ _)); refine blk_put (cs := #[.int .i64 ((rd_T48 l0_0 x40_2).f0), .int .i64 ((rd_T48 l0_0 x40_2).f1), .int .i64 0, .int .u8 0]) ?_ 2 _ rfl; (with_reducible repeat (first | refine zD ?_ _ | refine zC ?_ | refine zB ?_ _)); refine blk_put (cs := #[.int .i64 ((rd_T48 l0_0 x40_2).f0), .int .i64 0, .int .i64 0, .int .u8 0]) ?_ 1 _ rfl; (with_reducible repeat (first | refine zD ?_ _ | refine zC ?_ | refine zB ?_ _)); refine blk_put (cs := #[.int .i64 0, .int .i64 0, .int .i64 0, .int .u8 0]) ?_ 0 _ rfl; (with_reducible repeat (first | refine zD ?_ _ | refine zC ?_ | refine zB ?_ _)); exact BK226.out))⟩; have n2_ : zA (Below w.heap.size w w61) := ⟨(by rw [hw]; exact (aL HB))⟩; clear hw; clear BK222; clear BK226; clear HB; have BK222 := n0_; have BK226 := n1_; have HB := n2_; clear n0_ n1_ n2_; obtain ⟨hcz62_0, hcz62_1, hcz62_2, hcz62_3, hfz62_0, hfz62_1, hfz62_2, hfz62_3⟩ := aC4 BK226; obtain ⟨hcz63_0, hcz63_1, hfz63_0, hfz63_1⟩ := aC2 BK222; have p227 : 0 ≤ (x40_2 : Int) := aD; have q227 : x40_2 < (l0_1.length : Int) := aD; obtain ⟨ad227, e227, hx227_0⟩ := Kd.at_int HR0_1.out x40_2 p227 q227; cases e227; replace hx227_0 := (HB.out.cell (World.block_lt_of_cell? w _ hx227_0)).trans hx227_0; replace p227 := eq_true p227; replace q227 := eq_true q227))
   go_roundg k2
   case measure => have := HJ1.out; have := HK2.out; omega
   case rel => exact ⟨(wrap64 (x3_2 + ((rd_T48 l0_0 x40_2).f1))), (wrap64 (x40_2 + 1)), aZ, aZ, H', ⟨by have := HJ1.out; have := HK2.out; omega⟩, ⟨aB BK222⟩, ⟨aL HB⟩⟩
def items_Parts.l0 : Nat → List Int → List Int → Int → Int → Option (List Int)
 | 0, _, _, _, _ => none
 | k + 1, x3, x7, x8, x9 => if x9 < x8 then (if 0 ≤ x9 then (if x9 < (x7.length : Int) then (if (rd x7 x9) = 2 then (if x3.length < 17592186044416 then (items_Parts.l0 k (x3 ++ [x9]) x7 x8 (wrap64 (x9 + 1))) else (none)) else (items_Parts.l0 k x3 x7 x8 (wrap64 (x9 + 1)))) else (none)) else (none)) else (some x3)
def items_Parts.f (k : Nat) (l0_0 : List (S48)) (l0_1 : List Int) : Option (List Int) := items_Parts.l0 k ([] : List Int) l0_1 (l0_1.length : Int) 0
theorem items_Parts.mono_l : ∀ k, (∀ y0 y1 y2 y3, LeO (items_Parts.l0 k y0 y1 y2 y3) (items_Parts.l0 (k + 1) y0 y1 y2 y3))
 | 0 => fun _ _ _ _ r h => by simp [items_Parts.l0] at h
 | k + 1 => by
  have ih0 := items_Parts.mono_l k
  ·intro y0 y1 y2 y3
   unfold items_Parts.l0
   repeat' (with_reducible first | exact ih0 _ _ _ _ | exact LeO.refl _ | exact LeO.none _ | refine LeO.ite ?_ ?_ | refine LeO.bind ?_ (fun _ => ?_))
theorem items_Parts.mono : ∀ a0 a1 k, LeO (items_Parts.f k a0 a1) (items_Parts.f (k + 1) a0 a1) := by
 intro a0 a1 k
 have ih0 := items_Parts.mono_l k; unfold items_Parts.f
 repeat' (with_reducible first | exact ih0 _ _ _ _ | exact LeO.refl _ | exact LeO.none _ | refine LeO.ite ?_ ?_ | refine LeO.bind ?_ (fun _ => ?_))
set_option maxHeartbeats 8000000 in
set_option maxRecDepth 100000 in
theorem items_Parts.calls (k : Nat) (A0_0 : Option Addr) (c0_0 : Nat) (l0_0 : List (S48)) (A0_1 : Option Addr) (c0_1 : Nat) (l0_1 : List Int) (r : List Int) (w : World) (hr0_0 : Kd.C k48 w A0_0 l0_0.length l0_0) (hc0_0 : l0_0.length ≤ c0_0) (hr0_1 : Kd.C (Kd.int .u8) w A0_1 l0_1.length l0_1) (hc0_1 : l0_1.length ≤ c0_1) (h : items_Parts.f k l0_0 l0_1 = some r) :
  Calls Try.prog 30 #[.agg #[.slice A0_0 l0_0.length c0_0, .slice A0_1 l0_1.length c0_1]] w fun e w' => ∃ v0_ : Value, e = .returned (v0_) ∧ Kd.R (Kd.int .i64) 3 w' w.heap.size (fun _ => True) v0_ r ∧ Below w.heap.size w w' := by
 have hu60 := Try.underlying60; have HR0_0 := zA.mk hr0_0; have HC0_0 := zA.mk hc0_0; clear hr0_0 hc0_0; have HR0_1 := zA.mk hr0_1; have HC0_1 := zA.mk hc0_1; clear hr0_1 hc0_1; have HB := zA.mk (Below.refl w.heap.size w); have H : (items_Parts.l0 k ([] : List Int) l0_1 (l0_1.length : Int) 0) = some r := h
 clear h; have H' := zA.mk H
 clear H; go_enter Try.func30, Try.ntmps30
 go_wp2_with (first | ((with_reducible refine gate_dst (N := 1) rfl ?_); refine box_event ?hg (N := 1) ?hd (cs := #[.slice A0_0 l0_0.length c0_0, .slice A0_1 l0_1.length c0_1]) (t := 60) ?hr ?_; (case hd => rfl); (case hg => rfl); (case hr => first | (go_simp; done) | (go_simp; rfl)); intro gb228 hg w2 hbox hb; have BK228 := zA.mk (hbox); have GW228 := zA.mk ((by rw [hg]; exact (below_size (aL HB)) : w.heap.size ≤ gb228)); replace HB := zA.mk (below_step (aL HB) hb); have GE228 := GW228; clear hb hbox hg; obtain ⟨hcz3_0, hcz3_1, hfz3_0, hfz3_1⟩ := aC2 BK228))
 go_loopg [3, 9] k (fun kq v3 v9 w' => ∃ (x3_1 : List Int) (x9_1 : Int), v9 = .int .i64 x9_1 ∧ zA (items_Parts.l0 kq x3_1 l0_1 (l0_1.length : Int) x9_1 = some r) ∧ zA (kq ≤ k) ∧ zA (Kd.R (Kd.int .i64) 3 w' w.heap.size (fun _ => True) v3 x3_1) ∧ zA (w'.heap[gb228]? = some (.cells #[(.slice A0_0 l0_0.length c0_0), (.slice A0_1 l0_1.length c0_1)] 60 (0, 0))) ∧ zA (Below w.heap.size w w'))
 case atStart => exact ⟨(([] : List Int)), (0), aZ, H', ⟨Nat.le_refl _⟩, ⟨by first | exact Kd.R_nil _ _ _ _ _ | exact Kd.N_nil _ _ _ _ _ | exact Kd.V_nil _ _ _ _ _ | exact Kd.Q_nil _ _ _ _ _ | exact Kd.S_nil _ _ _ _ _⟩, ⟨aB BK228⟩, ⟨aL HB⟩⟩
 clear H'; obtain ⟨x3_1, x9_1, rfl, HA, HK1, HO_3, BK228, HB⟩ := hrel; cases gk with
 | zero => exact absurd HA.out (by simp [items_Parts.l0])
 | succ k1 =>
  have H := HA.out; clear HA; simp only [items_Parts.l0] at H; by_cases c4 : x9_1 < (l0_1.length : Int)
  rotate_left
  ·rw [if_neg c4] at H
   have c4b0 : decide (x9_1 < (l0_1.length : Int)) = false := decide_eq_false c4
   clear c4; obtain rfl := Option.some.inj H
   go_wp2
   go_ret
   exact ⟨_, aX, aR HO_3, aL HB⟩
  rw [if_pos c4] at H; have c4b0 : decide (x9_1 < (l0_1.length : Int)) = true := decide_eq_true c4
  clear c4; by_cases c5 : 0 ≤ x9_1
  rotate_left
  ·rw [if_neg c5] at H
   exact absurd H (by simp)
  rw [if_pos c5] at H; have c5b0 : decide (0 ≤ x9_1) = true := decide_eq_true c5
  clear c5; by_cases c6 : x9_1 < (l0_1.length : Int)
  rotate_left
  ·rw [if_neg c6] at H
   exact absurd H (by simp)
  rw [if_pos c6] at H; have c6b0 : decide (x9_1 < (l0_1.length : Int)) = true := decide_eq_true c6
  clear c6; by_cases c7 : (rd l0_1 x9_1) = 2
  rotate_left
  ·rw [if_neg c7] at H
   have c7b0 : ((rd l0_1 x9_1) == 2) = false := beq_eq_false_iff_ne.mpr c7
   have c7b1 : ((rd l0_1 x9_1) != 2) = true := bne_iff_ne.mpr c7
   have H' := zA.mk H
   clear H; have p229 : 0 ≤ (x9_1 : Int) := aD
   have q229 : x9_1 < (l0_1.length : Int) := aD
   obtain ⟨ad229, e229, hx229_0⟩ := Kd.at_int HR0_1.out x9_1 p229 q229; cases e229
   replace hx229_0 := (HB.out.cell (World.block_lt_of_cell? w _ hx229_0)).trans hx229_0; replace p229 := eq_true p229; replace q229 := eq_true q229; go_wp2
   go_roundg k1
   case measure => have := HK1.out; omega
   case rel => exact ⟨(x3_1), (wrap64 (x9_1 + 1)), aZ, H', ⟨by have := HK1.out; omega⟩, ⟨aR HO_3⟩, ⟨aB BK228⟩, ⟨aL HB⟩⟩
  rw [if_pos c7] at H; have c7b0 : ((rd l0_1 x9_1) == 2) = true := beq_iff_eq.mpr c7
  have c7b1 : ((rd l0_1 x9_1) != 2) = false := bne_eq_false_iff_eq.mpr c7
  clear c7; by_cases c8 : x3_1.length < 17592186044416
  rotate_left
  ·rw [if_neg c8] at H
   exact absurd H (by simp)
  rw [if_pos c8] at H; have LMc8 := zA.mk c8; clear c8; obtain ⟨y230, hy230⟩ : ∃ y_ : List Int, y_ = (x3_1 ++ [x9_1]) := ⟨_, rfl⟩; replace H : (items_Parts.l0 k1 y230 l0_1 (l0_1.length : Int) (wrap64 (x9_1 + 1))) = some r := by first | (rw [hy230]; with_reducible exact H) | (have H2_ := (Option.bind_some _ _).symm.trans H; rw [hy230]; with_reducible exact H2_) | (have H2_ := (Option.bind_some _ _).symm.trans H; with_reducible exact H2_) | with_reducible exact H | (rw [hy230]; exact H) | exact H
  have Ny230 := zA.mk hy230; clear hy230; have H' := zA.mk H
  clear H; have p229 : 0 ≤ (x9_1 : Int) := aD
  have q229 : x9_1 < (l0_1.length : Int) := aD
  obtain ⟨ad229, e229, hx229_0⟩ := Kd.at_int HR0_1.out x9_1 p229 q229; cases e229
  replace hx229_0 := (HB.out.cell (World.block_lt_of_cell? w _ hx229_0)).trans hx229_0; replace p229 := eq_true p229; replace q229 := eq_true q229; go_wp2_with (first | ((with_reducible refine gate_builtin (b := .append) (xs := #[.tmp 16, .tmp 18]) rfl ?_); at_builtin; refine Kd.R_append (Kd.int .i64) (w0 := w) w.heap.size rfl (.tmp 16) (.tmp 18) 35 3 (.int .i64 0) 8 rfl Try.underlying35 info3 rfl (by decide) (by omega) u3 x3_1 x9_1 [.int .i64 x9_1] (fun _ => True) (fun _ => False) rfl rfl ?aP (fun _ hk => hk.elim) ?aF ?aO ?aB ?aS ?aL ?_; (case aP => exact rfl); (case aB => exact (aL HB)); (case aF => exact (fun _ _ => trivial)); (case aO => exact (aR HO_3)); (case aS => exact (below_size (aL HB))); (case aL => have := LMc8.out; omega); intro v231 w9 ho hb hg hat; rw [← Ny230.out] at ho; replace BK228 := zA.mk (blk_grown (g := gb228) (o := .cells #[.slice A0_0 l0_0.length c0_0, .slice (some ad229) l0_1.length c0_1] 60 (0, 0)) (aB BK228) hg (Kd.R_ne HO_3.out BK228.out (by decide))); replace HB := zA.mk (hb); have HO232 := zA.mk (ho); clear HO_3; clear ho hb hg hat))
  go_roundg k1
  case measure => have := HK1.out; omega
  case rel => exact ⟨(y230), (wrap64 (x9_1 + 1)), aZ, H', ⟨by have := HK1.out; omega⟩, ⟨aR HO232⟩, ⟨aB BK228⟩, ⟨aL HB⟩⟩
end Go.Proofs.Ytigajcipjklknaa.F
end
