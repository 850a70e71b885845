/- Printed by a program: Lean functions that answer as the Go functions do, and the proofs of it. -/
import Derived.Test.YtigajcipjklknaaXItemsChecks0
import Derived.Test.YtigajcipjklknaaVItemsChecks0
section
namespace Go.Proofs.Ytigajcipjklknaa.F
open Go.RowKit Go.Proofs.YtigajcipjklknaaW.PrintWords Go.Proofs.YtigajcipjklknaaW.PrintLast Go.Proofs.YtigajcipjklknaaW.PrintMore
attribute [local go_sem] max2_int min2_int max_two min_two max_three min_three max_four min_four   -- for this text's walks alone
set_option linter.unusedVariables false
set_option linter.unusedSimpArgs false
mutual
def cells_Make.l0 : Nat → List (S50) → List Int → Option (List (Int × Int × Int)) → List (S48) → List Int → List (S50) → Int → Int → Option ((List (S48)) × List Int)
 | 0, _, _, _, _, _, _, _, _ => none
 | k + 1, x0, x1, x2, x8, x9, x13, x14, x15 => if x15 < x14 then (if 0 ≤ x15 then (if x15 < (x13.length : Int) then (if x15 = 0 then (cells_Make.j1 k x0 x1 x2 x8 x9 x15 x13 x14 x15 true ((rd_T50 x13 x15).f0) ((rd_T50 x13 x15).f1) ((rd_T50 x13 x15).f2)) else (if x15 < (x1.length : Int) then (cells_Make.j1 k x0 x1 x2 x8 x9 x15 x13 x14 x15 ((rd x1 x15) != 0) ((rd_T50 x13 x15).f0) ((rd_T50 x13 x15).f1) ((rd_T50 x13 x15).f2)) else (cells_Make.j1 k x0 x1 x2 x8 x9 x15 x13 x14 x15 false ((rd_T50 x13 x15).f0) ((rd_T50 x13 x15).f1) ((rd_T50 x13 x15).f2)))) else (none)) else (none)) else (if x9.length < 17592186044416 then (some (x8, (x9 ++ [(x0.length : Int)]))) else (none))
def cells_Make.j1 : Nat → List (S50) → List Int → Option (List (Int × Int × Int)) → List (S48) → List Int → Int → List (S50) → Int → Int → Bool → Int → Int → Int → Option ((List (S48)) × List Int)
 | 0, _, _, _, _, _, _, _, _, _, _, _, _, _ => none
 | k + 1, x0, x1, x2, x8, x9, x10, x13, x14, x15, x34, x112000, x112001, x112002 => if x34 = true then ((cells_kind.f x112000).bind fun t113 => (if x8.length < 4398046511104 then ((some (x8 ++ [(⟨x112001, 0, 0, t113⟩ : S48)] : List (S48))).bind fun y114 => (if x9.length < 17592186044416 then ((some (x9 ++ [x10] : List Int)).bind fun y117 => (if 0 ≤ (wrap64 ((y114.length : Int) - 1)) then (if (wrap64 ((y114.length : Int) - 1)) < (y114.length : Int) then (if 0 ≤ (wrap64 ((y117.length : Int) - 1)) then (if (wrap64 ((y117.length : Int) - 1)) < (y117.length : Int) then (if (rd y117 (wrap64 ((y117.length : Int) - 1))) = x10 then ((some (y114.set ((wrap64 ((y114.length : Int) - 1)) : Int).toNat (⟨(rd_T48 y114 (wrap64 ((y114.length : Int) - 1))).f0, wrap64 (((rd_T48 y114 (wrap64 ((y114.length : Int) - 1))).f1) + x112002), (rd_T48 y114 (wrap64 ((y114.length : Int) - 1))).f2, (rd_T48 y114 (wrap64 ((y114.length : Int) - 1))).f3⟩ : S48) : List (S48))).bind fun y123 => ((prop_Table_Of.f x2 x112000).bind fun t125 => (cells_Make.l0 k x0 x1 x2 (y123.set ((wrap64 ((y114.length : Int) - 1)) : Int).toNat (⟨(rd_T48 y123 (wrap64 ((y114.length : Int) - 1))).f0, (rd_T48 y123 (wrap64 ((y114.length : Int) - 1))).f1, mx ((rd_T48 y123 (wrap64 ((y114.length : Int) - 1))).f2) (mn t125 2), (rd_T48 y123 (wrap64 ((y114.length : Int) - 1))).f3⟩ : S48)) y117 x13 x14 (wrap64 (x15 + 1))))) else ((some (y114.set ((wrap64 ((y114.length : Int) - 1)) : Int).toNat (⟨(rd_T48 y114 (wrap64 ((y114.length : Int) - 1))).f0, (rd_T48 y114 (wrap64 ((y114.length : Int) - 1))).f1, (rd_T48 y114 (wrap64 ((y114.length : Int) - 1))).f2, 0⟩ : S48) : List (S48))).bind fun y127 => ((some (y127.set ((wrap64 ((y114.length : Int) - 1)) : Int).toNat (⟨(rd_T48 y127 (wrap64 ((y114.length : Int) - 1))).f0, wrap64 (((rd_T48 y127 (wrap64 ((y114.length : Int) - 1))).f1) + x112002), (rd_T48 y127 (wrap64 ((y114.length : Int) - 1))).f2, (rd_T48 y127 (wrap64 ((y114.length : Int) - 1))).f3⟩ : S48) : List (S48))).bind fun y129 => ((prop_Table_Of.f x2 x112000).bind fun t131 => (cells_Make.l0 k x0 x1 x2 (y129.set ((wrap64 ((y114.length : Int) - 1)) : Int).toNat (⟨(rd_T48 y129 (wrap64 ((y114.length : Int) - 1))).f0, (rd_T48 y129 (wrap64 ((y114.length : Int) - 1))).f1, mx ((rd_T48 y129 (wrap64 ((y114.length : Int) - 1))).f2) (mn t131 2), (rd_T48 y129 (wrap64 ((y114.length : Int) - 1))).f3⟩ : S48)) y117 x13 x14 (wrap64 (x15 + 1))))))) else (none)) else (none)) else (none)) else (none))) else (none))) else (none))) else (if 0 ≤ (wrap64 ((x8.length : Int) - 1)) then (if (wrap64 ((x8.length : Int) - 1)) < (x8.length : Int) then (if 0 ≤ (wrap64 ((x9.length : Int) - 1)) then (if (wrap64 ((x9.length : Int) - 1)) < (x9.length : Int) then (if (rd x9 (wrap64 ((x9.length : Int) - 1))) = x10 then ((some (x8.set ((wrap64 ((x8.length : Int) - 1)) : Int).toNat (⟨(rd_T48 x8 (wrap64 ((x8.length : Int) - 1))).f0, wrap64 (((rd_T48 x8 (wrap64 ((x8.length : Int) - 1))).f1) + x112002), (rd_T48 x8 (wrap64 ((x8.length : Int) - 1))).f2, (rd_T48 x8 (wrap64 ((x8.length : Int) - 1))).f3⟩ : S48) : List (S48))).bind fun y136 => ((prop_Table_Of.f x2 x112000).bind fun t138 => (cells_Make.l0 k x0 x1 x2 (y136.set ((wrap64 ((x8.length : Int) - 1)) : Int).toNat (⟨(rd_T48 y136 (wrap64 ((x8.length : Int) - 1))).f0, (rd_T48 y136 (wrap64 ((x8.length : Int) - 1))).f1, mx ((rd_T48 y136 (wrap64 ((x8.length : Int) - 1))).f2) (mn t138 2), (rd_T48 y136 (wrap64 ((x8.length : Int) - 1))).f3⟩ : S48)) x9 x13 x14 (wrap64 (x15 + 1))))) else ((some (x8.set ((wrap64 ((x8.length : Int) - 1)) : Int).toNat (⟨(rd_T48 x8 (wrap64 ((x8.length : Int) - 1))).f0, (rd_T48 x8 (wrap64 ((x8.length : Int) - 1))).f1, (rd_T48 x8 (wrap64 ((x8.length : Int) - 1))).f2, 0⟩ : S48) : List (S48))).bind fun y140 => ((some (y140.set ((wrap64 ((x8.length : Int) - 1)) : Int).toNat (⟨(rd_T48 y140 (wrap64 ((x8.length : Int) - 1))).f0, wrap64 (((rd_T48 y140 (wrap64 ((x8.length : Int) - 1))).f1) + x112002), (rd_T48 y140 (wrap64 ((x8.length : Int) - 1))).f2, (rd_T48 y140 (wrap64 ((x8.length : Int) - 1))).f3⟩ : S48) : List (S48))).bind fun y142 => ((prop_Table_Of.f x2 x112000).bind fun t144 => (cells_Make.l0 k x0 x1 x2 (y142.set ((wrap64 ((x8.length : Int) - 1)) : Int).toNat (⟨(rd_T48 y142 (wrap64 ((x8.length : Int) - 1))).f0, (rd_T48 y142 (wrap64 ((x8.length : Int) - 1))).f1, mx ((rd_T48 y142 (wrap64 ((x8.length : Int) - 1))).f2) (mn t144 2), (rd_T48 y142 (wrap64 ((x8.length : Int) - 1))).f3⟩ : S48)) x9 x13 x14 (wrap64 (x15 + 1))))))) else (none)) else (none)) else (none)) else (none))
end
def cells_Make.f (k : Nat) (l0 : List (S50)) (l1 : List Int) (a2 : Option (List (Int × Int × Int))) : Option ((List (S48)) × List Int) := cells_Make.l0 k l0 l1 a2 ([] : List (S48)) ([] : List Int) l0 (l0.length : Int) 0
theorem cells_Make.mono_l : ∀ k, (∀ y0 y1 y2 y3 y4 y5 y6 y7, LeO (cells_Make.l0 k y0 y1 y2 y3 y4 y5 y6 y7) (cells_Make.l0 (k + 1) y0 y1 y2 y3 y4 y5 y6 y7)) ∧ (∀ y0 y1 y2 y3 y4 y5 y6 y7 y8 y9 y10 y11 y12, LeO (cells_Make.j1 k y0 y1 y2 y3 y4 y5 y6 y7 y8 y9 y10 y11 y12) (cells_Make.j1 (k + 1) y0 y1 y2 y3 y4 y5 y6 y7 y8 y9 y10 y11 y12))
 | 0 => ⟨fun _ _ _ _ _ _ _ _ r h => by simp [cells_Make.l0] at h, fun _ _ _ _ _ _ _ _ _ _ _ _ _ r h => by simp [cells_Make.j1] at h⟩
 | k + 1 => by
  obtain ⟨ih0, ih1⟩ := cells_Make.mono_l k; refine ⟨?_, ?_⟩
  ·intro y0 y1 y2 y3 y4 y5 y6 y7
   unfold cells_Make.l0
   repeat' (with_reducible first | exact ih0 _ _ _ _ _ _ _ _ | exact ih1 _ _ _ _ _ _ _ _ _ _ _ _ _ | exact LeO.refl _ | exact LeO.none _ | refine LeO.ite ?_ ?_ | refine LeO.bind ?_ (fun _ => ?_))
  ·intro y0 y1 y2 y3 y4 y5 y6 y7 y8 y9 y10 y11 y12
   unfold cells_Make.j1
   repeat' (with_reducible first | exact ih0 _ _ _ _ _ _ _ _ | exact ih1 _ _ _ _ _ _ _ _ _ _ _ _ _ | exact LeO.refl _ | exact LeO.none _ | refine LeO.ite ?_ ?_ | refine LeO.bind ?_ (fun _ => ?_))
theorem cells_Make.mono : ∀ a0 a1 a2 k, LeO (cells_Make.f k a0 a1 a2) (cells_Make.f (k + 1) a0 a1 a2) := by
 intro a0 a1 a2 k
 obtain ⟨ih0, ih1⟩ := cells_Make.mono_l k; unfold cells_Make.f
 repeat' (with_reducible first | exact ih0 _ _ _ _ _ _ _ _ | exact ih1 _ _ _ _ _ _ _ _ _ _ _ _ _ | exact LeO.refl _ | exact LeO.none _ | refine LeO.ite ?_ ?_ | refine LeO.bind ?_ (fun _ => ?_))
def cells_Make.T7 : Bool × List (List Nat × List Nat) := (true, [([], []), ([], []), ([1], [1]), ([], []), ([3], [3]), ([4], [4]), ([2, 5], [2, 5]), ([6], [6]), ([0, 7, 5], [0, 7]), ([8, 8, 0, 1, 2, 3, 4, 5, 6, 7, 8], [0, 8])])
def cells_Make.B7 : List Nat := [0, 0, 2, 0, 8, 24, 62, 126, 255, 511]
theorem cells_Make.tab7 : rtab .any (opsOf Try.f17 7) = cells_Make.T7 := by kernel_rfl
theorem cells_Make.bits7 : waitsOk cells_Make.T7.2 cells_Make.B7 = true := by kernel_rfl
def cells_Make.T12 : Bool × List (List Nat × List Nat) := (true, [([], []), ([0], [0]), ([1], [1]), ([2], [2]), ([], []), ([4], [4]), ([3, 5], [3, 5]), ([0, 0, 1, 2, 3, 4, 5, 6], [0]), ([7, 0, 1, 2, 3, 4, 5, 6], [7]), ([8, 6, 0, 1, 2, 3, 4, 5, 6], [6, 8])])
def cells_Make.B12 : List Nat := [0, 1, 3, 7, 0, 16, 63, 127, 255, 511]
theorem cells_Make.tab12 : rtab .any (opsOf Try.f17 12) = cells_Make.T12 := by kernel_rfl
theorem cells_Make.bits12 : waitsOk cells_Make.T12.2 cells_Make.B12 = true := by kernel_rfl
def cells_Make.T13 : Bool × List (List Nat × List Nat) := (true, [([], []), ([], []), ([1], [1]), ([2], [2]), ([3], [3]), ([], []), ([], []), ([6], [6]), ([5, 7], [5, 7]), ([8], [8]), ([4, 9], [4, 9]), ([0, 0, 1, 2, 3, 4, 5, 6, 7, 8, 9, 10], [0]), ([11, 0, 1, 2, 3, 4, 5, 6, 7, 8, 9, 10], [11]), ([12, 10, 8, 0, 1, 2, 3, 4, 5, 6, 7, 8, 9, 10], [10, 12])])
def cells_Make.B13 : List Nat := [0, 0, 2, 6, 14, 0, 0, 64, 224, 480, 1022, 2047, 4095, 8191]
theorem cells_Make.tab13 : rtab .any (opsOf Try.f17 13) = cells_Make.T13 := by kernel_rfl
theorem cells_Make.bits13 : waitsOk cells_Make.T13.2 cells_Make.B13 = true := by kernel_rfl
set_option maxHeartbeats 8000000 in
set_option maxRecDepth 100000 in
theorem cells_Make.calls (k : Nat) (A0 : Option Addr) (c0 : Nat) (l0 : List (S50)) (A1 : Option Addr) (c1 : Nat) (l1 : List Int) (vt2_ : Value) (a2 : Option (List (Int × Int × Int))) (r1 : List (S48)) (r2 : List Int) (w : World) (hr0 : Kd.C k50 w A0 l0.length l0) (hc0 : l0.length ≤ c0) (hr1 : Kd.C (Kd.int .u8) w A1 l1.length l1) (hc1 : l1.length ≤ c1) (hta2 : TabAt w a2 vt2_) (h : cells_Make.f k l0 l1 a2 = some (r1, r2)) :
  Calls Try.prog 17 #[.slice A0 l0.length c0, .slice A1 l1.length c1, vt2_] w fun e w' => ∃ v0_ v1_ : Value, e = .returned (.tuple #[v0_, v1_]) ∧ Kd.R k48 48 w' w.heap.size (fun _ => True) v0_ r1 ∧ Kd.R (Kd.int .i64) 3 w' w.heap.size (fun _ => True) v1_ r2 ∧ Below w.heap.size w w' := by
 have hu50 := Try.underlying50; have hu48 := Try.underlying48; have HR0 := zA.mk hr0; have HC0 := zA.mk hc0; clear hr0 hc0; have HR1 := zA.mk hr1; have HC1 := zA.mk hc1; clear hr1 hc1; have HTa2 := zA.mk hta2; clear hta2; have HB := zA.mk (Below.refl w.heap.size w); have H : (cells_Make.l0 k l0 l1 a2 ([] : List (S48)) ([] : List Int) l0 (l0.length : Int) 0) = some (r1, r2) := h
 clear h; have H' := zA.mk H
 clear H; go_enter Try.func17, Try.ntmps17
 go_wp2
 go_loopg [8, 9, 15] k (fun kq v8 v9 v15 w' => ∃ (x8_1 : List (S48)) (x9_1 : List Int) (x15_1 : Int), v15 = .int .i64 x15_1 ∧ zA (cells_Make.l0 kq l0 l1 a2 x8_1 x9_1 l0 (l0.length : Int) x15_1 = some (r1, r2)) ∧ zA (kq ≤ k) ∧ zA (Kd.R k48 48 w' w.heap.size (fun _ => True) v8 x8_1) ∧ zA (Kd.R (Kd.int .i64) 3 w' w.heap.size (fun _ => True) v9 x9_1) ∧ zA (Below w.heap.size w w'))
 case atStart => exact ⟨(([] : List (S48))), (([] : List Int)), (0), aZ, H', ⟨Nat.le_refl _⟩, ⟨by first | exact Kd.R_nil _ _ _ _ _ | exact Kd.N_nil _ _ _ _ _ | exact Kd.V_nil _ _ _ _ _ | exact Kd.Q_nil _ _ _ _ _ | exact Kd.S_nil _ _ _ _ _⟩, ⟨by first | exact Kd.R_nil _ _ _ _ _ | exact Kd.N_nil _ _ _ _ _ | exact Kd.V_nil _ _ _ _ _ | exact Kd.Q_nil _ _ _ _ _ | exact Kd.S_nil _ _ _ _ _⟩, ⟨aL HB⟩⟩
 clear H'; obtain ⟨x8_1, x9_1, x15_1, rfl, HA, HK1, HO_8, HO_9, HB⟩ := hrel; cases gk with
 | zero => exact absurd HA.out (by simp [cells_Make.l0])
 | succ k1 =>
  have H := HA.out; clear HA; simp only [cells_Make.l0] at H; by_cases c4 : x15_1 < (l0.length : Int)
  rotate_left
  ·rw [if_neg c4] at H
   have c4b0 : decide (x15_1 < (l0.length : Int)) = false := decide_eq_false c4
   clear c4; by_cases c91 : x9_1.length < 17592186044416
   rotate_left
   ·rw [if_neg c91] at H
    exact absurd H (by simp)
   rw [if_pos c91] at H; have LMc91 := zA.mk c91; clear c91; obtain ⟨y107, hy107⟩ : ∃ y_ : List Int, y_ = (x9_1 ++ [(l0.length : Int)]) := ⟨_, rfl⟩; replace H : (some (x8_1, y107)) = some (r1, r2) := by first | (rw [hy107]; with_reducible exact H) | (have H2_ := (Option.bind_some _ _).symm.trans H; rw [hy107]; with_reducible exact H2_) | (have H2_ := (Option.bind_some _ _).symm.trans H; with_reducible exact H2_) | with_reducible exact H | (rw [hy107]; exact H) | exact H
   have Ny107 := zA.mk hy107; clear hy107; simp only [Option.some.injEq, Prod.mk.injEq] at H; obtain ⟨rfl, rfl⟩ := H; go_wp2_with (first | ((with_reducible refine gate_builtin (b := .append) (xs := #[.tmp 88, .tmp 91]) rfl ?_); (try (refine gate_guard (by rfl) ?_; dsimp only)); at_builtin; refine Kd.R_append (Kd.int .i64) (w0 := w) w.heap.size rfl (.tmp 88) (.tmp 91) 35 3 (.int .i64 0) 8 rfl Try.underlying35 info3 rfl (by decide) (by omega) u9 x9_1 (l0.length : Int) [.int .i64 (l0.length : Int)] (fun _ => True) (fun _ => False) rfl rfl ?aP (fun _ hk => hk.elim) ?aF ?aO ?aB ?aS ?aL ?_; (case aP => exact rfl); (case aB => exact (aL HB)); (case aF => exact (fun _ _ => trivial)); (case aO => exact (aR HO_9)); (case aS => exact (below_size (aL HB))); (case aL => have := LMc91.out; omega); intro v108 w92 ho hb hg hat; rw [← Ny107.out] at ho; replace HO_8 := zA.mk (Kd.R_over' (aR HO_8) (Kd.R_typed (aR HO_9)) (by decide) hg); replace HB := zA.mk (hb); have HO109 := zA.mk (ho); clear HO_9; clear ho hb hg hat))
   go_ret2
   exact ⟨_, _, aX, aR HO_8, aR HO109, aL HB⟩
  rw [if_pos c4] at H; have c4b0 : decide (x15_1 < (l0.length : Int)) = true := decide_eq_true c4
  clear c4; by_cases c5 : 0 ≤ x15_1
  rotate_left
  ·rw [if_neg c5] at H
   exact absurd H (by simp)
  rw [if_pos c5] at H; have c5b0 : decide (0 ≤ x15_1) = true := decide_eq_true c5
  clear c5; by_cases c6 : x15_1 < (l0.length : Int)
  rotate_left
  ·rw [if_neg c6] at H
   exact absurd H (by simp)
  rw [if_pos c6] at H; have c6b0 : decide (x15_1 < (l0.length : Int)) = true := decide_eq_true c6
  clear c6; have HC7 := zA.mk H; clear H; have p110 : 0 ≤ (x15_1 : Int) := aD
  have q110 : x15_1 < (l0.length : Int) := aD
  obtain ⟨ad110, e110, hx110_0, hx110_1, hx110_2⟩ := at_T50 HR0.out x15_1 p110 q110; cases e110
  replace hx110_0 := (HB.out.cell (World.block_lt_of_cell? w _ hx110_0)).trans hx110_0; replace hx110_1 := (HB.out.cell (World.block_lt_of_cell? w _ hx110_1)).trans hx110_1; replace hx110_2 := (HB.out.cell (World.block_lt_of_cell? w _ hx110_2)).trans hx110_2; replace p110 := eq_true p110; replace q110 := eq_true q110; go_upto_region 6 with (first | ((with_reducible refine gate_dst (N := 11) rfl ?_); (try (refine gate_guard (by rfl) ?_; dsimp only)); refine box_event ?hg (N := 11) ?hd (cs := #[.int .i32 0, .int .i64 0, .int .i64 0]) (t := 50) ?hr ?_; (case hd => rfl); (case hg => rfl); (case hr => first | (go_simp; done) | (go_simp; rfl)); intro gb111 hg w8 hbox hb; replace HO_8 := zA.mk (Kd.zN (aR HO_8) hb); replace HO_9 := zA.mk (Kd.zN (aR HO_9) hb); have BK111 := zA.mk (hbox); have GW111 := zA.mk ((by rw [hg]; exact (below_size (aL HB)) : w.heap.size ≤ gb111)); replace HB := zA.mk (below_step (aL HB) hb); have GE111 := GW111; clear hb hbox hg; obtain ⟨hcz9_0, hcz9_1, hcz9_2, hfz9_0, hfz9_1, hfz9_2⟩ := aC3 BK111) | ((with_reducible refine gate_store (t := 50) (p := 11) rfl ?_); refine store_event (t := 50) (p := 11) (v := ?vo_w10) (w1 := (((w8.setCell ⟨gb111, 0, none⟩ (.int .i32 ((rd_T50 l0 x15_1).f0))).setCell ⟨gb111, 1, none⟩ (.int .i64 ((rd_T50 l0 x15_1).f1))).setCell ⟨gb111, 2, none⟩ (.int .i64 ((rd_T50 l0 x15_1).f2)))) ?hg ?ho ?hn ?hr ?_; (case ho => rfl); (case hg => rfl); (case hn => rfl); (case hr => first | (go_simp; done) | (go_simp; rfl)); intro w10 hw; have n0_ : zA (Kd.R k48 48 w10 w.heap.size (fun _ => True) u8 x8_1) := ⟨(by rw [hw]; exact (by (with_reducible repeat (first | apply Kd.zF | apply Kd.zG | apply Kd.zH)); exact Kd.zR (Kd.zO (p := ⟨gb111, 2, none⟩) (Kd.zO (p := ⟨gb111, 1, none⟩) (Kd.zO (p := ⟨gb111, 0, none⟩) (Kd.zS HO_8.out BK111.out (by decide)) (fun _ hk => hk.2) (.int .i32 ((rd_T50 l0 x15_1).f0))) (fun _ hk => hk.2) (.int .i64 ((rd_T50 l0 x15_1).f1))) (fun _ hk => hk.2) (.int .i64 ((rd_T50 l0 x15_1).f2))) (fun _ hk => trivial)))⟩; have n1_ : zA (Kd.R (Kd.int .i64) 3 w10 w.heap.size (fun _ => True) u9 x9_1) := ⟨(by rw [hw]; exact (by (with_reducible repeat (first | apply Kd.zF | apply Kd.zG | apply Kd.zH)); exact Kd.zR (Kd.zO (p := ⟨gb111, 2, none⟩) (Kd.zO (p := ⟨gb111, 1, none⟩) (Kd.zO (p := ⟨gb111, 0, none⟩) (Kd.zS HO_9.out BK111.out (by decide)) (fun _ hk => hk.2) (.int .i32 ((rd_T50 l0 x15_1).f0))) (fun _ hk => hk.2) (.int .i64 ((rd_T50 l0 x15_1).f1))) (fun _ hk => hk.2) (.int .i64 ((rd_T50 l0 x15_1).f2))) (fun _ hk => trivial)))⟩; have n2_ : zA (w10.heap[gb111]? = some (.cells #[.int .i32 ((rd_T50 l0 x15_1).f0), .int .i64 ((rd_T50 l0 x15_1).f1), .int .i64 ((rd_T50 l0 x15_1).f2)] 50 (0, 0))) := ⟨(by rw [hw]; exact (by (with_reducible repeat (first | refine zD ?_ _ | refine zC ?_ | refine zB ?_ _)); refine blk_put (cs := #[.int .i32 ((rd_T50 l0 x15_1).f0), .int .i64 ((rd_T50 l0 x15_1).f1), .int .i64 0]) ?_ 2 _ rfl; (with_reducible repeat (first | refine zD ?_ _ | refine zC ?_ | refine zB ?_ _)); refine blk_put (cs := #[.int .i32 ((rd_T50 l0 x15_1).f0), .int .i64 0, .int .i64 0]) ?_ 1 _ rfl; (with_reducible repeat (first | refine zD ?_ _ | refine zC ?_ | refine zB ?_ _)); refine blk_put (cs := #[.int .i32 0, .int .i64 0, .int .i64 0]) ?_ 0 _ rfl; (with_reducible repeat (first | refine zD ?_ _ | refine zC ?_ | refine zB ?_ _)); exact BK111.out))⟩; have n3_ : zA (Below w.heap.size w w10) := ⟨(by rw [hw]; exact (aL HB))⟩; clear hw; clear HO_8; clear HO_9; clear BK111; clear HB; have HO_8 := n0_; have HO_9 := n1_; have BK111 := n2_; have HB := n3_; clear n0_ n1_ n2_ n3_))
  (try simp only [Act.put, sA_, sB_, sC_])
  go_cut [34] (fun v34 wc => ∃ (kq : Nat) (x34_6 : Bool), v34 = .bool x34_6 ∧ zA (cells_Make.j1 kq l0 l1 a2 x8_1 x9_1 x15_1 l0 (l0.length : Int) x15_1 x34_6 ((rd_T50 l0 x15_1).f0) ((rd_T50 l0 x15_1).f1) ((rd_T50 l0 x15_1).f2) = some (r1, r2)) ∧ zA (kq ≤ k1) ∧ zA (Kd.R k48 48 wc w.heap.size (fun _ => True) u8 x8_1) ∧ zA (Kd.R (Kd.int .i64) 3 wc w.heap.size (fun _ => True) u9 x9_1) ∧ zA (wc.heap[gb111]? = some (.cells #[.int .i32 ((rd_T50 l0 x15_1).f0), .int .i64 ((rd_T50 l0 x15_1).f1), .int .i64 ((rd_T50 l0 x15_1).f2)] 50 (0, 0))) ∧ zA (Below w.heap.size w wc))
  case first =>
   have H := HC7.out; clear HC7; by_cases c11 : x15_1 = 0
   ·rw [if_pos c11] at H
    have c11b0 : (x15_1 == 0) = true := beq_iff_eq.mpr c11
    have c11b1 : (x15_1 != 0) = false := bne_eq_false_iff_eq.mpr c11
    clear c11; (first | rw [c11b0] | (simp only [i64_w, i32_w]; rw [c11b0]) | skip)
    have H' := zA.mk H
    clear H; go_wp2
    go_meet
    case rel => exact ⟨_, (true), aZ, H', ⟨by have := HK1.out; first | omega | exact Nat.le_refl _⟩, ⟨aR HO_8⟩, ⟨aR HO_9⟩, ⟨aB BK111⟩, ⟨aL HB⟩⟩
   rw [if_neg c11] at H; have c11b0 : (x15_1 == 0) = false := beq_eq_false_iff_ne.mpr c11
   have c11b1 : (x15_1 != 0) = true := bne_iff_ne.mpr c11
   (first | rw [c11b0] | (simp only [i64_w, i32_w]; rw [c11b0]) | skip)
   by_cases c12 : x15_1 < (l1.length : Int)
   rotate_left
   ·rw [if_neg c12] at H
    have c12b0 : decide (x15_1 < (l1.length : Int)) = false := decide_eq_false c12
    clear c12; have H' := zA.mk H
    clear H; go_wp2
    go_meet
    case rel => exact ⟨_, (false), aZ, H', ⟨by have := HK1.out; first | omega | exact Nat.le_refl _⟩, ⟨aR HO_8⟩, ⟨aR HO_9⟩, ⟨aB BK111⟩, ⟨aL HB⟩⟩
   rw [if_pos c12] at H; have c12b0 : decide (x15_1 < (l1.length : Int)) = true := decide_eq_true c12
   clear c12; have H' := zA.mk H
   clear H; have p112 : 0 ≤ (x15_1 : Int) := aD
   have q112 : x15_1 < (l1.length : Int) := aD
   obtain ⟨ad112, e112, hx112_0⟩ := Kd.at_int HR1.out x15_1 p112 q112; cases e112
   replace hx112_0 := (HB.out.cell (World.block_lt_of_cell? w _ hx112_0)).trans hx112_0; replace p112 := eq_true p112; replace q112 := eq_true q112; go_wp2
   go_meet
   case rel => exact ⟨_, (((rd l1 x15_1) != 0)), aZ, H', ⟨by have := HK1.out; first | omega | exact Nat.le_refl _⟩, ⟨aR HO_8⟩, ⟨aR HO_9⟩, ⟨aB BK111⟩, ⟨aL HB⟩⟩
  clear HC7; obtain ⟨kq, x34_6, rfl, HA, HJ6, HO_8, HO_9, BK111, HB⟩ := hcut; cases kq with
  | zero => exact absurd HA.out (by simp [cells_Make.j1])
  | succ kj6 =>
   have H := HA.out; clear HA; simp only [cells_Make.j1] at H; by_cases c13 : x34_6 = true
   rotate_left
   ·replace c13 := Bool.eq_false_iff.mpr c13
    subst c13; have H1 : (if 0 ≤ (wrap64 ((x8_1.length : Int) - 1)) then (if (wrap64 ((x8_1.length : Int) - 1)) < (x8_1.length : Int) then (if 0 ≤ (wrap64 ((x9_1.length : Int) - 1)) then (if (wrap64 ((x9_1.length : Int) - 1)) < (x9_1.length : Int) then (if (rd x9_1 (wrap64 ((x9_1.length : Int) - 1))) = x15_1 then ((some (x8_1.set ((wrap64 ((x8_1.length : Int) - 1)) : Int).toNat (⟨(rd_T48 x8_1 (wrap64 ((x8_1.length : Int) - 1))).f0, wrap64 (((rd_T48 x8_1 (wrap64 ((x8_1.length : Int) - 1))).f1) + ((rd_T50 l0 x15_1).f2)), (rd_T48 x8_1 (wrap64 ((x8_1.length : Int) - 1))).f2, (rd_T48 x8_1 (wrap64 ((x8_1.length : Int) - 1))).f3⟩ : S48) : List (S48))).bind fun y136 => ((prop_Table_Of.f a2 ((rd_T50 l0 x15_1).f0)).bind fun t138 => (cells_Make.l0 kj6 l0 l1 a2 (y136.set ((wrap64 ((x8_1.length : Int) - 1)) : Int).toNat (⟨(rd_T48 y136 (wrap64 ((x8_1.length : Int) - 1))).f0, (rd_T48 y136 (wrap64 ((x8_1.length : Int) - 1))).f1, mx ((rd_T48 y136 (wrap64 ((x8_1.length : Int) - 1))).f2) (mn t138 2), (rd_T48 y136 (wrap64 ((x8_1.length : Int) - 1))).f3⟩ : S48)) x9_1 l0 (l0.length : Int) (wrap64 (x15_1 + 1))))) else ((some (x8_1.set ((wrap64 ((x8_1.length : Int) - 1)) : Int).toNat (⟨(rd_T48 x8_1 (wrap64 ((x8_1.length : Int) - 1))).f0, (rd_T48 x8_1 (wrap64 ((x8_1.length : Int) - 1))).f1, (rd_T48 x8_1 (wrap64 ((x8_1.length : Int) - 1))).f2, 0⟩ : S48) : List (S48))).bind fun y140 => ((some (y140.set ((wrap64 ((x8_1.length : Int) - 1)) : Int).toNat (⟨(rd_T48 y140 (wrap64 ((x8_1.length : Int) - 1))).f0, wrap64 (((rd_T48 y140 (wrap64 ((x8_1.length : Int) - 1))).f1) + ((rd_T50 l0 x15_1).f2)), (rd_T48 y140 (wrap64 ((x8_1.length : Int) - 1))).f2, (rd_T48 y140 (wrap64 ((x8_1.length : Int) - 1))).f3⟩ : S48) : List (S48))).bind fun y142 => ((prop_Table_Of.f a2 ((rd_T50 l0 x15_1).f0)).bind fun t144 => (cells_Make.l0 kj6 l0 l1 a2 (y142.set ((wrap64 ((x8_1.length : Int) - 1)) : Int).toNat (⟨(rd_T48 y142 (wrap64 ((x8_1.length : Int) - 1))).f0, (rd_T48 y142 (wrap64 ((x8_1.length : Int) - 1))).f1, mx ((rd_T48 y142 (wrap64 ((x8_1.length : Int) - 1))).f2) (mn t144 2), (rd_T48 y142 (wrap64 ((x8_1.length : Int) - 1))).f3⟩ : S48)) x9_1 l0 (l0.length : Int) (wrap64 (x15_1 + 1))))))) else (none)) else (none)) else (none)) else (none)) = some (r1, r2) := by rw [if_neg (show ¬ (false = true) by decide)] at H; exact H
    clear H; have H := H1; clear H1; obtain ⟨ji57, hji57⟩ : ∃ j_ : Int, (wrap64 ((x8_1.length : Int) - 1)) = j_ := ⟨_, rfl⟩; replace H : (if 0 ≤ (ji57) then (if (ji57) < (x8_1.length : Int) then (if 0 ≤ (wrap64 ((x9_1.length : Int) - 1)) then (if (wrap64 ((x9_1.length : Int) - 1)) < (x9_1.length : Int) then (if (rd x9_1 (wrap64 ((x9_1.length : Int) - 1))) = x15_1 then ((some (x8_1.set ((ji57) : Int).toNat (⟨(rd_T48 x8_1 (ji57)).f0, wrap64 (((rd_T48 x8_1 (ji57)).f1) + ((rd_T50 l0 x15_1).f2)), (rd_T48 x8_1 (ji57)).f2, (rd_T48 x8_1 (ji57)).f3⟩ : S48) : List (S48))).bind fun y136 => ((prop_Table_Of.f a2 ((rd_T50 l0 x15_1).f0)).bind fun t138 => (cells_Make.l0 kj6 l0 l1 a2 (y136.set ((ji57) : Int).toNat (⟨(rd_T48 y136 (ji57)).f0, (rd_T48 y136 (ji57)).f1, mx ((rd_T48 y136 (ji57)).f2) (mn t138 2), (rd_T48 y136 (ji57)).f3⟩ : S48)) x9_1 l0 (l0.length : Int) (wrap64 (x15_1 + 1))))) else ((some (x8_1.set ((ji57) : Int).toNat (⟨(rd_T48 x8_1 (ji57)).f0, (rd_T48 x8_1 (ji57)).f1, (rd_T48 x8_1 (ji57)).f2, 0⟩ : S48) : List (S48))).bind fun y140 => ((some (y140.set ((ji57) : Int).toNat (⟨(rd_T48 y140 (ji57)).f0, wrap64 (((rd_T48 y140 (ji57)).f1) + ((rd_T50 l0 x15_1).f2)), (rd_T48 y140 (ji57)).f2, (rd_T48 y140 (ji57)).f3⟩ : S48) : List (S48))).bind fun y142 => ((prop_Table_Of.f a2 ((rd_T50 l0 x15_1).f0)).bind fun t144 => (cells_Make.l0 kj6 l0 l1 a2 (y142.set ((ji57) : Int).toNat (⟨(rd_T48 y142 (ji57)).f0, (rd_T48 y142 (ji57)).f1, mx ((rd_T48 y142 (ji57)).f2) (mn t144 2), (rd_T48 y142 (ji57)).f3⟩ : S48)) x9_1 l0 (l0.length : Int) (wrap64 (x15_1 + 1))))))) else (none)) else (none)) else (none)) else (none)) = some (r1, r2) := by first | (rw [hji57] at H; exact H) | (simp only [hji57] at H ⊢; exact H)
    have hji57w : (IntKind.i64.wrap ((x8_1.length : Int) - 1)) = ji57 := (i64_w _).trans hji57
    by_cases c58 : 0 ≤ (ji57)
    rotate_left
    ·rw [if_neg c58] at H
     exact absurd H (by simp)
    rw [if_pos c58] at H; have c58b0 : decide (0 ≤ (ji57)) = true := decide_eq_true c58
    clear c58; by_cases c59 : (ji57) < (x8_1.length : Int)
    rotate_left
    ·rw [if_neg c59] at H
     exact absurd H (by simp)
    rw [if_pos c59] at H; have c59b0 : decide ((ji57) < (x8_1.length : Int)) = true := decide_eq_true c59
    clear c59; obtain ⟨ji60, hji60⟩ : ∃ j_ : Int, (wrap64 ((x9_1.length : Int) - 1)) = j_ := ⟨_, rfl⟩; replace H : (if 0 ≤ (ji60) then (if (ji60) < (x9_1.length : Int) then (if (rd x9_1 (ji60)) = x15_1 then ((some (x8_1.set ((ji57) : Int).toNat (⟨(rd_T48 x8_1 (ji57)).f0, wrap64 (((rd_T48 x8_1 (ji57)).f1) + ((rd_T50 l0 x15_1).f2)), (rd_T48 x8_1 (ji57)).f2, (rd_T48 x8_1 (ji57)).f3⟩ : S48) : List (S48))).bind fun y136 => ((prop_Table_Of.f a2 ((rd_T50 l0 x15_1).f0)).bind fun t138 => (cells_Make.l0 kj6 l0 l1 a2 (y136.set ((ji57) : Int).toNat (⟨(rd_T48 y136 (ji57)).f0, (rd_T48 y136 (ji57)).f1, mx ((rd_T48 y136 (ji57)).f2) (mn t138 2), (rd_T48 y136 (ji57)).f3⟩ : S48)) x9_1 l0 (l0.length : Int) (wrap64 (x15_1 + 1))))) else ((some (x8_1.set ((ji57) : Int).toNat (⟨(rd_T48 x8_1 (ji57)).f0, (rd_T48 x8_1 (ji57)).f1, (rd_T48 x8_1 (ji57)).f2, 0⟩ : S48) : List (S48))).bind fun y140 => ((some (y140.set ((ji57) : Int).toNat (⟨(rd_T48 y140 (ji57)).f0, wrap64 (((rd_T48 y140 (ji57)).f1) + ((rd_T50 l0 x15_1).f2)), (rd_T48 y140 (ji57)).f2, (rd_T48 y140 (ji57)).f3⟩ : S48) : List (S48))).bind fun y142 => ((prop_Table_Of.f a2 ((rd_T50 l0 x15_1).f0)).bind fun t144 => (cells_Make.l0 kj6 l0 l1 a2 (y142.set ((ji57) : Int).toNat (⟨(rd_T48 y142 (ji57)).f0, (rd_T48 y142 (ji57)).f1, mx ((rd_T48 y142 (ji57)).f2) (mn t144 2), (rd_T48 y142 (ji57)).f3⟩ : S48)) x9_1 l0 (l0.length : Int) (wrap64 (x15_1 + 1))))))) else (none)) else (none)) = some (r1, r2) := by first | (rw [hji60] at H; exact H) | (simp only [hji60] at H ⊢; exact H)
    have hji60w : (IntKind.i64.wrap ((x9_1.length : Int) - 1)) = ji60 := (i64_w _).trans hji60
    by_cases c61 : 0 ≤ (ji60)
    rotate_left
    ·rw [if_neg c61] at H
     exact absurd H (by simp)
    rw [if_pos c61] at H; have c61b0 : decide (0 ≤ (ji60)) = true := decide_eq_true c61
    clear c61; by_cases c62 : (ji60) < (x9_1.length : Int)
    rotate_left
    ·rw [if_neg c62] at H
     exact absurd H (by simp)
    rw [if_pos c62] at H; have c62b0 : decide ((ji60) < (x9_1.length : Int)) = true := decide_eq_true c62
    clear c62; by_cases c63 : (rd x9_1 (ji60)) = x15_1
    ·rw [if_pos c63] at H
     have c63b0 : ((rd x9_1 (ji60)) == x15_1) = true := beq_iff_eq.mpr c63
     have c63b1 : ((rd x9_1 (ji60)) != x15_1) = false := bne_eq_false_iff_eq.mpr c63
     clear c63; obtain ⟨y136, hy136⟩ : ∃ y_ : List (S48), y_ = (x8_1.set ((ji57) : Int).toNat (⟨(rd_T48 x8_1 (ji57)).f0, wrap64 (((rd_T48 x8_1 (ji57)).f1) + ((rd_T50 l0 x15_1).f2)), (rd_T48 x8_1 (ji57)).f2, (rd_T48 x8_1 (ji57)).f3⟩ : S48)) := ⟨_, rfl⟩; replace H : ((prop_Table_Of.f a2 ((rd_T50 l0 x15_1).f0)).bind fun t138 => (cells_Make.l0 kj6 l0 l1 a2 (y136.set ((ji57) : Int).toNat (⟨(rd_T48 y136 (ji57)).f0, (rd_T48 y136 (ji57)).f1, mx ((rd_T48 y136 (ji57)).f2) (mn t138 2), (rd_T48 y136 (ji57)).f3⟩ : S48)) x9_1 l0 (l0.length : Int) (wrap64 (x15_1 + 1)))) = some (r1, r2) := by first | (rw [hy136]; with_reducible exact H) | (have H2_ := (Option.bind_some _ _).symm.trans H; rw [hy136]; with_reducible exact H2_) | (have H2_ := (Option.bind_some _ _).symm.trans H; with_reducible exact H2_) | with_reducible exact H | (rw [hy136]; exact H) | exact H
     have Ny136 := zA.mk hy136; clear hy136; replace H := Option.bind_eq_some_iff.mp H; obtain ⟨t138, A650, H⟩ := H; replace H : (cells_Make.l0 kj6 l0 l1 a2 (y136.set ((ji57) : Int).toNat (⟨(rd_T48 y136 (ji57)).f0, (rd_T48 y136 (ji57)).f1, mx ((rd_T48 y136 (ji57)).f2) (mn t138 2), (rd_T48 y136 (ji57)).f3⟩ : S48)) x9_1 l0 (l0.length : Int) (wrap64 (x15_1 + 1))) = some (r1, r2) := H; have A65 := zA.mk A650; clear A650; obtain ⟨ji66, hji66⟩ : ∃ j_ : Int, (mn t138 2) = j_ := ⟨_, rfl⟩; replace H : (cells_Make.l0 kj6 l0 l1 a2 (y136.set ((ji57) : Int).toNat (⟨(rd_T48 y136 (ji57)).f0, (rd_T48 y136 (ji57)).f1, mx ((rd_T48 y136 (ji57)).f2) (ji66), (rd_T48 y136 (ji57)).f3⟩ : S48)) x9_1 l0 (l0.length : Int) (wrap64 (x15_1 + 1))) = some (r1, r2) := by first | (rw [hji66] at H; exact H) | (simp only [hji66] at H ⊢; exact H)
     (try rw [hji66] at A65)
     (try (have hji66h : ji66 ≤ 2 := by (rw [← hji66]; unfold mn; (repeat' split) <;> omega)))
     (try (have hji66g : ji66 ≤ 64 := by omega))
     have hji66_ : (if 2 < t138 then 2 else t138) = ji66 := hji66
     obtain ⟨ji67, hji67⟩ : ∃ j_ : Int, (mx ((rd_T48 y136 (ji57)).f2) (ji66)) = j_ := ⟨_, rfl⟩; replace H : (cells_Make.l0 kj6 l0 l1 a2 (y136.set ((ji57) : Int).toNat (⟨(rd_T48 y136 (ji57)).f0, (rd_T48 y136 (ji57)).f1, ji67, (rd_T48 y136 (ji57)).f3⟩ : S48)) x9_1 l0 (l0.length : Int) (wrap64 (x15_1 + 1))) = some (r1, r2) := by first | (rw [hji67] at H; exact H) | (simp only [hji67] at H ⊢; exact H)
     (try rw [hji67] at A65)
     have hji67_ : (if ((rd_T48 y136 (ji57)).f2) < (ji66) then (ji66) else ((rd_T48 y136 (ji57)).f2)) = ji67 := hji67
     obtain ⟨y139, hy139⟩ : ∃ y_ : List (S48), y_ = (y136.set ((ji57) : Int).toNat (⟨(rd_T48 y136 (ji57)).f0, (rd_T48 y136 (ji57)).f1, ji67, (rd_T48 y136 (ji57)).f3⟩ : S48)) := ⟨_, rfl⟩; replace H : (cells_Make.l0 kj6 l0 l1 a2 y139 x9_1 l0 (l0.length : Int) (wrap64 (x15_1 + 1))) = some (r1, r2) := by first | (rw [hy139]; with_reducible exact H) | (have H2_ := (Option.bind_some _ _).symm.trans H; rw [hy139]; with_reducible exact H2_) | (have H2_ := (Option.bind_some _ _).symm.trans H; with_reducible exact H2_) | with_reducible exact H | (rw [hy139]; exact H) | exact H
     have Ny139 := zA.mk hy139; clear hy139; have H' := zA.mk H
     clear H; obtain ⟨Ao69, co69, eo69⟩ := Kd.zP HO_8.out; subst eo69; have p133 : 0 ≤ ((ji57) : Int) := aD
     have q133 : (ji57) < (x8_1.length : Int) := aD
     obtain ⟨ad133, e133, hx133_0, hx133_1, hx133_2, hx133_3⟩ := at_T48 (Kd.zM HO_8.out).2.2 (ji57) p133 q133; cases e133
     replace p133 := eq_true p133; replace q133 := eq_true q133; obtain ⟨Ao70, co70, eo70⟩ := Kd.zP HO_9.out; subst eo70; have p134 : 0 ≤ ((ji60) : Int) := aD
     have q134 : (ji60) < (x9_1.length : Int) := aD
     obtain ⟨ad134, e134, hx134_0⟩ := Kd.at_int (Kd.zM HO_9.out).2.2 (ji60) p134 q134; cases e134
     replace p134 := eq_true p134; replace q134 := eq_true q134; try go_wp2
     replace HO_8 := zA.mk (Kd.zH HO_8.out); replace HO_9 := zA.mk (Kd.zH HO_9.out); replace BK111 := zA.mk (zC BK111.out); replace HB := zA.mk (below_drew1 HB.out); have p135 : 0 ≤ ((ji57) : Int) := aD
     have q135 : (ji57) < (x8_1.length : Int) := aD
     obtain ⟨ad135, e135, hx135_0, hx135_1, hx135_2, hx135_3⟩ := at_T48 (Kd.zM HO_8.out).2.2 (ji57) p135 q135; obtain rfl : ad133 = ad135 := (by injection e135)
     replace p135 := eq_true p135; replace q135 := eq_true q135; have p64 : 0 ≤ ((ji57) : Int) := aD
     have q64 : ((ji57) : Int) < ((x8_1.length : Int) : Int) := aD
     obtain ⟨go64, co64, eo64, gb64, gl64, cl64, HG64⟩ := Kd.R_form HO_8.out (by omega)
     (first | cases eo64 | (injection eo64 with ea_ en_ ec_; (first | subst ea_ | (injection ea_ with ea_; subst ea_)); subst ec_; clear en_))
     have GB64 := zA.mk gb64; have GG64 := zA.mk HG64; clear gb64 gl64 HG64; (first | simp only [add_plain] at hx133_0 | skip)
     (first | simp only [add_plain] at hx133_1 | skip)
     (first | simp only [add_plain] at hx133_2 | skip)
     (first | simp only [add_plain] at hx133_3 | skip)
     (first | simp only [add_plain] at hx135_0 | skip)
     (first | simp only [add_plain] at hx135_1 | skip)
     (first | simp only [add_plain] at hx135_2 | skip)
     (first | simp only [add_plain] at hx135_3 | skip)
     obtain ⟨ce64, hcl64, hM64, hcc64, hfr64⟩ := Kd.R_elem HO_8.out z48 ((ji57) : Int) p64 q64; obtain rfl := k48_openM hM64
     have hx64_0 : World.cell? _ ⟨go64, ((ji57) : Int).toNat * 4, none⟩ = some (.int .i64 ((rd_T48 x8_1 (ji57)).f0)) := hcc64 0 _ rfl
     have hx64_1 : World.cell? _ ⟨go64, ((ji57) : Int).toNat * 4 + 1, none⟩ = some (.int .i64 ((rd_T48 x8_1 (ji57)).f1)) := hcc64 1 _ rfl
     have hx64_2 : World.cell? _ ⟨go64, ((ji57) : Int).toNat * 4 + 2, none⟩ = some (.int .i64 ((rd_T48 x8_1 (ji57)).f2)) := hcc64 2 _ rfl
     have hx64_3 : World.cell? _ ⟨go64, ((ji57) : Int).toNat * 4 + 3, none⟩ = some (.int .u8 ((rd_T48 x8_1 (ji57)).f3)) := hcc64 3 _ rfl
     have hf64_0 : World.frozen? _ ⟨go64, ((ji57) : Int).toNat * 4, none⟩ = false := hfr64 0
     have hf64_1 : World.frozen? _ ⟨go64, ((ji57) : Int).toNat * 4 + 1, none⟩ = false := hfr64 1
     have hf64_2 : World.frozen? _ ⟨go64, ((ji57) : Int).toNat * 4 + 2, none⟩ = false := hfr64 2
     have hf64_3 : World.frozen? _ ⟨go64, ((ji57) : Int).toNat * 4 + 3, none⟩ = false := hfr64 3
     (try clear hcl64); (try clear hcc64); (try clear hfr64); (try clear hM64)
     replace p64 := eq_true p64; replace q64 := eq_true q64; obtain ⟨ce72, hcl72, hM72, hcc72, hfr72⟩ := Kd.R_elem HO_8.out z48 ((ji57) : Int) (aD) (by have h_ : ((ji57) : Int) < ((x8_1.length : Int) : Int) := aD; first | exact h_ | (have e_ := (Kd.zM HO_8.out).1; omega) | simpa using h_)
     obtain rfl := k48_openM hM72
     have HP72 := (Kd.R_seg HO_8.out ((ji57) : Int) (aD) (by have h_ : ((ji57) : Int) < ((x8_1.length : Int) : Int) := aD; first | exact h_ | (have e_ := (Kd.zM HO_8.out).1; omega) | simpa using h_) (seg := [.int .i64 (wrap64 (((rd_T48 x8_1 (ji57)).f1) + ((rd_T50 l0 x15_1).f2)))]) (j := 1) hcl72 hcc72 (show 2 ≤ 4 from by decide) (x' := (⟨(rd_T48 x8_1 (ji57)).f0, wrap64 (((rd_T48 x8_1 (ji57)).f1) + ((rd_T50 l0 x15_1).f2)), (rd_T48 x8_1 (ji57)).f2, (rd_T48 x8_1 (ji57)).f3⟩ : S48)) (k48_mkM _ _ _ (⟨(rd_T48 x8_1 (ji57)).f0, wrap64 (((rd_T48 x8_1 (ji57)).f1) + ((rd_T50 l0 x15_1).f2)), (rd_T48 x8_1 (ji57)).f2, (rd_T48 x8_1 (ji57)).f3⟩ : S48) ) (fun _ hk => hk)).1
     rw [← Ny136.out] at HP72; have HQ72 := zA.mk HP72; clear hcl72 hcc72 hfr72 hM72 HP72; refine start_ (n := 10) (S := fun w' => w'.cell? ⟨gb111, 0, none⟩ = some (.int .i32 ((rd_T50 l0 x15_1).f0)) ∧ w'.cell? ⟨gb111, 1, none⟩ = some (.int .i64 ((rd_T50 l0 x15_1).f1)) ∧ w'.cell? ⟨gb111, 2, none⟩ = some (.int .i64 ((rd_T50 l0 x15_1).f2)) ∧ w'.cell? ⟨go64, (((ji57)).toNat * 4), none⟩ = some (.int .i64 ((rd_T48 x8_1 (ji57)).f0)) ∧ w'.cell? ⟨go64, (((ji57)).toNat * 4) + 1, none⟩ = some (.int .i64 ((rd_T48 x8_1 (ji57)).f1)) ∧ w'.cell? ⟨go64, (((ji57)).toNat * 4) + 2, none⟩ = some (.int .i64 ((rd_T48 x8_1 (ji57)).f2)) ∧ w'.cell? ⟨go64, (((ji57)).toNat * 4) + 3, none⟩ = some (.int .u8 ((rd_T48 x8_1 (ji57)).f3))) (ds := [9]) #[false, false, false, false, false, false, false, false, false, false] (by kernel_rfl) rfl rfl ⟨(zE BK111.out 0).trans rfl, (zE BK111.out 1).trans rfl, (zE BK111.out 2).trans rfl, hx135_0, hx135_1, hx135_2, hx135_3⟩ (fun hHeld => ?_); refine with_tabW cells_Make.tab12 cells_Make.bits12 (fun HT_ HW_ => ?_)
     generalize wc.drew = w71 at HO_8 HO_9 BK111 HB GG64 HQ72 hf64_0 hf64_1 hf64_2 hf64_3 hx133_0 hx133_1 hx133_2 hx133_3 hx135_0 hx135_1 hx135_2 hx135_3 hx64_0 hx64_1 hx64_2 hx64_3 hHeld ⊢
     refine aP 0 (some 64) (tf_ 1 10) HT_ ?_
     refine aP 1 (some 65) (tf_ 2 10) HT_ ?_
     refine aP 2 (some 66) (tf_ 3 10) HT_ ?_
     refine aP 4 (some 68) (tb_ 23 10) HT_ ?_
     refine take_ (i := 3) (N := some 67) (v := ?_) (a' := ?_) (tf_ 5 10) rfl rfl (take_ofW HT_.out HW_.out (by kernel_rfl)) (fun _ _ _ h => h) (Or.inl ⟨by rfl, ?_⟩) hHeld ?_ ?_
     rotate_left
     ·rintro w' ⟨s0, s1, s2, s3, s4, s5, s6⟩
      go_simp
      with_reducible rfl
     rotate_left
     ·simp only [Act.put, sA_, sB_, sC_, i64_w, i32_w]
      rfl
     refine take_ (i := 5) (N := some 69) (v := ?_) (a' := ?_) (tf_ 6 10) rfl rfl (take_ofW HT_.out HW_.out (by kernel_rfl)) (fun _ _ _ h => h) (Or.inl ⟨by rfl, ?_⟩) hHeld ?_ ?_
     rotate_left
     ·rintro w' ⟨s0, s1, s2, s3, s4, s5, s6⟩
      go_simp
      with_reducible rfl
     rotate_left
     ·simp only [Act.put, sA_, sB_, sC_, i64_w, i32_w]
      rfl
     refine aP 6 (some 70) (tf_ 7 10) HT_ ?_
     refine aP 7 (some 71) (tf_ 8 10) HT_ ?_
     refine aP 8 (some 72) (tf_ 9 10) HT_ ?_
     refine last_ (i := 9) (N := none) (tb_ 1023 10) rfl rfl (one_of HT_.out (by kernel_rfl)) (by decide) (fun K hK => ?_)
     refine skip_ (w1 := ?_) (by rfl) rfl ?_ ?_
     rotate_left
     ·go_simp
      rfl
     refine hK.out _ _ ?_
     clear hK K; refine done_ (done_of HT_.out (by kernel_rfl)) ?_
     try go_wp2
     have n0_ : zA (Kd.R k48 48 (w71.setCell ⟨go64, ((ji57) : Int).toNat * 4 + 1, none⟩ (.int .i64 (wrap64 (((rd_T48 x8_1 (ji57)).f1) + ((rd_T50 l0 x15_1).f2))))) w.heap.size (fun _ => True) (.slice (some ⟨go64, 0, none⟩) x8_1.length co69) y136) := ⟨aR HQ72⟩
     have n1_ : zA (Kd.R (Kd.int .i64) 3 (w71.setCell ⟨go64, ((ji57) : Int).toNat * 4 + 1, none⟩ (.int .i64 (wrap64 (((rd_T48 x8_1 (ji57)).f1) + ((rd_T50 l0 x15_1).f2))))) w.heap.size (fun _ => True) (.slice (some ad134) x9_1.length co70) x9_1) := ⟨by (with_reducible repeat (first | apply Kd.zF | apply Kd.zG | apply Kd.zH)); exact Kd.zR (Kd.zO (p := ⟨go64, ((ji57) : Int).toNat * 4 + 1, none⟩) (Kd.zS HO_9.out GG64.out (by decide)) (fun _ hk => hk.2) (.int .i64 (wrap64 (((rd_T48 x8_1 (ji57)).f1) + ((rd_T50 l0 x15_1).f2))))) (fun _ hk => trivial)⟩
     have n2_ : zA ((w71.setCell ⟨go64, ((ji57) : Int).toNat * 4 + 1, none⟩ (.int .i64 (wrap64 (((rd_T48 x8_1 (ji57)).f1) + ((rd_T50 l0 x15_1).f2))))).heap[gb111]? = some (.cells #[.int .i32 ((rd_T50 l0 x15_1).f0), .int .i64 ((rd_T50 l0 x15_1).f1), .int .i64 ((rd_T50 l0 x15_1).f2)] 50 (0, 0))) := ⟨by (with_reducible repeat (first | refine zD ?_ _ | refine zC ?_ | refine zB ?_ _)); refine blk_far ?_ (by have h_ := Kd.R_ne HO_8.out BK111.out (by decide); intro e_; exact h_ (by rw [e_]; rfl)) _; (with_reducible repeat (first | refine zD ?_ _ | refine zC ?_ | refine zB ?_ _)); exact BK111.out⟩
     have n3_ : zA (Below w.heap.size w (w71.setCell ⟨go64, ((ji57) : Int).toNat * 4 + 1, none⟩ (.int .i64 (wrap64 (((rd_T48 x8_1 (ji57)).f1) + ((rd_T50 l0 x15_1).f2)))))) := ⟨aL HB⟩
     (try clear HO_8)
     (try clear HO_9)
     (try clear BK111)
     (try clear HB)
     generalize (w71.setCell ⟨go64, ((ji57) : Int).toNat * 4 + 1, none⟩ (.int .i64 (wrap64 (((rd_T48 x8_1 (ji57)).f1) + ((rd_T50 l0 x15_1).f2))))) = w73 at n0_ n1_ n2_ n3_ ⊢
     have HO_8 := n0_; have HO_9 := n1_; have BK111 := n2_; have HB := n3_; clear n0_ n1_ n2_ n3_; replace HO_8 := zA.mk (Kd.zH HO_8.out); replace HO_9 := zA.mk (Kd.zH HO_9.out); replace BK111 := zA.mk (zC BK111.out); replace HB := zA.mk (below_drew1 HB.out); have p137 : 0 ≤ ((ji57) : Int) := aD
     have q137 : (ji57) < (y136.length : Int) := (by have h_ : ((ji57) : Int) < ((x8_1.length : Int) : Int) := aD; first | (have e_ := (Kd.zM HO_8.out).1; omega) | simpa only [Ny136.out, List.length_set] using h_)
     have ql137 : (((ji57) : Int) < ((x8_1.length : Int) : Int)) = True := eq_true (aD)
     obtain ⟨ad137, e137, hx137_0, hx137_1, hx137_2, hx137_3⟩ := at_T48 (Kd.zM HO_8.out).2.2 (ji57) p137 q137; obtain rfl : (⟨go64, 0, none⟩ : Addr) = ad137 := (by injection e137)
     (first | simp only [add_plain] at hx137_0 | simp only [add_at] at hx137_0 | simp only [Addr.add, Nat.zero_add] at hx137_0 | skip)
     (first | simp only [add_plain] at hx137_1 | simp only [add_at] at hx137_1 | simp only [Addr.add, Nat.zero_add] at hx137_1 | skip)
     (first | simp only [add_plain] at hx137_2 | simp only [add_at] at hx137_2 | simp only [Addr.add, Nat.zero_add] at hx137_2 | skip)
     (first | simp only [add_plain] at hx137_3 | simp only [add_at] at hx137_3 | simp only [Addr.add, Nat.zero_add] at hx137_3 | skip)
     replace p137 := eq_true p137; replace q137 := eq_true q137; refine start_ (n := 14) (S := fun w' => w'.cell? ⟨gb111, 0, none⟩ = some (.int .i32 ((rd_T50 l0 x15_1).f0)) ∧ w'.cell? ⟨gb111, 1, none⟩ = some (.int .i64 ((rd_T50 l0 x15_1).f1)) ∧ w'.cell? ⟨gb111, 2, none⟩ = some (.int .i64 ((rd_T50 l0 x15_1).f2)) ∧ w'.cell? ⟨go64, ((ji57)).toNat * 4, none⟩ = some (.int .i64 ((rd_T48 y136 (ji57)).f0)) ∧ w'.cell? ⟨go64, ((ji57)).toNat * 4 + 1, none⟩ = some (.int .i64 ((rd_T48 y136 (ji57)).f1)) ∧ w'.cell? ⟨go64, ((ji57)).toNat * 4 + 2, none⟩ = some (.int .i64 ((rd_T48 y136 (ji57)).f2)) ∧ w'.cell? ⟨go64, ((ji57)).toNat * 4 + 3, none⟩ = some (.int .u8 ((rd_T48 y136 (ji57)).f3))) (ds := [13]) #[false, false, false, false, false, false, false, false, false, false, false, false, false, false] (by kernel_rfl) rfl rfl ⟨(zE BK111.out 0).trans rfl, (zE BK111.out 1).trans rfl, (zE BK111.out 2).trans rfl, hx137_0, hx137_1, hx137_2, hx137_3⟩ (fun hHeld => ?_); refine with_tabW cells_Make.tab13 cells_Make.bits13 (fun HT_ HW_ => ?_)
     generalize w73.drew = w74 at HO_8 HO_9 BK111 HB HQ72 hx137_0 hx137_1 hx137_2 hx137_3 hHeld ⊢
     refine aP 0 (some 73) (tf_ 1 14) HT_ ?_
     refine aP 1 (some 74) (tf_ 2 14) HT_ ?_
     refine aP 2 (some 75) (tf_ 3 14) HT_ ?_
     refine aP 3 (some 76) (tf_ 4 14) HT_ ?_
     refine aP 5 (some 78) (tb_ 47 14) HT_ ?_
     refine aP 6 (some 79) (tb_ 111 14) HT_ ?_
     refine take_ (i := 4) (N := some 77) (v := ?_) (a' := ?_) (tf_ 7 14) rfl rfl (take_ofW HT_.out HW_.out (by kernel_rfl)) (fun _ _ _ h => h) (Or.inl ⟨by rfl, ?_⟩) hHeld ?_ ?_
     rotate_left
     ·rintro w' ⟨s0, s1, s2, s3, s4, s5, s6⟩
      go_simp
      with_reducible rfl
     rotate_left
     ·simp only [Act.put, sA_, sB_, sC_, i64_w, i32_w]
      rfl
     refine take_ (i := 7) (N := some 80) (v := ?_) (a' := ?_) (tf_ 8 14) rfl rfl (take_ofW HT_.out HW_.out (by kernel_rfl)) (fun _ _ _ h => h) (Or.inl ⟨by rfl, ?_⟩) hHeld ?_ ?_
     rotate_left
     ·rintro w' ⟨s0, s1, s2, s3, s4, s5, s6⟩
      go_simp
      with_reducible rfl
     rotate_left
     ·simp only [Act.put, sA_, sB_, sC_, i64_w, i32_w]
      rfl
     refine one_ (i := 8) (N := some 81) (tb_ 511 14) rfl rfl (one_of HT_.out (by kernel_rfl)) (by decide) (fun K hK => ?_)
     refine goes_ Try.func22 (by kernel_rfl) rfl #[vt2_, .int .i32 ((rd_T50 l0 x15_1).f0)] (by rfl) rfl rfl aT ?_
     with_reducible refine (prop_Table_Of.calls vt2_ a2 ((rd_T50 l0 x15_1).f0) t138 _ ?side1 A65.out).mono ?_
     (case side1 => exact TabAt.below HTa2.out (aL HB))
     rintro e w' ⟨rfl, ⟨nd, rfl⟩⟩
     refine ⟨_, rfl, ?_⟩
     have p68 : 0 ≤ ((ji57) : Int) := aD
     have q68 : ((ji57) : Int) < ((x8_1.length : Int) : Int) := aD
     obtain ⟨ce68, hcl68, hM68, hcc68, hfr68⟩ := Kd.R_elem HO_8.out z48 ((ji57) : Int) p68 q68; obtain rfl := k48_openM hM68
     have hx68_0 : World.cell? _ ⟨go64, ((ji57) : Int).toNat * 4, none⟩ = some (.int .i64 ((rd_T48 y136 (ji57)).f0)) := hcc68 0 _ rfl
     have hx68_1 : World.cell? _ ⟨go64, ((ji57) : Int).toNat * 4 + 1, none⟩ = some (.int .i64 ((rd_T48 y136 (ji57)).f1)) := hcc68 1 _ rfl
     have hx68_2 : World.cell? _ ⟨go64, ((ji57) : Int).toNat * 4 + 2, none⟩ = some (.int .i64 ((rd_T48 y136 (ji57)).f2)) := hcc68 2 _ rfl
     have hx68_3 : World.cell? _ ⟨go64, ((ji57) : Int).toNat * 4 + 3, none⟩ = some (.int .u8 ((rd_T48 y136 (ji57)).f3)) := hcc68 3 _ rfl
     have hf68_0 : World.frozen? _ ⟨go64, ((ji57) : Int).toNat * 4, none⟩ = false := hfr68 0
     have hf68_1 : World.frozen? _ ⟨go64, ((ji57) : Int).toNat * 4 + 1, none⟩ = false := hfr68 1
     have hf68_2 : World.frozen? _ ⟨go64, ((ji57) : Int).toNat * 4 + 2, none⟩ = false := hfr68 2
     have hf68_3 : World.frozen? _ ⟨go64, ((ji57) : Int).toNat * 4 + 3, none⟩ = false := hfr68 3
     (try clear hcl68); (try clear hcc68); (try clear hfr68); (try clear hM68)
     replace p68 := eq_true p68; replace q68 := eq_true q68; obtain ⟨cx75, gx75⟩ := Kd.R_typed HO_8.out _ rfl; have GG75_ := zA.mk gx75; clear gx75; obtain ⟨ce75, hcl75, hM75, hcc75, hfr75⟩ := Kd.R_elem HO_8.out z48 ((ji57) : Int) (aD) (by have h_ : ((ji57) : Int) < ((x8_1.length : Int) : Int) := aD; first | exact h_ | (have e_ := (Kd.zM HO_8.out).1; omega) | simpa using h_)
     obtain rfl := k48_openM hM75
     have HP75 := (Kd.R_seg HO_8.out ((ji57) : Int) (aD) (by have h_ : ((ji57) : Int) < ((x8_1.length : Int) : Int) := aD; first | exact h_ | (have e_ := (Kd.zM HO_8.out).1; omega) | simpa using h_) (seg := [.int .i64 ji67]) (j := 2) hcl75 hcc75 (show 3 ≤ 4 from by decide) (x' := (⟨(rd_T48 y136 (ji57)).f0, (rd_T48 y136 (ji57)).f1, ji67, (rd_T48 y136 (ji57)).f3⟩ : S48)) (k48_mkM _ _ _ (⟨(rd_T48 y136 (ji57)).f0, (rd_T48 y136 (ji57)).f1, ji67, (rd_T48 y136 (ji57)).f3⟩ : S48) ) (fun _ hk => hk)).1
     rw [← Ny139.out] at HP75; have HQ75 := zA.mk HP75; clear hcl75 hcc75 hfr75 hM75 HP75; refine hK.out _ _ ⟨(zE BK111.out 0).trans rfl, (zE BK111.out 1).trans rfl, (zE BK111.out 2).trans rfl, hHeld.2.2.2.1, hHeld.2.2.2.2.1, hHeld.2.2.2.2.2.1, hHeld.2.2.2.2.2.2⟩ (fun hHeld => ?_)
     clear hK K; refine norm_ (a' := ?_) ?_ ?_
     rotate_left
     ·show Act.put _ (some 81) _ = _
      simp only [Act.put, sA_, sB_, sC_, i64_w, i32_w]; rfl
     refine aP 9 (some 82) (tf_ 10 14) HT_ ?_
     refine aP 10 (some 83) (tf_ 11 14) HT_ ?_
     refine aP 11 (some 84) (tf_ 12 14) HT_ ?_
     refine aP 12 (some 85) (tf_ 13 14) HT_ ?_
     refine last_ (i := 13) (N := none) (tb_ 16383 14) rfl rfl (one_of HT_.out (by kernel_rfl)) (by decide) (fun K hK => ?_)
     refine skip_ (w1 := ?_) (by rfl) rfl ?_ ?_
     rotate_left
     ·go_simp
      rfl
     refine hK.out _ _ ?_
     clear hK K; refine done_ (done_of HT_.out (by kernel_rfl)) ?_
     try go_wp2
     go_roundg kj6
     case measure => have := HK1.out; have := HJ6.out; omega
     case rel => exact ⟨(y139), (x9_1), (wrap64 (x15_1 + 1)), aZ, H', ⟨by have := HK1.out; have := HJ6.out; omega⟩, ⟨aR HQ75⟩, ⟨by (with_reducible repeat (first | apply Kd.zF | apply Kd.zG | apply Kd.zH)); exact Kd.zR (Kd.zO (p := ⟨go64, ((ji57) : Int).toNat * 4 + 2, none⟩) (Kd.zS HO_9.out GG75_.out (by decide)) (fun _ hk => hk.2) (.int .i64 ji67)) (fun _ hk => trivial)⟩, ⟨aL HB⟩⟩
    rw [if_neg c63] at H; have c63b0 : ((rd x9_1 (ji60)) == x15_1) = false := beq_eq_false_iff_ne.mpr c63
    have c63b1 : ((rd x9_1 (ji60)) != x15_1) = true := bne_iff_ne.mpr c63
    obtain ⟨y140, hy140⟩ : ∃ y_ : List (S48), y_ = (x8_1.set ((ji57) : Int).toNat (⟨(rd_T48 x8_1 (ji57)).f0, (rd_T48 x8_1 (ji57)).f1, (rd_T48 x8_1 (ji57)).f2, 0⟩ : S48)) := ⟨_, rfl⟩; replace H : ((some (y140.set ((ji57) : Int).toNat (⟨(rd_T48 y140 (ji57)).f0, wrap64 (((rd_T48 y140 (ji57)).f1) + ((rd_T50 l0 x15_1).f2)), (rd_T48 y140 (ji57)).f2, (rd_T48 y140 (ji57)).f3⟩ : S48) : List (S48))).bind fun y142 => ((prop_Table_Of.f a2 ((rd_T50 l0 x15_1).f0)).bind fun t144 => (cells_Make.l0 kj6 l0 l1 a2 (y142.set ((ji57) : Int).toNat (⟨(rd_T48 y142 (ji57)).f0, (rd_T48 y142 (ji57)).f1, mx ((rd_T48 y142 (ji57)).f2) (mn t144 2), (rd_T48 y142 (ji57)).f3⟩ : S48)) x9_1 l0 (l0.length : Int) (wrap64 (x15_1 + 1))))) = some (r1, r2) := by first | (rw [hy140]; with_reducible exact H) | (have H2_ := (Option.bind_some _ _).symm.trans H; rw [hy140]; with_reducible exact H2_) | (have H2_ := (Option.bind_some _ _).symm.trans H; with_reducible exact H2_) | with_reducible exact H | (rw [hy140]; exact H) | exact H
    have Ny140 := zA.mk hy140; clear hy140; obtain ⟨y142, hy142⟩ : ∃ y_ : List (S48), y_ = (y140.set ((ji57) : Int).toNat (⟨(rd_T48 y140 (ji57)).f0, wrap64 (((rd_T48 y140 (ji57)).f1) + ((rd_T50 l0 x15_1).f2)), (rd_T48 y140 (ji57)).f2, (rd_T48 y140 (ji57)).f3⟩ : S48)) := ⟨_, rfl⟩; replace H : ((prop_Table_Of.f a2 ((rd_T50 l0 x15_1).f0)).bind fun t144 => (cells_Make.l0 kj6 l0 l1 a2 (y142.set ((ji57) : Int).toNat (⟨(rd_T48 y142 (ji57)).f0, (rd_T48 y142 (ji57)).f1, mx ((rd_T48 y142 (ji57)).f2) (mn t144 2), (rd_T48 y142 (ji57)).f3⟩ : S48)) x9_1 l0 (l0.length : Int) (wrap64 (x15_1 + 1)))) = some (r1, r2) := by first | (rw [hy142]; with_reducible exact H) | (have H2_ := (Option.bind_some _ _).symm.trans H; rw [hy142]; with_reducible exact H2_) | (have H2_ := (Option.bind_some _ _).symm.trans H; with_reducible exact H2_) | with_reducible exact H | (rw [hy142]; exact H) | exact H
    have Ny142 := zA.mk hy142; clear hy142; replace H := Option.bind_eq_some_iff.mp H; obtain ⟨t144, A780, H⟩ := H; replace H : (cells_Make.l0 kj6 l0 l1 a2 (y142.set ((ji57) : Int).toNat (⟨(rd_T48 y142 (ji57)).f0, (rd_T48 y142 (ji57)).f1, mx ((rd_T48 y142 (ji57)).f2) (mn t144 2), (rd_T48 y142 (ji57)).f3⟩ : S48)) x9_1 l0 (l0.length : Int) (wrap64 (x15_1 + 1))) = some (r1, r2) := H; have A78 := zA.mk A780; clear A780; obtain ⟨ji79, hji79⟩ : ∃ j_ : Int, (mn t144 2) = j_ := ⟨_, rfl⟩; replace H : (cells_Make.l0 kj6 l0 l1 a2 (y142.set ((ji57) : Int).toNat (⟨(rd_T48 y142 (ji57)).f0, (rd_T48 y142 (ji57)).f1, mx ((rd_T48 y142 (ji57)).f2) (ji79), (rd_T48 y142 (ji57)).f3⟩ : S48)) x9_1 l0 (l0.length : Int) (wrap64 (x15_1 + 1))) = some (r1, r2) := by first | (rw [hji79] at H; exact H) | (simp only [hji79] at H ⊢; exact H)
    (try rw [hji79] at A78)
    (try (have hji79h : ji79 ≤ 2 := by (rw [← hji79]; unfold mn; (repeat' split) <;> omega)))
    (try (have hji79g : ji79 ≤ 64 := by omega))
    have hji79_ : (if 2 < t144 then 2 else t144) = ji79 := hji79
    obtain ⟨ji80, hji80⟩ : ∃ j_ : Int, (mx ((rd_T48 y142 (ji57)).f2) (ji79)) = j_ := ⟨_, rfl⟩; replace H : (cells_Make.l0 kj6 l0 l1 a2 (y142.set ((ji57) : Int).toNat (⟨(rd_T48 y142 (ji57)).f0, (rd_T48 y142 (ji57)).f1, ji80, (rd_T48 y142 (ji57)).f3⟩ : S48)) x9_1 l0 (l0.length : Int) (wrap64 (x15_1 + 1))) = some (r1, r2) := by first | (rw [hji80] at H; exact H) | (simp only [hji80] at H ⊢; exact H)
    (try rw [hji80] at A78)
    have hji80_ : (if ((rd_T48 y142 (ji57)).f2) < (ji79) then (ji79) else ((rd_T48 y142 (ji57)).f2)) = ji80 := hji80
    obtain ⟨y145, hy145⟩ : ∃ y_ : List (S48), y_ = (y142.set ((ji57) : Int).toNat (⟨(rd_T48 y142 (ji57)).f0, (rd_T48 y142 (ji57)).f1, ji80, (rd_T48 y142 (ji57)).f3⟩ : S48)) := ⟨_, rfl⟩; replace H : (cells_Make.l0 kj6 l0 l1 a2 y145 x9_1 l0 (l0.length : Int) (wrap64 (x15_1 + 1))) = some (r1, r2) := by first | (rw [hy145]; with_reducible exact H) | (have H2_ := (Option.bind_some _ _).symm.trans H; rw [hy145]; with_reducible exact H2_) | (have H2_ := (Option.bind_some _ _).symm.trans H; with_reducible exact H2_) | with_reducible exact H | (rw [hy145]; exact H) | exact H
    have Ny145 := zA.mk hy145; clear hy145; have H' := zA.mk H
    clear H; obtain ⟨Ao82, co82, eo82⟩ := Kd.zP HO_8.out; subst eo82; have p133 : 0 ≤ ((ji57) : Int) := aD
    have q133 : (ji57) < (x8_1.length : Int) := aD
    obtain ⟨ad133, e133, hx133_0, hx133_1, hx133_2, hx133_3⟩ := at_T48 (Kd.zM HO_8.out).2.2 (ji57) p133 q133; cases e133
    replace p133 := eq_true p133; replace q133 := eq_true q133; obtain ⟨Ao83, co83, eo83⟩ := Kd.zP HO_9.out; subst eo83; have p134 : 0 ≤ ((ji60) : Int) := aD
    have q134 : (ji60) < (x9_1.length : Int) := aD
    obtain ⟨ad134, e134, hx134_0⟩ := Kd.at_int (Kd.zM HO_9.out).2.2 (ji60) p134 q134; cases e134
    replace p134 := eq_true p134; replace q134 := eq_true q134; have p76 : 0 ≤ ((ji57) : Int) := aD
    have q76 : ((ji57) : Int) < ((x8_1.length : Int) : Int) := aD
    obtain ⟨go76, co76, eo76, gb76, gl76, cl76, HG76⟩ := Kd.R_form HO_8.out (by omega)
    (first | cases eo76 | (injection eo76 with ea_ en_ ec_; (first | subst ea_ | (injection ea_ with ea_; subst ea_)); subst ec_; clear en_))
    have GB76 := zA.mk gb76; have GG76 := zA.mk HG76; clear gb76 gl76 HG76; (first | simp only [add_plain] at hx133_0 | skip)
    (first | simp only [add_plain] at hx133_1 | skip)
    (first | simp only [add_plain] at hx133_2 | skip)
    (first | simp only [add_plain] at hx133_3 | skip)
    obtain ⟨ce76, hcl76, hM76, hcc76, hfr76⟩ := Kd.R_elem HO_8.out z48 ((ji57) : Int) p76 q76; obtain rfl := k48_openM hM76
    have hx76_0 : wc.cell? ⟨go76, ((ji57) : Int).toNat * 4, none⟩ = some (.int .i64 ((rd_T48 x8_1 (ji57)).f0)) := hcc76 0 _ rfl
    have hx76_1 : wc.cell? ⟨go76, ((ji57) : Int).toNat * 4 + 1, none⟩ = some (.int .i64 ((rd_T48 x8_1 (ji57)).f1)) := hcc76 1 _ rfl
    have hx76_2 : wc.cell? ⟨go76, ((ji57) : Int).toNat * 4 + 2, none⟩ = some (.int .i64 ((rd_T48 x8_1 (ji57)).f2)) := hcc76 2 _ rfl
    have hx76_3 : wc.cell? ⟨go76, ((ji57) : Int).toNat * 4 + 3, none⟩ = some (.int .u8 ((rd_T48 x8_1 (ji57)).f3)) := hcc76 3 _ rfl
    have hf76_0 : wc.frozen? ⟨go76, ((ji57) : Int).toNat * 4, none⟩ = false := hfr76 0
    have hf76_1 : wc.frozen? ⟨go76, ((ji57) : Int).toNat * 4 + 1, none⟩ = false := hfr76 1
    have hf76_2 : wc.frozen? ⟨go76, ((ji57) : Int).toNat * 4 + 2, none⟩ = false := hfr76 2
    have hf76_3 : wc.frozen? ⟨go76, ((ji57) : Int).toNat * 4 + 3, none⟩ = false := hfr76 3
    (try clear hcl76); (try clear hcc76); (try clear hfr76); (try clear hM76)
    replace p76 := eq_true p76; replace q76 := eq_true q76; have HX84 := zA.mk (show Kd.R k48 48 wc w.heap.size (fun _ => True) (.slice (some ⟨go76, 0, none⟩) x8_1.length co82) x8_1 from (aR HO_8))
    obtain ⟨ce84, hcl84, hM84, hcc84, hfr84⟩ := Kd.R_elem HX84.out z48 ((ji57) : Int) (aD) (by have h_ : ((ji57) : Int) < ((x8_1.length : Int) : Int) := aD; first | exact h_ | (have e_ := (Kd.zM HO_8.out).1; omega) | simpa using h_)
    obtain rfl := k48_openM hM84
    have HP84 := Kd.R_seg HX84.out ((ji57) : Int) (aD) (by have h_ : ((ji57) : Int) < ((x8_1.length : Int) : Int) := aD; first | exact h_ | (have e_ := (Kd.zM HO_8.out).1; omega) | simpa using h_) (seg := [.int .u8 0]) (j := 3) hcl84 hcc84 (show 4 ≤ 4 from by decide) (x' := (⟨(rd_T48 x8_1 (ji57)).f0, (rd_T48 x8_1 (ji57)).f1, (rd_T48 x8_1 (ji57)).f2, 0⟩ : S48)) (k48_mkM _ _ _ (⟨(rd_T48 x8_1 (ji57)).f0, (rd_T48 x8_1 (ji57)).f1, (rd_T48 x8_1 (ji57)).f2, 0⟩ : S48) ) (fun _ hk => hk)
    have hx84_3 := hcc84 3 _ rfl; (try simp only [show (k48).sz = 4 from rfl, Nat.mul_one, Nat.add_zero] at hx84_3)
    have hf84_3 := hfr84 3; (try simp only [show (k48).sz = 4 from rfl, Nat.mul_one, Nat.add_zero] at hf84_3)
    (try clear hcl84); (try clear hcc84); (try clear hfr84); (try clear hM84)
    try go_wp2_with (first | ((with_reducible refine gate_store (t := 46) (p := 63) rfl ?_); refine store_event (t := 46) (p := 63) (v := ?vo_w85) (w1 := (wc.setCell ⟨go76, ((ji57) : Int).toNat * 4 + 3, none⟩ (.int .u8 0))) ?hg ?ho ?hn ?hr ?_; (case ho => rfl); (case hg => rfl); (case hn => rfl); (case hr => first | (go_simp; done) | (go_simp; rfl)); intro w85 hw; have hg : wc.grownBy w85 (some go76) := (by rw [hw]; exact HP84.2); have hp_ : Kd.R k48 48 w85 w.heap.size (fun _ => True) (.slice (some ⟨go76, 0, none⟩) x8_1.length co82) y140 := (by rw [hw, Ny140.out]; exact HP84.1); clear HP84; replace HO_9 := zA.mk (Kd.R_over' (v := (.slice (some ⟨go76, 0, none⟩) x8_1.length co82)) (aR HO_9) (Kd.R_typed HO_8.out) (by decide) hg); replace BK111 := zA.mk (blk_grown (g := gb111) (o := .cells #[.int .i32 ((rd_T50 l0 x15_1).f0), .int .i64 ((rd_T50 l0 x15_1).f1), .int .i64 ((rd_T50 l0 x15_1).f2)] 50 (0, 0)) (aB BK111) hg (Kd.R_ne HO_8.out BK111.out (by decide))); replace HO_8 := zA.mk (hp_); replace HB := zA.mk ((by rw [hw]; exact below_set (HB.out) GB76.out : Below w.heap.size w w85)); clear hg hw hp_))
    replace HO_8 := zA.mk (Kd.zH HO_8.out); replace HO_9 := zA.mk (Kd.zH HO_9.out); replace BK111 := zA.mk (zC BK111.out); replace HB := zA.mk (below_drew1 HB.out); have p141 : 0 ≤ ((ji57) : Int) := aD
    have q141 : (ji57) < (y140.length : Int) := (by have h_ : ((ji57) : Int) < ((x8_1.length : Int) : Int) := aD; first | (have e_ := (Kd.zM HO_8.out).1; omega) | simpa only [Ny140.out, List.length_set] using h_)
    have ql141 : (((ji57) : Int) < ((x8_1.length : Int) : Int)) = True := eq_true (aD)
    obtain ⟨ad141, e141, hx141_0, hx141_1, hx141_2, hx141_3⟩ := at_T48 (Kd.zM HO_8.out).2.2 (ji57) p141 q141; obtain rfl : (⟨go76, 0, none⟩ : Addr) = ad141 := (by injection e141)
    (first | simp only [add_plain] at hx141_0 | simp only [add_at] at hx141_0 | simp only [Addr.add, Nat.zero_add] at hx141_0 | skip)
    (first | simp only [add_plain] at hx141_1 | simp only [add_at] at hx141_1 | simp only [Addr.add, Nat.zero_add] at hx141_1 | skip)
    (first | simp only [add_plain] at hx141_2 | simp only [add_at] at hx141_2 | simp only [Addr.add, Nat.zero_add] at hx141_2 | skip)
    (first | simp only [add_plain] at hx141_3 | simp only [add_at] at hx141_3 | simp only [Addr.add, Nat.zero_add] at hx141_3 | skip)
    replace p141 := eq_true p141; replace q141 := eq_true q141; have p77 : 0 ≤ ((ji57) : Int) := aD
    have q77 : ((ji57) : Int) < ((x8_1.length : Int) : Int) := aD
    obtain ⟨ce77, hcl77, hM77, hcc77, hfr77⟩ := Kd.R_elem HO_8.out z48 ((ji57) : Int) p77 q77; obtain rfl := k48_openM hM77
    have hx77_0 : World.cell? _ ⟨go76, ((ji57) : Int).toNat * 4, none⟩ = some (.int .i64 ((rd_T48 y140 (ji57)).f0)) := hcc77 0 _ rfl
    have hx77_1 : World.cell? _ ⟨go76, ((ji57) : Int).toNat * 4 + 1, none⟩ = some (.int .i64 ((rd_T48 y140 (ji57)).f1)) := hcc77 1 _ rfl
    have hx77_2 : World.cell? _ ⟨go76, ((ji57) : Int).toNat * 4 + 2, none⟩ = some (.int .i64 ((rd_T48 y140 (ji57)).f2)) := hcc77 2 _ rfl
    have hx77_3 : World.cell? _ ⟨go76, ((ji57) : Int).toNat * 4 + 3, none⟩ = some (.int .u8 ((rd_T48 y140 (ji57)).f3)) := hcc77 3 _ rfl
    have hf77_0 : World.frozen? _ ⟨go76, ((ji57) : Int).toNat * 4, none⟩ = false := hfr77 0
    have hf77_1 : World.frozen? _ ⟨go76, ((ji57) : Int).toNat * 4 + 1, none⟩ = false := hfr77 1
    have hf77_2 : World.frozen? _ ⟨go76, ((ji57) : Int).toNat * 4 + 2, none⟩ = false := hfr77 2
    have hf77_3 : World.frozen? _ ⟨go76, ((ji57) : Int).toNat * 4 + 3, none⟩ = false := hfr77 3
    (try clear hcl77); (try clear hcc77); (try clear hfr77); (try clear hM77)
    replace p77 := eq_true p77; replace q77 := eq_true q77; obtain ⟨cx87, gx87⟩ := Kd.R_typed HO_8.out _ rfl; have GG87_ := zA.mk gx87; clear gx87; obtain ⟨ce87, hcl87, hM87, hcc87, hfr87⟩ := Kd.R_elem HO_8.out z48 ((ji57) : Int) (aD) (by have h_ : ((ji57) : Int) < ((x8_1.length : Int) : Int) := aD; first | exact h_ | (have e_ := (Kd.zM HO_8.out).1; omega) | simpa using h_)
    obtain rfl := k48_openM hM87
    have HP87 := (Kd.R_seg HO_8.out ((ji57) : Int) (aD) (by have h_ : ((ji57) : Int) < ((x8_1.length : Int) : Int) := aD; first | exact h_ | (have e_ := (Kd.zM HO_8.out).1; omega) | simpa using h_) (seg := [.int .i64 (wrap64 (((rd_T48 y140 (ji57)).f1) + ((rd_T50 l0 x15_1).f2)))]) (j := 1) hcl87 hcc87 (show 2 ≤ 4 from by decide) (x' := (⟨(rd_T48 y140 (ji57)).f0, wrap64 (((rd_T48 y140 (ji57)).f1) + ((rd_T50 l0 x15_1).f2)), (rd_T48 y140 (ji57)).f2, (rd_T48 y140 (ji57)).f3⟩ : S48)) (k48_mkM _ _ _ (⟨(rd_T48 y140 (ji57)).f0, wrap64 (((rd_T48 y140 (ji57)).f1) + ((rd_T50 l0 x15_1).f2)), (rd_T48 y140 (ji57)).f2, (rd_T48 y140 (ji57)).f3⟩ : S48) ) (fun _ hk => hk)).1
    rw [← Ny142.out] at HP87; have HQ87 := zA.mk HP87; clear hcl87 hcc87 hfr87 hM87 HP87; refine start_ (n := 10) (S := fun w' => w'.cell? ⟨gb111, 0, none⟩ = some (.int .i32 ((rd_T50 l0 x15_1).f0)) ∧ w'.cell? ⟨gb111, 1, none⟩ = some (.int .i64 ((rd_T50 l0 x15_1).f1)) ∧ w'.cell? ⟨gb111, 2, none⟩ = some (.int .i64 ((rd_T50 l0 x15_1).f2)) ∧ w'.cell? ⟨go76, ((ji57)).toNat * 4, none⟩ = some (.int .i64 ((rd_T48 y140 (ji57)).f0)) ∧ w'.cell? ⟨go76, ((ji57)).toNat * 4 + 1, none⟩ = some (.int .i64 ((rd_T48 y140 (ji57)).f1)) ∧ w'.cell? ⟨go76, ((ji57)).toNat * 4 + 2, none⟩ = some (.int .i64 ((rd_T48 y140 (ji57)).f2)) ∧ w'.cell? ⟨go76, ((ji57)).toNat * 4 + 3, none⟩ = some (.int .u8 ((rd_T48 y140 (ji57)).f3))) (ds := [9]) #[false, false, false, false, false, false, false, false, false, false] (by kernel_rfl) rfl rfl ⟨(zE BK111.out 0).trans rfl, (zE BK111.out 1).trans rfl, (zE BK111.out 2).trans rfl, hx141_0, hx141_1, hx141_2, hx141_3⟩ (fun hHeld => ?_); refine with_tabW cells_Make.tab12 cells_Make.bits12 (fun HT_ HW_ => ?_)
    generalize w85.drew = w86 at HO_8 HO_9 BK111 HB GG87_ HQ87 hf77_0 hf77_1 hf77_2 hf77_3 hx141_0 hx141_1 hx141_2 hx141_3 hx77_0 hx77_1 hx77_2 hx77_3 hHeld ⊢
    refine aP 0 (some 64) (tf_ 1 10) HT_ ?_
    refine aP 1 (some 65) (tf_ 2 10) HT_ ?_
    refine aP 2 (some 66) (tf_ 3 10) HT_ ?_
    refine aP 4 (some 68) (tb_ 23 10) HT_ ?_
    refine take_ (i := 3) (N := some 67) (v := ?_) (a' := ?_) (tf_ 5 10) rfl rfl (take_ofW HT_.out HW_.out (by kernel_rfl)) (fun _ _ _ h => h) (Or.inl ⟨by rfl, ?_⟩) hHeld ?_ ?_
    rotate_left
    ·rintro w' ⟨s0, s1, s2, s3, s4, s5, s6⟩
     go_simp
     with_reducible rfl
    rotate_left
    ·simp only [Act.put, sA_, sB_, sC_, i64_w, i32_w]
     rfl
    refine take_ (i := 5) (N := some 69) (v := ?_) (a' := ?_) (tf_ 6 10) rfl rfl (take_ofW HT_.out HW_.out (by kernel_rfl)) (fun _ _ _ h => h) (Or.inl ⟨by rfl, ?_⟩) hHeld ?_ ?_
    rotate_left
    ·rintro w' ⟨s0, s1, s2, s3, s4, s5, s6⟩
     go_simp
     with_reducible rfl
    rotate_left
    ·simp only [Act.put, sA_, sB_, sC_, i64_w, i32_w]
     rfl
    refine aP 6 (some 70) (tf_ 7 10) HT_ ?_
    refine aP 7 (some 71) (tf_ 8 10) HT_ ?_
    refine aP 8 (some 72) (tf_ 9 10) HT_ ?_
    refine last_ (i := 9) (N := none) (tb_ 1023 10) rfl rfl (one_of HT_.out (by kernel_rfl)) (by decide) (fun K hK => ?_)
    refine skip_ (w1 := ?_) (by rfl) rfl ?_ ?_
    rotate_left
    ·go_simp
     rfl
    refine hK.out _ _ ?_
    clear hK K; refine done_ (done_of HT_.out (by kernel_rfl)) ?_
    try go_wp2
    have n0_ : zA (Kd.R k48 48 (w86.setCell ⟨go76, ((ji57) : Int).toNat * 4 + 1, none⟩ (.int .i64 (wrap64 (((rd_T48 y140 (ji57)).f1) + ((rd_T50 l0 x15_1).f2))))) w.heap.size (fun _ => True) (.slice (some ⟨go76, 0, none⟩) x8_1.length co82) y142) := ⟨aR HQ87⟩
    have n1_ : zA (Kd.R (Kd.int .i64) 3 (w86.setCell ⟨go76, ((ji57) : Int).toNat * 4 + 1, none⟩ (.int .i64 (wrap64 (((rd_T48 y140 (ji57)).f1) + ((rd_T50 l0 x15_1).f2))))) w.heap.size (fun _ => True) (.slice (some ad134) x9_1.length co83) x9_1) := ⟨by (with_reducible repeat (first | apply Kd.zF | apply Kd.zG | apply Kd.zH)); exact Kd.zR (Kd.zO (p := ⟨go76, ((ji57) : Int).toNat * 4 + 1, none⟩) (Kd.zS HO_9.out GG87_.out (by decide)) (fun _ hk => hk.2) (.int .i64 (wrap64 (((rd_T48 y140 (ji57)).f1) + ((rd_T50 l0 x15_1).f2))))) (fun _ hk => trivial)⟩
    have n2_ : zA ((w86.setCell ⟨go76, ((ji57) : Int).toNat * 4 + 1, none⟩ (.int .i64 (wrap64 (((rd_T48 y140 (ji57)).f1) + ((rd_T50 l0 x15_1).f2))))).heap[gb111]? = some (.cells #[.int .i32 ((rd_T50 l0 x15_1).f0), .int .i64 ((rd_T50 l0 x15_1).f1), .int .i64 ((rd_T50 l0 x15_1).f2)] 50 (0, 0))) := ⟨by (with_reducible repeat (first | refine zD ?_ _ | refine zC ?_ | refine zB ?_ _)); refine blk_far ?_ (by have h_ := Kd.R_ne HO_8.out BK111.out (by decide); intro e_; exact h_ (by rw [e_]; rfl)) _; (with_reducible repeat (first | refine zD ?_ _ | refine zC ?_ | refine zB ?_ _)); exact BK111.out⟩
    have n3_ : zA (Below w.heap.size w (w86.setCell ⟨go76, ((ji57) : Int).toNat * 4 + 1, none⟩ (.int .i64 (wrap64 (((rd_T48 y140 (ji57)).f1) + ((rd_T50 l0 x15_1).f2)))))) := ⟨aL HB⟩
    (try clear HO_8)
    (try clear HO_9)
    (try clear BK111)
    (try clear HB)
    generalize (w86.setCell ⟨go76, ((ji57) : Int).toNat * 4 + 1, none⟩ (.int .i64 (wrap64 (((rd_T48 y140 (ji57)).f1) + ((rd_T50 l0 x15_1).f2))))) = w88 at n0_ n1_ n2_ n3_ ⊢
    have HO_8 := n0_; have HO_9 := n1_; have BK111 := n2_; have HB := n3_; clear n0_ n1_ n2_ n3_; replace HO_8 := zA.mk (Kd.zH HO_8.out); replace HO_9 := zA.mk (Kd.zH HO_9.out); replace BK111 := zA.mk (zC BK111.out); replace HB := zA.mk (below_drew1 HB.out); have p143 : 0 ≤ ((ji57) : Int) := aD
    have q143 : (ji57) < (y142.length : Int) := (by have h_ : ((ji57) : Int) < ((x8_1.length : Int) : Int) := aD; first | (have e_ := (Kd.zM HO_8.out).1; omega) | simpa only [Ny140.out, Ny142.out, List.length_set] using h_)
    have ql143 : (((ji57) : Int) < ((x8_1.length : Int) : Int)) = True := eq_true (aD)
    obtain ⟨ad143, e143, hx143_0, hx143_1, hx143_2, hx143_3⟩ := at_T48 (Kd.zM HO_8.out).2.2 (ji57) p143 q143; obtain rfl : (⟨go76, 0, none⟩ : Addr) = ad143 := (by injection e143)
    (first | simp only [add_plain] at hx143_0 | simp only [add_at] at hx143_0 | simp only [Addr.add, Nat.zero_add] at hx143_0 | skip)
    (first | simp only [add_plain] at hx143_1 | simp only [add_at] at hx143_1 | simp only [Addr.add, Nat.zero_add] at hx143_1 | skip)
    (first | simp only [add_plain] at hx143_2 | simp only [add_at] at hx143_2 | simp only [Addr.add, Nat.zero_add] at hx143_2 | skip)
    (first | simp only [add_plain] at hx143_3 | simp only [add_at] at hx143_3 | simp only [Addr.add, Nat.zero_add] at hx143_3 | skip)
    replace p143 := eq_true p143; replace q143 := eq_true q143; refine start_ (n := 14) (S := fun w' => w'.cell? ⟨gb111, 0, none⟩ = some (.int .i32 ((rd_T50 l0 x15_1).f0)) ∧ w'.cell? ⟨gb111, 1, none⟩ = some (.int .i64 ((rd_T50 l0 x15_1).f1)) ∧ w'.cell? ⟨gb111, 2, none⟩ = some (.int .i64 ((rd_T50 l0 x15_1).f2)) ∧ w'.cell? ⟨go76, ((ji57)).toNat * 4, none⟩ = some (.int .i64 ((rd_T48 y142 (ji57)).f0)) ∧ w'.cell? ⟨go76, ((ji57)).toNat * 4 + 1, none⟩ = some (.int .i64 ((rd_T48 y142 (ji57)).f1)) ∧ w'.cell? ⟨go76, ((ji57)).toNat * 4 + 2, none⟩ = some (.int .i64 ((rd_T48 y142 (ji57)).f2)) ∧ w'.cell? ⟨go76, ((ji57)).toNat * 4 + 3, none⟩ = some (.int .u8 ((rd_T48 y142 (ji57)).f3))) (ds := [13]) #[false, false, false, false, false, false, false, false, false, false, false, false, false, false] (by kernel_rfl) rfl rfl ⟨(zE BK111.out 0).trans rfl, (zE BK111.out 1).trans rfl, (zE BK111.out 2).trans rfl, hx143_0, hx143_1, hx143_2, hx143_3⟩ (fun hHeld => ?_); refine with_tabW cells_Make.tab13 cells_Make.bits13 (fun HT_ HW_ => ?_)
    generalize w88.drew = w89 at HO_8 HO_9 BK111 HB HQ87 hx143_0 hx143_1 hx143_2 hx143_3 hHeld ⊢
    refine aP 0 (some 73) (tf_ 1 14) HT_ ?_
    refine aP 1 (some 74) (tf_ 2 14) HT_ ?_
    refine aP 2 (some 75) (tf_ 3 14) HT_ ?_
    refine aP 3 (some 76) (tf_ 4 14) HT_ ?_
    refine aP 5 (some 78) (tb_ 47 14) HT_ ?_
    refine aP 6 (some 79) (tb_ 111 14) HT_ ?_
    refine take_ (i := 4) (N := some 77) (v := ?_) (a' := ?_) (tf_ 7 14) rfl rfl (take_ofW HT_.out HW_.out (by kernel_rfl)) (fun _ _ _ h => h) (Or.inl ⟨by rfl, ?_⟩) hHeld ?_ ?_
    rotate_left
    ·rintro w' ⟨s0, s1, s2, s3, s4, s5, s6⟩
     go_simp
     with_reducible rfl
    rotate_left
    ·simp only [Act.put, sA_, sB_, sC_, i64_w, i32_w]
     rfl
    refine take_ (i := 7) (N := some 80) (v := ?_) (a' := ?_) (tf_ 8 14) rfl rfl (take_ofW HT_.out HW_.out (by kernel_rfl)) (fun _ _ _ h => h) (Or.inl ⟨by rfl, ?_⟩) hHeld ?_ ?_
    rotate_left
    ·rintro w' ⟨s0, s1, s2, s3, s4, s5, s6⟩
     go_simp
     with_reducible rfl
    rotate_left
    ·simp only [Act.put, sA_, sB_, sC_, i64_w, i32_w]
     rfl
    refine one_ (i := 8) (N := some 81) (tb_ 511 14) rfl rfl (one_of HT_.out (by kernel_rfl)) (by decide) (fun K hK => ?_)
    refine goes_ Try.func22 (by kernel_rfl) rfl #[vt2_, .int .i32 ((rd_T50 l0 x15_1).f0)] (by rfl) rfl rfl aT ?_
    with_reducible refine (prop_Table_Of.calls vt2_ a2 ((rd_T50 l0 x15_1).f0) t144 _ ?side1 A78.out).mono ?_
    (case side1 => exact TabAt.below HTa2.out (aL HB))
    rintro e w' ⟨rfl, ⟨nd, rfl⟩⟩
    refine ⟨_, rfl, ?_⟩
    have p81 : 0 ≤ ((ji57) : Int) := aD
    have q81 : ((ji57) : Int) < ((x8_1.length : Int) : Int) := aD
    obtain ⟨ce81, hcl81, hM81, hcc81, hfr81⟩ := Kd.R_elem HO_8.out z48 ((ji57) : Int) p81 q81; obtain rfl := k48_openM hM81
    have hx81_0 : World.cell? _ ⟨go76, ((ji57) : Int).toNat * 4, none⟩ = some (.int .i64 ((rd_T48 y142 (ji57)).f0)) := hcc81 0 _ rfl
    have hx81_1 : World.cell? _ ⟨go76, ((ji57) : Int).toNat * 4 + 1, none⟩ = some (.int .i64 ((rd_T48 y142 (ji57)).f1)) := hcc81 1 _ rfl
    have hx81_2 : World.cell? _ ⟨go76, ((ji57) : Int).toNat * 4 + 2, none⟩ = some (.int .i64 ((rd_T48 y142 (ji57)).f2)) := hcc81 2 _ rfl
    have hx81_3 : World.cell? _ ⟨go76, ((ji57) : Int).toNat * 4 + 3, none⟩ = some (.int .u8 ((rd_T48 y142 (ji57)).f3)) := hcc81 3 _ rfl
    have hf81_0 : World.frozen? _ ⟨go76, ((ji57) : Int).toNat * 4, none⟩ = false := hfr81 0
    have hf81_1 : World.frozen? _ ⟨go76, ((ji57) : Int).toNat * 4 + 1, none⟩ = false := hfr81 1
    have hf81_2 : World.frozen? _ ⟨go76, ((ji57) : Int).toNat * 4 + 2, none⟩ = false := hfr81 2
    have hf81_3 : World.frozen? _ ⟨go76, ((ji57) : Int).toNat * 4 + 3, none⟩ = false := hfr81 3
    (try clear hcl81); (try clear hcc81); (try clear hfr81); (try clear hM81)
    replace p81 := eq_true p81; replace q81 := eq_true q81; obtain ⟨cx90, gx90⟩ := Kd.R_typed HO_8.out _ rfl; have GG90_ := zA.mk gx90; clear gx90; obtain ⟨ce90, hcl90, hM90, hcc90, hfr90⟩ := Kd.R_elem HO_8.out z48 ((ji57) : Int) (aD) (by have h_ : ((ji57) : Int) < ((x8_1.length : Int) : Int) := aD; first | exact h_ | (have e_ := (Kd.zM HO_8.out).1; omega) | simpa using h_)
    obtain rfl := k48_openM hM90
    have HP90 := (Kd.R_seg HO_8.out ((ji57) : Int) (aD) (by have h_ : ((ji57) : Int) < ((x8_1.length : Int) : Int) := aD; first | exact h_ | (have e_ := (Kd.zM HO_8.out).1; omega) | simpa using h_) (seg := [.int .i64 ji80]) (j := 2) hcl90 hcc90 (show 3 ≤ 4 from by decide) (x' := (⟨(rd_T48 y142 (ji57)).f0, (rd_T48 y142 (ji57)).f1, ji80, (rd_T48 y142 (ji57)).f3⟩ : S48)) (k48_mkM _ _ _ (⟨(rd_T48 y142 (ji57)).f0, (rd_T48 y142 (ji57)).f1, ji80, (rd_T48 y142 (ji57)).f3⟩ : S48) ) (fun _ hk => hk)).1
    rw [← Ny145.out] at HP90; have HQ90 := zA.mk HP90; clear hcl90 hcc90 hfr90 hM90 HP90; refine hK.out _ _ ⟨(zE BK111.out 0).trans rfl, (zE BK111.out 1).trans rfl, (zE BK111.out 2).trans rfl, hHeld.2.2.2.1, hHeld.2.2.2.2.1, hHeld.2.2.2.2.2.1, hHeld.2.2.2.2.2.2⟩ (fun hHeld => ?_)
    clear hK K; refine norm_ (a' := ?_) ?_ ?_
    rotate_left
    ·show Act.put _ (some 81) _ = _
     simp only [Act.put, sA_, sB_, sC_, i64_w, i32_w]; rfl
    refine aP 9 (some 82) (tf_ 10 14) HT_ ?_
    refine aP 10 (some 83) (tf_ 11 14) HT_ ?_
    refine aP 11 (some 84) (tf_ 12 14) HT_ ?_
    refine aP 12 (some 85) (tf_ 13 14) HT_ ?_
    refine last_ (i := 13) (N := none) (tb_ 16383 14) rfl rfl (one_of HT_.out (by kernel_rfl)) (by decide) (fun K hK => ?_)
    refine skip_ (w1 := ?_) (by rfl) rfl ?_ ?_
    rotate_left
    ·go_simp
     rfl
    refine hK.out _ _ ?_
    clear hK K; refine done_ (done_of HT_.out (by kernel_rfl)) ?_
    try go_wp2
    go_roundg kj6
    case measure => have := HK1.out; have := HJ6.out; omega
    case rel => exact ⟨(y145), (x9_1), (wrap64 (x15_1 + 1)), aZ, H', ⟨by have := HK1.out; have := HJ6.out; omega⟩, ⟨aR HQ90⟩, ⟨by (with_reducible repeat (first | apply Kd.zF | apply Kd.zG | apply Kd.zH)); exact Kd.zR (Kd.zO (p := ⟨go76, ((ji57) : Int).toNat * 4 + 2, none⟩) (Kd.zS HO_9.out GG90_.out (by decide)) (fun _ hk => hk.2) (.int .i64 ji80)) (fun _ hk => trivial)⟩, ⟨aL HB⟩⟩
   subst c13; have H1 : ((cells_kind.f ((rd_T50 l0 x15_1).f0)).bind fun t113 => (if x8_1.length < 4398046511104 then ((some (x8_1 ++ [(⟨((rd_T50 l0 x15_1).f1), 0, 0, t113⟩ : S48)] : List (S48))).bind fun y114 => (if x9_1.length < 17592186044416 then ((some (x9_1 ++ [x15_1] : List Int)).bind fun y117 => (if 0 ≤ (wrap64 ((y114.length : Int) - 1)) then (if (wrap64 ((y114.length : Int) - 1)) < (y114.length : Int) then (if 0 ≤ (wrap64 ((y117.length : Int) - 1)) then (if (wrap64 ((y117.length : Int) - 1)) < (y117.length : Int) then (if (rd y117 (wrap64 ((y117.length : Int) - 1))) = x15_1 then ((some (y114.set ((wrap64 ((y114.length : Int) - 1)) : Int).toNat (⟨(rd_T48 y114 (wrap64 ((y114.length : Int) - 1))).f0, wrap64 (((rd_T48 y114 (wrap64 ((y114.length : Int) - 1))).f1) + ((rd_T50 l0 x15_1).f2)), (rd_T48 y114 (wrap64 ((y114.length : Int) - 1))).f2, (rd_T48 y114 (wrap64 ((y114.length : Int) - 1))).f3⟩ : S48) : List (S48))).bind fun y123 => ((prop_Table_Of.f a2 ((rd_T50 l0 x15_1).f0)).bind fun t125 => (cells_Make.l0 kj6 l0 l1 a2 (y123.set ((wrap64 ((y114.length : Int) - 1)) : Int).toNat (⟨(rd_T48 y123 (wrap64 ((y114.length : Int) - 1))).f0, (rd_T48 y123 (wrap64 ((y114.length : Int) - 1))).f1, mx ((rd_T48 y123 (wrap64 ((y114.length : Int) - 1))).f2) (mn t125 2), (rd_T48 y123 (wrap64 ((y114.length : Int) - 1))).f3⟩ : S48)) y117 l0 (l0.length : Int) (wrap64 (x15_1 + 1))))) else ((some (y114.set ((wrap64 ((y114.length : Int) - 1)) : Int).toNat (⟨(rd_T48 y114 (wrap64 ((y114.length : Int) - 1))).f0, (rd_T48 y114 (wrap64 ((y114.length : Int) - 1))).f1, (rd_T48 y114 (wrap64 ((y114.length : Int) - 1))).f2, 0⟩ : S48) : List (S48))).bind fun y127 => ((some (y127.set ((wrap64 ((y114.length : Int) - 1)) : Int).toNat (⟨(rd_T48 y127 (wrap64 ((y114.length : Int) - 1))).f0, wrap64 (((rd_T48 y127 (wrap64 ((y114.length : Int) - 1))).f1) + ((rd_T50 l0 x15_1).f2)), (rd_T48 y127 (wrap64 ((y114.length : Int) - 1))).f2, (rd_T48 y127 (wrap64 ((y114.length : Int) - 1))).f3⟩ : S48) : List (S48))).bind fun y129 => ((prop_Table_Of.f a2 ((rd_T50 l0 x15_1).f0)).bind fun t131 => (cells_Make.l0 kj6 l0 l1 a2 (y129.set ((wrap64 ((y114.length : Int) - 1)) : Int).toNat (⟨(rd_T48 y129 (wrap64 ((y114.length : Int) - 1))).f0, (rd_T48 y129 (wrap64 ((y114.length : Int) - 1))).f1, mx ((rd_T48 y129 (wrap64 ((y114.length : Int) - 1))).f2) (mn t131 2), (rd_T48 y129 (wrap64 ((y114.length : Int) - 1))).f3⟩ : S48)) y117 l0 (l0.length : Int) (wrap64 (x15_1 + 1))))))) else (none)) else (none)) else (none)) else (none))) else (none))) else (none))) = some (r1, r2) := by rw [if_pos rfl] at H; exact H
   clear H; have H := H1; clear H1; replace H := Option.bind_eq_some_iff.mp H; obtain ⟨t113, A140, H⟩ := H; replace H : (if x8_1.length < 4398046511104 then ((some (x8_1 ++ [(⟨((rd_T50 l0 x15_1).f1), 0, 0, t113⟩ : S48)] : List (S48))).bind fun y114 => (if x9_1.length < 17592186044416 then ((some (x9_1 ++ [x15_1] : List Int)).bind fun y117 => (if 0 ≤ (wrap64 ((y114.length : Int) - 1)) then (if (wrap64 ((y114.length : Int) - 1)) < (y114.length : Int) then (if 0 ≤ (wrap64 ((y117.length : Int) - 1)) then (if (wrap64 ((y117.length : Int) - 1)) < (y117.length : Int) then (if (rd y117 (wrap64 ((y117.length : Int) - 1))) = x15_1 then ((some (y114.set ((wrap64 ((y114.length : Int) - 1)) : Int).toNat (⟨(rd_T48 y114 (wrap64 ((y114.length : Int) - 1))).f0, wrap64 (((rd_T48 y114 (wrap64 ((y114.length : Int) - 1))).f1) + ((rd_T50 l0 x15_1).f2)), (rd_T48 y114 (wrap64 ((y114.length : Int) - 1))).f2, (rd_T48 y114 (wrap64 ((y114.length : Int) - 1))).f3⟩ : S48) : List (S48))).bind fun y123 => ((prop_Table_Of.f a2 ((rd_T50 l0 x15_1).f0)).bind fun t125 => (cells_Make.l0 kj6 l0 l1 a2 (y123.set ((wrap64 ((y114.length : Int) - 1)) : Int).toNat (⟨(rd_T48 y123 (wrap64 ((y114.length : Int) - 1))).f0, (rd_T48 y123 (wrap64 ((y114.length : Int) - 1))).f1, mx ((rd_T48 y123 (wrap64 ((y114.length : Int) - 1))).f2) (mn t125 2), (rd_T48 y123 (wrap64 ((y114.length : Int) - 1))).f3⟩ : S48)) y117 l0 (l0.length : Int) (wrap64 (x15_1 + 1))))) else ((some (y114.set ((wrap64 ((y114.length : Int) - 1)) : Int).toNat (⟨(rd_T48 y114 (wrap64 ((y114.length : Int) - 1))).f0, (rd_T48 y114 (wrap64 ((y114.length : Int) - 1))).f1, (rd_T48 y114 (wrap64 ((y114.length : Int) - 1))).f2, 0⟩ : S48) : List (S48))).bind fun y127 => ((some (y127.set ((wrap64 ((y114.length : Int) - 1)) : Int).toNat (⟨(rd_T48 y127 (wrap64 ((y114.length : Int) - 1))).f0, wrap64 (((rd_T48 y127 (wrap64 ((y114.length : Int) - 1))).f1) + ((rd_T50 l0 x15_1).f2)), (rd_T48 y127 (wrap64 ((y114.length : Int) - 1))).f2, (rd_T48 y127 (wrap64 ((y114.length : Int) - 1))).f3⟩ : S48) : List (S48))).bind fun y129 => ((prop_Table_Of.f a2 ((rd_T50 l0 x15_1).f0)).bind fun t131 => (cells_Make.l0 kj6 l0 l1 a2 (y129.set ((wrap64 ((y114.length : Int) - 1)) : Int).toNat (⟨(rd_T48 y129 (wrap64 ((y114.length : Int) - 1))).f0, (rd_T48 y129 (wrap64 ((y114.length : Int) - 1))).f1, mx ((rd_T48 y129 (wrap64 ((y114.length : Int) - 1))).f2) (mn t131 2), (rd_T48 y129 (wrap64 ((y114.length : Int) - 1))).f3⟩ : S48)) y117 l0 (l0.length : Int) (wrap64 (x15_1 + 1))))))) else (none)) else (none)) else (none)) else (none))) else (none))) else (none)) = some (r1, r2) := H
   have A14 := zA.mk A140; clear A140; by_cases c15 : x8_1.length < 4398046511104
   rotate_left
   ·rw [if_neg c15] at H
    exact absurd H (by simp)
   rw [if_pos c15] at H; have LMc15 := zA.mk c15; clear c15; obtain ⟨y114, hy114⟩ : ∃ y_ : List (S48), y_ = (x8_1 ++ [(⟨((rd_T50 l0 x15_1).f1), 0, 0, t113⟩ : S48)]) := ⟨_, rfl⟩; replace H : (if x9_1.length < 17592186044416 then ((some (x9_1 ++ [x15_1] : List Int)).bind fun y117 => (if 0 ≤ (wrap64 ((y114.length : Int) - 1)) then (if (wrap64 ((y114.length : Int) - 1)) < (y114.length : Int) then (if 0 ≤ (wrap64 ((y117.length : Int) - 1)) then (if (wrap64 ((y117.length : Int) - 1)) < (y117.length : Int) then (if (rd y117 (wrap64 ((y117.length : Int) - 1))) = x15_1 then ((some (y114.set ((wrap64 ((y114.length : Int) - 1)) : Int).toNat (⟨(rd_T48 y114 (wrap64 ((y114.length : Int) - 1))).f0, wrap64 (((rd_T48 y114 (wrap64 ((y114.length : Int) - 1))).f1) + ((rd_T50 l0 x15_1).f2)), (rd_T48 y114 (wrap64 ((y114.length : Int) - 1))).f2, (rd_T48 y114 (wrap64 ((y114.length : Int) - 1))).f3⟩ : S48) : List (S48))).bind fun y123 => ((prop_Table_Of.f a2 ((rd_T50 l0 x15_1).f0)).bind fun t125 => (cells_Make.l0 kj6 l0 l1 a2 (y123.set ((wrap64 ((y114.length : Int) - 1)) : Int).toNat (⟨(rd_T48 y123 (wrap64 ((y114.length : Int) - 1))).f0, (rd_T48 y123 (wrap64 ((y114.length : Int) - 1))).f1, mx ((rd_T48 y123 (wrap64 ((y114.length : Int) - 1))).f2) (mn t125 2), (rd_T48 y123 (wrap64 ((y114.length : Int) - 1))).f3⟩ : S48)) y117 l0 (l0.length : Int) (wrap64 (x15_1 + 1))))) else ((some (y114.set ((wrap64 ((y114.length : Int) - 1)) : Int).toNat (⟨(rd_T48 y114 (wrap64 ((y114.length : Int) - 1))).f0, (rd_T48 y114 (wrap64 ((y114.length : Int) - 1))).f1, (rd_T48 y114 (wrap64 ((y114.length : Int) - 1))).f2, 0⟩ : S48) : List (S48))).bind fun y127 => ((some (y127.set ((wrap64 ((y114.length : Int) - 1)) : Int).toNat (⟨(rd_T48 y127 (wrap64 ((y114.length : Int) - 1))).f0, wrap64 (((rd_T48 y127 (wrap64 ((y114.length : Int) - 1))).f1) + ((rd_T50 l0 x15_1).f2)), (rd_T48 y127 (wrap64 ((y114.length : Int) - 1))).f2, (rd_T48 y127 (wrap64 ((y114.length : Int) - 1))).f3⟩ : S48) : List (S48))).bind fun y129 => ((prop_Table_Of.f a2 ((rd_T50 l0 x15_1).f0)).bind fun t131 => (cells_Make.l0 kj6 l0 l1 a2 (y129.set ((wrap64 ((y114.length : Int) - 1)) : Int).toNat (⟨(rd_T48 y129 (wrap64 ((y114.length : Int) - 1))).f0, (rd_T48 y129 (wrap64 ((y114.length : Int) - 1))).f1, mx ((rd_T48 y129 (wrap64 ((y114.length : Int) - 1))).f2) (mn t131 2), (rd_T48 y129 (wrap64 ((y114.length : Int) - 1))).f3⟩ : S48)) y117 l0 (l0.length : Int) (wrap64 (x15_1 + 1))))))) else (none)) else (none)) else (none)) else (none))) else (none)) = some (r1, r2) := by first | (rw [hy114]; with_reducible exact H) | (have H2_ := (Option.bind_some _ _).symm.trans H; rw [hy114]; with_reducible exact H2_) | (have H2_ := (Option.bind_some _ _).symm.trans H; with_reducible exact H2_) | with_reducible exact H | (rw [hy114]; exact H) | exact H
   have Ny114 := zA.mk hy114; clear hy114; by_cases c16 : x9_1.length < 17592186044416
   rotate_left
   ·rw [if_neg c16] at H
    exact absurd H (by simp)
   rw [if_pos c16] at H; have LMc16 := zA.mk c16; clear c16; obtain ⟨y117, hy117⟩ : ∃ y_ : List Int, y_ = (x9_1 ++ [x15_1]) := ⟨_, rfl⟩; replace H : (if 0 ≤ (wrap64 ((y114.length : Int) - 1)) then (if (wrap64 ((y114.length : Int) - 1)) < (y114.length : Int) then (if 0 ≤ (wrap64 ((y117.length : Int) - 1)) then (if (wrap64 ((y117.length : Int) - 1)) < (y117.length : Int) then (if (rd y117 (wrap64 ((y117.length : Int) - 1))) = x15_1 then ((some (y114.set ((wrap64 ((y114.length : Int) - 1)) : Int).toNat (⟨(rd_T48 y114 (wrap64 ((y114.length : Int) - 1))).f0, wrap64 (((rd_T48 y114 (wrap64 ((y114.length : Int) - 1))).f1) + ((rd_T50 l0 x15_1).f2)), (rd_T48 y114 (wrap64 ((y114.length : Int) - 1))).f2, (rd_T48 y114 (wrap64 ((y114.length : Int) - 1))).f3⟩ : S48) : List (S48))).bind fun y123 => ((prop_Table_Of.f a2 ((rd_T50 l0 x15_1).f0)).bind fun t125 => (cells_Make.l0 kj6 l0 l1 a2 (y123.set ((wrap64 ((y114.length : Int) - 1)) : Int).toNat (⟨(rd_T48 y123 (wrap64 ((y114.length : Int) - 1))).f0, (rd_T48 y123 (wrap64 ((y114.length : Int) - 1))).f1, mx ((rd_T48 y123 (wrap64 ((y114.length : Int) - 1))).f2) (mn t125 2), (rd_T48 y123 (wrap64 ((y114.length : Int) - 1))).f3⟩ : S48)) y117 l0 (l0.length : Int) (wrap64 (x15_1 + 1))))) else ((some (y114.set ((wrap64 ((y114.length : Int) - 1)) : Int).toNat (⟨(rd_T48 y114 (wrap64 ((y114.length : Int) - 1))).f0, (rd_T48 y114 (wrap64 ((y114.length : Int) - 1))).f1, (rd_T48 y114 (wrap64 ((y114.length : Int) - 1))).f2, 0⟩ : S48) : List (S48))).bind fun y127 => ((some (y127.set ((wrap64 ((y114.length : Int) - 1)) : Int).toNat (⟨(rd_T48 y127 (wrap64 ((y114.length : Int) - 1))).f0, wrap64 (((rd_T48 y127 (wrap64 ((y114.length : Int) - 1))).f1) + ((rd_T50 l0 x15_1).f2)), (rd_T48 y127 (wrap64 ((y114.length : Int) - 1))).f2, (rd_T48 y127 (wrap64 ((y114.length : Int) - 1))).f3⟩ : S48) : List (S48))).bind fun y129 => ((prop_Table_Of.f a2 ((rd_T50 l0 x15_1).f0)).bind fun t131 => (cells_Make.l0 kj6 l0 l1 a2 (y129.set ((wrap64 ((y114.length : Int) - 1)) : Int).toNat (⟨(rd_T48 y129 (wrap64 ((y114.length : Int) - 1))).f0, (rd_T48 y129 (wrap64 ((y114.length : Int) - 1))).f1, mx ((rd_T48 y129 (wrap64 ((y114.length : Int) - 1))).f2) (mn t131 2), (rd_T48 y129 (wrap64 ((y114.length : Int) - 1))).f3⟩ : S48)) y117 l0 (l0.length : Int) (wrap64 (x15_1 + 1))))))) else (none)) else (none)) else (none)) else (none)) = some (r1, r2) := by first | (rw [hy117]; with_reducible exact H) | (have H2_ := (Option.bind_some _ _).symm.trans H; rw [hy117]; with_reducible exact H2_) | (have H2_ := (Option.bind_some _ _).symm.trans H; with_reducible exact H2_) | with_reducible exact H | (rw [hy117]; exact H) | exact H
   have Ny117 := zA.mk hy117; clear hy117; obtain ⟨ji17, hji17⟩ : ∃ j_ : Int, (wrap64 ((y114.length : Int) - 1)) = j_ := ⟨_, rfl⟩; replace H : (if 0 ≤ (ji17) then (if (ji17) < (y114.length : Int) then (if 0 ≤ (wrap64 ((y117.length : Int) - 1)) then (if (wrap64 ((y117.length : Int) - 1)) < (y117.length : Int) then (if (rd y117 (wrap64 ((y117.length : Int) - 1))) = x15_1 then ((some (y114.set ((ji17) : Int).toNat (⟨(rd_T48 y114 (ji17)).f0, wrap64 (((rd_T48 y114 (ji17)).f1) + ((rd_T50 l0 x15_1).f2)), (rd_T48 y114 (ji17)).f2, (rd_T48 y114 (ji17)).f3⟩ : S48) : List (S48))).bind fun y123 => ((prop_Table_Of.f a2 ((rd_T50 l0 x15_1).f0)).bind fun t125 => (cells_Make.l0 kj6 l0 l1 a2 (y123.set ((ji17) : Int).toNat (⟨(rd_T48 y123 (ji17)).f0, (rd_T48 y123 (ji17)).f1, mx ((rd_T48 y123 (ji17)).f2) (mn t125 2), (rd_T48 y123 (ji17)).f3⟩ : S48)) y117 l0 (l0.length : Int) (wrap64 (x15_1 + 1))))) else ((some (y114.set ((ji17) : Int).toNat (⟨(rd_T48 y114 (ji17)).f0, (rd_T48 y114 (ji17)).f1, (rd_T48 y114 (ji17)).f2, 0⟩ : S48) : List (S48))).bind fun y127 => ((some (y127.set ((ji17) : Int).toNat (⟨(rd_T48 y127 (ji17)).f0, wrap64 (((rd_T48 y127 (ji17)).f1) + ((rd_T50 l0 x15_1).f2)), (rd_T48 y127 (ji17)).f2, (rd_T48 y127 (ji17)).f3⟩ : S48) : List (S48))).bind fun y129 => ((prop_Table_Of.f a2 ((rd_T50 l0 x15_1).f0)).bind fun t131 => (cells_Make.l0 kj6 l0 l1 a2 (y129.set ((ji17) : Int).toNat (⟨(rd_T48 y129 (ji17)).f0, (rd_T48 y129 (ji17)).f1, mx ((rd_T48 y129 (ji17)).f2) (mn t131 2), (rd_T48 y129 (ji17)).f3⟩ : S48)) y117 l0 (l0.length : Int) (wrap64 (x15_1 + 1))))))) else (none)) else (none)) else (none)) else (none)) = some (r1, r2) := by first | (rw [hji17] at H; exact H) | (simp only [hji17] at H ⊢; exact H)
   (try rw [hji17] at A14)
   have hji17w : (IntKind.i64.wrap ((y114.length : Int) - 1)) = ji17 := (i64_w _).trans hji17
   by_cases c18 : 0 ≤ (ji17)
   rotate_left
   ·rw [if_neg c18] at H
    exact absurd H (by simp)
   rw [if_pos c18] at H; have c18b0 : decide (0 ≤ (ji17)) = true := decide_eq_true c18
   clear c18; by_cases c19 : (ji17) < (y114.length : Int)
   rotate_left
   ·rw [if_neg c19] at H
    exact absurd H (by simp)
   rw [if_pos c19] at H; have c19b0 : decide ((ji17) < (y114.length : Int)) = true := decide_eq_true c19
   clear c19; obtain ⟨ji20, hji20⟩ : ∃ j_ : Int, (wrap64 ((y117.length : Int) - 1)) = j_ := ⟨_, rfl⟩; replace H : (if 0 ≤ (ji20) then (if (ji20) < (y117.length : Int) then (if (rd y117 (ji20)) = x15_1 then ((some (y114.set ((ji17) : Int).toNat (⟨(rd_T48 y114 (ji17)).f0, wrap64 (((rd_T48 y114 (ji17)).f1) + ((rd_T50 l0 x15_1).f2)), (rd_T48 y114 (ji17)).f2, (rd_T48 y114 (ji17)).f3⟩ : S48) : List (S48))).bind fun y123 => ((prop_Table_Of.f a2 ((rd_T50 l0 x15_1).f0)).bind fun t125 => (cells_Make.l0 kj6 l0 l1 a2 (y123.set ((ji17) : Int).toNat (⟨(rd_T48 y123 (ji17)).f0, (rd_T48 y123 (ji17)).f1, mx ((rd_T48 y123 (ji17)).f2) (mn t125 2), (rd_T48 y123 (ji17)).f3⟩ : S48)) y117 l0 (l0.length : Int) (wrap64 (x15_1 + 1))))) else ((some (y114.set ((ji17) : Int).toNat (⟨(rd_T48 y114 (ji17)).f0, (rd_T48 y114 (ji17)).f1, (rd_T48 y114 (ji17)).f2, 0⟩ : S48) : List (S48))).bind fun y127 => ((some (y127.set ((ji17) : Int).toNat (⟨(rd_T48 y127 (ji17)).f0, wrap64 (((rd_T48 y127 (ji17)).f1) + ((rd_T50 l0 x15_1).f2)), (rd_T48 y127 (ji17)).f2, (rd_T48 y127 (ji17)).f3⟩ : S48) : List (S48))).bind fun y129 => ((prop_Table_Of.f a2 ((rd_T50 l0 x15_1).f0)).bind fun t131 => (cells_Make.l0 kj6 l0 l1 a2 (y129.set ((ji17) : Int).toNat (⟨(rd_T48 y129 (ji17)).f0, (rd_T48 y129 (ji17)).f1, mx ((rd_T48 y129 (ji17)).f2) (mn t131 2), (rd_T48 y129 (ji17)).f3⟩ : S48)) y117 l0 (l0.length : Int) (wrap64 (x15_1 + 1))))))) else (none)) else (none)) = some (r1, r2) := by first | (rw [hji20] at H; exact H) | (simp only [hji20] at H ⊢; exact H)
   (try rw [hji20] at A14)
   have hji20w : (IntKind.i64.wrap ((y117.length : Int) - 1)) = ji20 := (i64_w _).trans hji20
   by_cases c21 : 0 ≤ (ji20)
   rotate_left
   ·rw [if_neg c21] at H
    exact absurd H (by simp)
   rw [if_pos c21] at H; have c21b0 : decide (0 ≤ (ji20)) = true := decide_eq_true c21
   clear c21; by_cases c22 : (ji20) < (y117.length : Int)
   rotate_left
   ·rw [if_neg c22] at H
    exact absurd H (by simp)
   rw [if_pos c22] at H; have c22b0 : decide ((ji20) < (y117.length : Int)) = true := decide_eq_true c22
   clear c22; by_cases c23 : (rd y117 (ji20)) = x15_1
   ·rw [if_pos c23] at H
    have c23b0 : ((rd y117 (ji20)) == x15_1) = true := beq_iff_eq.mpr c23
    have c23b1 : ((rd y117 (ji20)) != x15_1) = false := bne_eq_false_iff_eq.mpr c23
    clear c23; obtain ⟨y123, hy123⟩ : ∃ y_ : List (S48), y_ = (y114.set ((ji17) : Int).toNat (⟨(rd_T48 y114 (ji17)).f0, wrap64 (((rd_T48 y114 (ji17)).f1) + ((rd_T50 l0 x15_1).f2)), (rd_T48 y114 (ji17)).f2, (rd_T48 y114 (ji17)).f3⟩ : S48)) := ⟨_, rfl⟩; replace H : ((prop_Table_Of.f a2 ((rd_T50 l0 x15_1).f0)).bind fun t125 => (cells_Make.l0 kj6 l0 l1 a2 (y123.set ((ji17) : Int).toNat (⟨(rd_T48 y123 (ji17)).f0, (rd_T48 y123 (ji17)).f1, mx ((rd_T48 y123 (ji17)).f2) (mn t125 2), (rd_T48 y123 (ji17)).f3⟩ : S48)) y117 l0 (l0.length : Int) (wrap64 (x15_1 + 1)))) = some (r1, r2) := by first | (rw [hy123]; with_reducible exact H) | (have H2_ := (Option.bind_some _ _).symm.trans H; rw [hy123]; with_reducible exact H2_) | (have H2_ := (Option.bind_some _ _).symm.trans H; with_reducible exact H2_) | with_reducible exact H | (rw [hy123]; exact H) | exact H
    have Ny123 := zA.mk hy123; clear hy123; replace H := Option.bind_eq_some_iff.mp H; obtain ⟨t125, A250, H⟩ := H; replace H : (cells_Make.l0 kj6 l0 l1 a2 (y123.set ((ji17) : Int).toNat (⟨(rd_T48 y123 (ji17)).f0, (rd_T48 y123 (ji17)).f1, mx ((rd_T48 y123 (ji17)).f2) (mn t125 2), (rd_T48 y123 (ji17)).f3⟩ : S48)) y117 l0 (l0.length : Int) (wrap64 (x15_1 + 1))) = some (r1, r2) := H; have A25 := zA.mk A250; clear A250; obtain ⟨ji26, hji26⟩ : ∃ j_ : Int, (mn t125 2) = j_ := ⟨_, rfl⟩; replace H : (cells_Make.l0 kj6 l0 l1 a2 (y123.set ((ji17) : Int).toNat (⟨(rd_T48 y123 (ji17)).f0, (rd_T48 y123 (ji17)).f1, mx ((rd_T48 y123 (ji17)).f2) (ji26), (rd_T48 y123 (ji17)).f3⟩ : S48)) y117 l0 (l0.length : Int) (wrap64 (x15_1 + 1))) = some (r1, r2) := by first | (rw [hji26] at H; exact H) | (simp only [hji26] at H ⊢; exact H)
    (try rw [hji26] at A14)
    (try rw [hji26] at A25)
    (try (have hji26h : ji26 ≤ 2 := by (rw [← hji26]; unfold mn; (repeat' split) <;> omega)))
    (try (have hji26g : ji26 ≤ 64 := by omega))
    have hji26_ : (if 2 < t125 then 2 else t125) = ji26 := hji26
    obtain ⟨ji27, hji27⟩ : ∃ j_ : Int, (mx ((rd_T48 y123 (ji17)).f2) (ji26)) = j_ := ⟨_, rfl⟩; replace H : (cells_Make.l0 kj6 l0 l1 a2 (y123.set ((ji17) : Int).toNat (⟨(rd_T48 y123 (ji17)).f0, (rd_T48 y123 (ji17)).f1, ji27, (rd_T48 y123 (ji17)).f3⟩ : S48)) y117 l0 (l0.length : Int) (wrap64 (x15_1 + 1))) = some (r1, r2) := by first | (rw [hji27] at H; exact H) | (simp only [hji27] at H ⊢; exact H)
    (try rw [hji27] at A14)
    (try rw [hji27] at A25)
    have hji27_ : (if ((rd_T48 y123 (ji17)).f2) < (ji26) then (ji26) else ((rd_T48 y123 (ji17)).f2)) = ji27 := hji27
    obtain ⟨y126, hy126⟩ : ∃ y_ : List (S48), y_ = (y123.set ((ji17) : Int).toNat (⟨(rd_T48 y123 (ji17)).f0, (rd_T48 y123 (ji17)).f1, ji27, (rd_T48 y123 (ji17)).f3⟩ : S48)) := ⟨_, rfl⟩; replace H : (cells_Make.l0 kj6 l0 l1 a2 y126 y117 l0 (l0.length : Int) (wrap64 (x15_1 + 1))) = some (r1, r2) := by first | (rw [hy126]; with_reducible exact H) | (have H2_ := (Option.bind_some _ _).symm.trans H; rw [hy126]; with_reducible exact H2_) | (have H2_ := (Option.bind_some _ _).symm.trans H; with_reducible exact H2_) | with_reducible exact H | (rw [hy126]; exact H) | exact H
    have Ny126 := zA.mk hy126; clear hy126; have H' := zA.mk H
    clear H; try go_wp2
    replace HO_8 := zA.mk (Kd.zH HO_8.out); replace HO_9 := zA.mk (Kd.zH HO_9.out); replace BK111 := zA.mk (zC BK111.out); replace HB := zA.mk (below_drew1 HB.out); refine start_ (n := 10) (S := fun w' => w'.cell? ⟨gb111, 0, none⟩ = some (.int .i32 ((rd_T50 l0 x15_1).f0)) ∧ w'.cell? ⟨gb111, 1, none⟩ = some (.int .i64 ((rd_T50 l0 x15_1).f1)) ∧ w'.cell? ⟨gb111, 2, none⟩ = some (.int .i64 ((rd_T50 l0 x15_1).f2))) (ds := []) #[false, false, false, false, false, false, false, false, false, false] (by kernel_rfl) rfl rfl ⟨(zE BK111.out 0).trans rfl, (zE BK111.out 1).trans rfl, (zE BK111.out 2).trans rfl⟩ (fun hHeld => ?_); refine with_tabW cells_Make.tab7 cells_Make.bits7 (fun HT_ HW_ => ?_)
    generalize wc.drew = w29 at HO_8 HO_9 BK111 HB hHeld ⊢
    refine aP 0 (some 35) (tf_ 1 10) HT_ ?_
    refine aP 1 (some 36) (tf_ 2 10) HT_ ?_
    refine aP 3 (some 38) (tb_ 11 10) HT_ ?_
    refine take_ (i := 2) (N := some 37) (v := ?_) (a' := ?_) (tf_ 4 10) rfl rfl (take_ofW HT_.out HW_.out (by kernel_rfl)) (fun _ _ _ h => h) (Or.inl ⟨by rfl, ?_⟩) hHeld ?_ ?_
    rotate_left
    ·rintro w' ⟨s0, s1, s2⟩
     go_simp
     with_reducible rfl
    rotate_left
    ·simp only [Act.put, sA_, sB_, sC_, i64_w, i32_w]
     rfl
    refine take_ (i := 4) (N := some 39) (v := ?_) (a' := ?_) (tf_ 5 10) rfl rfl (take_ofW HT_.out HW_.out (by kernel_rfl)) (fun _ _ _ h => h) (Or.inl ⟨by rfl, ?_⟩) hHeld ?_ ?_
    rotate_left
    ·rintro w' ⟨s0, s1, s2⟩
     go_simp
     with_reducible rfl
    rotate_left
    ·simp only [Act.put, sA_, sB_, sC_, i64_w, i32_w]
     rfl
    refine one_ (i := 5) (N := some 40) (tb_ 63 10) rfl rfl (one_of HT_.out (by kernel_rfl)) (by decide) (fun K hK => ?_)
    refine goes_ Try.func36 (by kernel_rfl) rfl #[.int .i32 ((rd_T50 l0 x15_1).f0)] (by rfl) rfl rfl aT ?_
    with_reducible refine (cells_kind.calls ((rd_T50 l0 x15_1).f0) t113 _ A14.out).mono ?_
    rintro e w' ⟨rfl, ⟨nd, rfl⟩⟩
    refine ⟨_, rfl, ?_⟩
    refine hK.out _ _ ⟨(zE BK111.out 0).trans rfl, (zE BK111.out 1).trans rfl, (zE BK111.out 2).trans rfl⟩ (fun hHeld => ?_)
    clear hK K; refine norm_ (a' := ?_) ?_ ?_
    rotate_left
    ·show Act.put _ (some 40) _ = _
     simp only [Act.put, sA_, sB_, sC_, i64_w, i32_w]; rfl
    refine aP 6 (some 41) (tf_ 7 10) HT_ ?_
    refine one_ (i := 7) (N := some 42) (tb_ 255 10) rfl rfl (one_of HT_.out (by kernel_rfl)) (by decide) (fun K hK => ?_)
    refine value_ (w1 := ?_) (v := ?_) (by rfl) rfl ?_ ?_
    rotate_left 2
    ·go_simp
     constructor
     ·rfl
     rfl
    refine hK.out _ _ ⟨(zE (zB BK111.out _) 0).trans rfl, (zE (zB BK111.out _) 1).trans rfl, (zE (zB BK111.out _) 2).trans rfl⟩ (fun hHeld => ?_)
    clear hK K; refine norm_ (a' := ?_) ?_ ?_
    rotate_left
    ·show Act.put _ (some 42) _ = _
     simp only [Act.put, sA_, sB_, sC_, i64_w, i32_w]; rfl
    refine one_ (i := 8) (N := some 43) (tb_ 511 10) rfl rfl (one_of HT_.out (by kernel_rfl)) (by decide) (fun K hK => ?_)
    refine Kd.R_append_step k48 (w0 := w) w.heap.size (by rfl) (.tmp 35) (.tmp 42) 34 48 (.agg #[(.int .i64 0), (.int .i64 0), (.int .i64 0), (.int .u8 0)]) 32 rfl Try.underlying34 info48 rfl (by decide) (by omega) u8 x8_1 (⟨((rd_T50 l0 x15_1).f1), 0, 0, t113⟩ : S48) [.int .i64 ((rd_T50 l0 x15_1).f1), .int .i64 0, .int .i64 0, .int .u8 t113] (fun _ => True) (fun _ => False) rfl rfl ?aP (fun _ hk => hk.elim) ?aF ?aO ?aB ?aS ?aL ?_
    (case aP => exact k48_mkM _ _ _ (⟨((rd_T50 l0 x15_1).f1), 0, 0, t113⟩ : S48))
    (case aB => exact (aL HB))
    (case aF => exact (fun _ _ => trivial))
    (case aO => exact (aR HO_8))
    (case aS => exact (below_size (aL HB)))
    (case aL => have := LMc15.out; omega)
    intro v115 w30 ho hb hg hat
    rw [← Ny114.out] at ho; replace HO_9 := zA.mk (Kd.R_over' (aR HO_9) (Kd.R_typed (aR HO_8)) (by decide) hg)
    replace BK111 := zA.mk (blk_grown (g := gb111) (o := .cells #[.int .i32 ((rd_T50 l0 x15_1).f0), .int .i64 ((rd_T50 l0 x15_1).f1), .int .i64 ((rd_T50 l0 x15_1).f2)] 50 (0, 0)) (aB BK111) hg (Kd.R_ne HO_8.out BK111.out (by decide)))
    replace HB := zA.mk (hb); have HO116 := zA.mk (ho); clear HO_8; clear ho hb hg hat; refine hK.out _ _ ⟨(zE BK111.out 0).trans rfl, (zE BK111.out 1).trans rfl, (zE BK111.out 2).trans rfl⟩ (fun hHeld => ?_)
    clear hK K; refine norm_ (a' := ?_) ?_ ?_
    rotate_left
    ·show Act.put _ (some 43) _ = _
     simp only [Act.put, sA_, sB_, sC_, i64_w, i32_w]; rfl
    refine aP 9 (some 8) (tb_ 1023 10) HT_ ?_
    refine done_ (done_of HT_.out (by kernel_rfl)) ?_
    try go_wp2_with (first | ((with_reducible refine gate_builtin (b := .append) (xs := #[.tmp 44, .tmp 46]) rfl ?_); (try (refine gate_guard (by rfl) ?_; dsimp only)); at_builtin; refine Kd.R_append (Kd.int .i64) (w0 := w) w.heap.size rfl (.tmp 44) (.tmp 46) 35 3 (.int .i64 0) 8 rfl Try.underlying35 info3 rfl (by decide) (by omega) u9 x9_1 x15_1 [.int .i64 x15_1] (fun _ => True) (fun _ => False) rfl rfl ?aP (fun _ hk => hk.elim) ?aF ?aO ?aB ?aS ?aL ?_; (case aP => exact rfl); (case aB => exact (aL HB)); (case aF => exact (fun _ _ => trivial)); (case aO => exact (aR HO_9)); (case aS => exact (below_size (aL HB))); (case aL => have := LMc16.out; omega); intro v118 w31 ho hb hg hat; rw [← Ny117.out] at ho; replace BK111 := zA.mk (blk_grown (g := gb111) (o := .cells #[.int .i32 ((rd_T50 l0 x15_1).f0), .int .i64 ((rd_T50 l0 x15_1).f1), .int .i64 ((rd_T50 l0 x15_1).f2)] 50 (0, 0)) (aB BK111) hg (Kd.R_ne HO_9.out BK111.out (by decide))); replace HO116 := zA.mk (Kd.R_over' (aR HO116) (Kd.R_typed (aR HO_9)) (by decide) hg); replace HB := zA.mk (hb); have HO119 := zA.mk (ho); clear HO_9; clear ho hb hg hat; obtain ⟨Ao32, co32, eo32⟩ := Kd.zP HO116.out; subst eo32; have p120 : 0 ≤ ((ji17) : Int) := aD; have q120 : (ji17) < (y114.length : Int) := aD; obtain ⟨ad120, e120, hx120_0, hx120_1, hx120_2, hx120_3⟩ := at_T48 (Kd.zM HO116.out).2.2 (ji17) p120 q120; cases e120; replace p120 := eq_true p120; replace q120 := eq_true q120; obtain ⟨Ao33, co33, eo33⟩ := Kd.zP HO119.out; subst eo33; have p121 : 0 ≤ ((ji20) : Int) := aD; have q121 : (ji20) < (y117.length : Int) := aD; obtain ⟨ad121, e121, hx121_0⟩ := Kd.at_int (Kd.zM HO119.out).2.2 (ji20) p121 q121; cases e121; replace p121 := eq_true p121; replace q121 := eq_true q121))
    replace HO116 := zA.mk (Kd.zH HO116.out); replace HO119 := zA.mk (Kd.zH HO119.out); replace BK111 := zA.mk (zC BK111.out); replace HB := zA.mk (below_drew1 HB.out); have p122 : 0 ≤ ((ji17) : Int) := aD
    have q122 : (ji17) < (y114.length : Int) := aD
    obtain ⟨ad122, e122, hx122_0, hx122_1, hx122_2, hx122_3⟩ := at_T48 (Kd.zM HO116.out).2.2 (ji17) p122 q122; obtain rfl : ad120 = ad122 := (by injection e122)
    replace p122 := eq_true p122; replace q122 := eq_true q122; have p24 : 0 ≤ ((ji17) : Int) := aD
    have q24 : ((ji17) : Int) < ((y114.length : Int) : Int) := aD
    obtain ⟨go24, co24, eo24, gb24, gl24, cl24, HG24⟩ := Kd.R_form HO116.out (by omega)
    (first | cases eo24 | (injection eo24 with ea_ en_ ec_; (first | subst ea_ | (injection ea_ with ea_; subst ea_)); subst ec_; clear en_))
    have GB24 := zA.mk gb24; have GG24 := zA.mk HG24; clear gb24 gl24 HG24; (first | simp only [add_plain] at hx120_0 | skip)
    (first | simp only [add_plain] at hx120_1 | skip)
    (first | simp only [add_plain] at hx120_2 | skip)
    (first | simp only [add_plain] at hx120_3 | skip)
    (first | simp only [add_plain] at hx122_0 | skip)
    (first | simp only [add_plain] at hx122_1 | skip)
    (first | simp only [add_plain] at hx122_2 | skip)
    (first | simp only [add_plain] at hx122_3 | skip)
    obtain ⟨ce24, hcl24, hM24, hcc24, hfr24⟩ := Kd.R_elem HO116.out z48 ((ji17) : Int) p24 q24; obtain rfl := k48_openM hM24
    have hx24_0 : World.cell? _ ⟨go24, ((ji17) : Int).toNat * 4, none⟩ = some (.int .i64 ((rd_T48 y114 (ji17)).f0)) := hcc24 0 _ rfl
    have hx24_1 : World.cell? _ ⟨go24, ((ji17) : Int).toNat * 4 + 1, none⟩ = some (.int .i64 ((rd_T48 y114 (ji17)).f1)) := hcc24 1 _ rfl
    have hx24_2 : World.cell? _ ⟨go24, ((ji17) : Int).toNat * 4 + 2, none⟩ = some (.int .i64 ((rd_T48 y114 (ji17)).f2)) := hcc24 2 _ rfl
    have hx24_3 : World.cell? _ ⟨go24, ((ji17) : Int).toNat * 4 + 3, none⟩ = some (.int .u8 ((rd_T48 y114 (ji17)).f3)) := hcc24 3 _ rfl
    have hf24_0 : World.frozen? _ ⟨go24, ((ji17) : Int).toNat * 4, none⟩ = false := hfr24 0
    have hf24_1 : World.frozen? _ ⟨go24, ((ji17) : Int).toNat * 4 + 1, none⟩ = false := hfr24 1
    have hf24_2 : World.frozen? _ ⟨go24, ((ji17) : Int).toNat * 4 + 2, none⟩ = false := hfr24 2
    have hf24_3 : World.frozen? _ ⟨go24, ((ji17) : Int).toNat * 4 + 3, none⟩ = false := hfr24 3
    (try clear hcl24); (try clear hcc24); (try clear hfr24); (try clear hM24)
    replace p24 := eq_true p24; replace q24 := eq_true q24; obtain ⟨ce35, hcl35, hM35, hcc35, hfr35⟩ := Kd.R_elem HO116.out z48 ((ji17) : Int) (aD) (by have h_ : ((ji17) : Int) < ((y114.length : Int) : Int) := aD; first | exact h_ | (have e_ := (Kd.zM HO116.out).1; omega) | simpa using h_)
    obtain rfl := k48_openM hM35
    have HP35 := (Kd.R_seg HO116.out ((ji17) : Int) (aD) (by have h_ : ((ji17) : Int) < ((y114.length : Int) : Int) := aD; first | exact h_ | (have e_ := (Kd.zM HO116.out).1; omega) | simpa using h_) (seg := [.int .i64 (wrap64 (((rd_T48 y114 (ji17)).f1) + ((rd_T50 l0 x15_1).f2)))]) (j := 1) hcl35 hcc35 (show 2 ≤ 4 from by decide) (x' := (⟨(rd_T48 y114 (ji17)).f0, wrap64 (((rd_T48 y114 (ji17)).f1) + ((rd_T50 l0 x15_1).f2)), (rd_T48 y114 (ji17)).f2, (rd_T48 y114 (ji17)).f3⟩ : S48)) (k48_mkM _ _ _ (⟨(rd_T48 y114 (ji17)).f0, wrap64 (((rd_T48 y114 (ji17)).f1) + ((rd_T50 l0 x15_1).f2)), (rd_T48 y114 (ji17)).f2, (rd_T48 y114 (ji17)).f3⟩ : S48) ) (fun _ hk => hk)).1
    rw [← Ny123.out] at HP35; have HQ35 := zA.mk HP35; clear hcl35 hcc35 hfr35 hM35 HP35; refine start_ (n := 10) (S := fun w' => w'.cell? ⟨gb111, 0, none⟩ = some (.int .i32 ((rd_T50 l0 x15_1).f0)) ∧ w'.cell? ⟨gb111, 1, none⟩ = some (.int .i64 ((rd_T50 l0 x15_1).f1)) ∧ w'.cell? ⟨gb111, 2, none⟩ = some (.int .i64 ((rd_T50 l0 x15_1).f2)) ∧ w'.cell? ⟨go24, (((ji17)).toNat * 4), none⟩ = some (.int .i64 ((rd_T48 y114 (ji17)).f0)) ∧ w'.cell? ⟨go24, (((ji17)).toNat * 4) + 1, none⟩ = some (.int .i64 ((rd_T48 y114 (ji17)).f1)) ∧ w'.cell? ⟨go24, (((ji17)).toNat * 4) + 2, none⟩ = some (.int .i64 ((rd_T48 y114 (ji17)).f2)) ∧ w'.cell? ⟨go24, (((ji17)).toNat * 4) + 3, none⟩ = some (.int .u8 ((rd_T48 y114 (ji17)).f3))) (ds := [9]) #[false, false, false, false, false, false, false, false, false, false] (by kernel_rfl) rfl rfl ⟨(zE BK111.out 0).trans rfl, (zE BK111.out 1).trans rfl, (zE BK111.out 2).trans rfl, hx122_0, hx122_1, hx122_2, hx122_3⟩ (fun hHeld => ?_); refine with_tabW cells_Make.tab12 cells_Make.bits12 (fun HT_ HW_ => ?_)
    generalize w31.drew = w34 at HO116 HO119 BK111 HB GG24 HQ35 hf24_0 hf24_1 hf24_2 hf24_3 hx120_0 hx120_1 hx120_2 hx120_3 hx122_0 hx122_1 hx122_2 hx122_3 hx24_0 hx24_1 hx24_2 hx24_3 hHeld ⊢
    refine aP 0 (some 64) (tf_ 1 10) HT_ ?_
    refine aP 1 (some 65) (tf_ 2 10) HT_ ?_
    refine aP 2 (some 66) (tf_ 3 10) HT_ ?_
    refine aP 4 (some 68) (tb_ 23 10) HT_ ?_
    refine take_ (i := 3) (N := some 67) (v := ?_) (a' := ?_) (tf_ 5 10) rfl rfl (take_ofW HT_.out HW_.out (by kernel_rfl)) (fun _ _ _ h => h) (Or.inl ⟨by rfl, ?_⟩) hHeld ?_ ?_
    rotate_left
    ·rintro w' ⟨s0, s1, s2, s3, s4, s5, s6⟩
     go_simp
     with_reducible rfl
    rotate_left
    ·simp only [Act.put, sA_, sB_, sC_, i64_w, i32_w]
     rfl
    refine take_ (i := 5) (N := some 69) (v := ?_) (a' := ?_) (tf_ 6 10) rfl rfl (take_ofW HT_.out HW_.out (by kernel_rfl)) (fun _ _ _ h => h) (Or.inl ⟨by rfl, ?_⟩) hHeld ?_ ?_
    rotate_left
    ·rintro w' ⟨s0, s1, s2, s3, s4, s5, s6⟩
     go_simp
     with_reducible rfl
    rotate_left
    ·simp only [Act.put, sA_, sB_, sC_, i64_w, i32_w]
     rfl
    refine aP 6 (some 70) (tf_ 7 10) HT_ ?_
    refine aP 7 (some 71) (tf_ 8 10) HT_ ?_
    refine aP 8 (some 72) (tf_ 9 10) HT_ ?_
    refine last_ (i := 9) (N := none) (tb_ 1023 10) rfl rfl (one_of HT_.out (by kernel_rfl)) (by decide) (fun K hK => ?_)
    refine skip_ (w1 := ?_) (by rfl) rfl ?_ ?_
    rotate_left
    ·go_simp
     rfl
    refine hK.out _ _ ?_
    clear hK K; refine done_ (done_of HT_.out (by kernel_rfl)) ?_
    try go_wp2
    have n0_ : zA (Kd.R k48 48 (w34.setCell ⟨go24, ((ji17) : Int).toNat * 4 + 1, none⟩ (.int .i64 (wrap64 (((rd_T48 y114 (ji17)).f1) + ((rd_T50 l0 x15_1).f2))))) w.heap.size (fun _ => True) (.slice (some ⟨go24, 0, none⟩) y114.length co32) y123) := ⟨aR HQ35⟩
    have n1_ : zA (Kd.R (Kd.int .i64) 3 (w34.setCell ⟨go24, ((ji17) : Int).toNat * 4 + 1, none⟩ (.int .i64 (wrap64 (((rd_T48 y114 (ji17)).f1) + ((rd_T50 l0 x15_1).f2))))) w.heap.size (fun _ => True) (.slice (some ad121) y117.length co33) y117) := ⟨by (with_reducible repeat (first | apply Kd.zF | apply Kd.zG | apply Kd.zH)); exact Kd.zR (Kd.zO (p := ⟨go24, ((ji17) : Int).toNat * 4 + 1, none⟩) (Kd.zS HO119.out GG24.out (by decide)) (fun _ hk => hk.2) (.int .i64 (wrap64 (((rd_T48 y114 (ji17)).f1) + ((rd_T50 l0 x15_1).f2))))) (fun _ hk => trivial)⟩
    have n2_ : zA ((w34.setCell ⟨go24, ((ji17) : Int).toNat * 4 + 1, none⟩ (.int .i64 (wrap64 (((rd_T48 y114 (ji17)).f1) + ((rd_T50 l0 x15_1).f2))))).heap[gb111]? = some (.cells #[.int .i32 ((rd_T50 l0 x15_1).f0), .int .i64 ((rd_T50 l0 x15_1).f1), .int .i64 ((rd_T50 l0 x15_1).f2)] 50 (0, 0))) := ⟨by (with_reducible repeat (first | refine zD ?_ _ | refine zC ?_ | refine zB ?_ _)); refine blk_far ?_ (by have h_ := Kd.R_ne HO116.out BK111.out (by decide); intro e_; exact h_ (by rw [e_]; rfl)) _; (with_reducible repeat (first | refine zD ?_ _ | refine zC ?_ | refine zB ?_ _)); exact BK111.out⟩
    have n3_ : zA (Below w.heap.size w (w34.setCell ⟨go24, ((ji17) : Int).toNat * 4 + 1, none⟩ (.int .i64 (wrap64 (((rd_T48 y114 (ji17)).f1) + ((rd_T50 l0 x15_1).f2)))))) := ⟨aL HB⟩
    (try clear HO116)
    (try clear HO119)
    (try clear BK111)
    (try clear HB)
    generalize (w34.setCell ⟨go24, ((ji17) : Int).toNat * 4 + 1, none⟩ (.int .i64 (wrap64 (((rd_T48 y114 (ji17)).f1) + ((rd_T50 l0 x15_1).f2))))) = w36 at n0_ n1_ n2_ n3_ ⊢
    have HO116 := n0_; have HO119 := n1_; have BK111 := n2_; have HB := n3_; clear n0_ n1_ n2_ n3_; replace HO116 := zA.mk (Kd.zH HO116.out); replace HO119 := zA.mk (Kd.zH HO119.out); replace BK111 := zA.mk (zC BK111.out); replace HB := zA.mk (below_drew1 HB.out); have p124 : 0 ≤ ((ji17) : Int) := aD
    have q124 : (ji17) < (y123.length : Int) := (by have h_ : ((ji17) : Int) < ((y114.length : Int) : Int) := aD; first | (have e_ := (Kd.zM HO116.out).1; omega) | simpa only [Ny123.out, List.length_set] using h_)
    have ql124 : (((ji17) : Int) < ((y114.length : Int) : Int)) = True := eq_true (aD)
    obtain ⟨ad124, e124, hx124_0, hx124_1, hx124_2, hx124_3⟩ := at_T48 (Kd.zM HO116.out).2.2 (ji17) p124 q124; obtain rfl : (⟨go24, 0, none⟩ : Addr) = ad124 := (by injection e124)
    (first | simp only [add_plain] at hx124_0 | simp only [add_at] at hx124_0 | simp only [Addr.add, Nat.zero_add] at hx124_0 | skip)
    (first | simp only [add_plain] at hx124_1 | simp only [add_at] at hx124_1 | simp only [Addr.add, Nat.zero_add] at hx124_1 | skip)
    (first | simp only [add_plain] at hx124_2 | simp only [add_at] at hx124_2 | simp only [Addr.add, Nat.zero_add] at hx124_2 | skip)
    (first | simp only [add_plain] at hx124_3 | simp only [add_at] at hx124_3 | simp only [Addr.add, Nat.zero_add] at hx124_3 | skip)
    replace p124 := eq_true p124; replace q124 := eq_true q124; refine start_ (n := 14) (S := fun w' => w'.cell? ⟨gb111, 0, none⟩ = some (.int .i32 ((rd_T50 l0 x15_1).f0)) ∧ w'.cell? ⟨gb111, 1, none⟩ = some (.int .i64 ((rd_T50 l0 x15_1).f1)) ∧ w'.cell? ⟨gb111, 2, none⟩ = some (.int .i64 ((rd_T50 l0 x15_1).f2)) ∧ w'.cell? ⟨go24, ((ji17)).toNat * 4, none⟩ = some (.int .i64 ((rd_T48 y123 (ji17)).f0)) ∧ w'.cell? ⟨go24, ((ji17)).toNat * 4 + 1, none⟩ = some (.int .i64 ((rd_T48 y123 (ji17)).f1)) ∧ w'.cell? ⟨go24, ((ji17)).toNat * 4 + 2, none⟩ = some (.int .i64 ((rd_T48 y123 (ji17)).f2)) ∧ w'.cell? ⟨go24, ((ji17)).toNat * 4 + 3, none⟩ = some (.int .u8 ((rd_T48 y123 (ji17)).f3))) (ds := [13]) #[false, false, false, false, false, false, false, false, false, false, false, false, false, false] (by kernel_rfl) rfl rfl ⟨(zE BK111.out 0).trans rfl, (zE BK111.out 1).trans rfl, (zE BK111.out 2).trans rfl, hx124_0, hx124_1, hx124_2, hx124_3⟩ (fun hHeld => ?_); refine with_tabW cells_Make.tab13 cells_Make.bits13 (fun HT_ HW_ => ?_)
    generalize w36.drew = w37 at HO116 HO119 BK111 HB HQ35 hx124_0 hx124_1 hx124_2 hx124_3 hHeld ⊢
    refine aP 0 (some 73) (tf_ 1 14) HT_ ?_
    refine aP 1 (some 74) (tf_ 2 14) HT_ ?_
    refine aP 2 (some 75) (tf_ 3 14) HT_ ?_
    refine aP 3 (some 76) (tf_ 4 14) HT_ ?_
    refine aP 5 (some 78) (tb_ 47 14) HT_ ?_
    refine aP 6 (some 79) (tb_ 111 14) HT_ ?_
    refine take_ (i := 4) (N := some 77) (v := ?_) (a' := ?_) (tf_ 7 14) rfl rfl (take_ofW HT_.out HW_.out (by kernel_rfl)) (fun _ _ _ h => h) (Or.inl ⟨by rfl, ?_⟩) hHeld ?_ ?_
    rotate_left
    ·rintro w' ⟨s0, s1, s2, s3, s4, s5, s6⟩
     go_simp
     with_reducible rfl
    rotate_left
    ·simp only [Act.put, sA_, sB_, sC_, i64_w, i32_w]
     rfl
    refine take_ (i := 7) (N := some 80) (v := ?_) (a' := ?_) (tf_ 8 14) rfl rfl (take_ofW HT_.out HW_.out (by kernel_rfl)) (fun _ _ _ h => h) (Or.inl ⟨by rfl, ?_⟩) hHeld ?_ ?_
    rotate_left
    ·rintro w' ⟨s0, s1, s2, s3, s4, s5, s6⟩
     go_simp
     with_reducible rfl
    rotate_left
    ·simp only [Act.put, sA_, sB_, sC_, i64_w, i32_w]
     rfl
    refine one_ (i := 8) (N := some 81) (tb_ 511 14) rfl rfl (one_of HT_.out (by kernel_rfl)) (by decide) (fun K hK => ?_)
    refine goes_ Try.func22 (by kernel_rfl) rfl #[vt2_, .int .i32 ((rd_T50 l0 x15_1).f0)] (by rfl) rfl rfl aT ?_
    with_reducible refine (prop_Table_Of.calls vt2_ a2 ((rd_T50 l0 x15_1).f0) t125 _ ?side1 A25.out).mono ?_
    (case side1 => exact TabAt.below HTa2.out (aL HB))
    rintro e w' ⟨rfl, ⟨nd, rfl⟩⟩
    refine ⟨_, rfl, ?_⟩
    have p28 : 0 ≤ ((ji17) : Int) := aD
    have q28 : ((ji17) : Int) < ((y114.length : Int) : Int) := aD
    obtain ⟨ce28, hcl28, hM28, hcc28, hfr28⟩ := Kd.R_elem HO116.out z48 ((ji17) : Int) p28 q28; obtain rfl := k48_openM hM28
    have hx28_0 : World.cell? _ ⟨go24, ((ji17) : Int).toNat * 4, none⟩ = some (.int .i64 ((rd_T48 y123 (ji17)).f0)) := hcc28 0 _ rfl
    have hx28_1 : World.cell? _ ⟨go24, ((ji17) : Int).toNat * 4 + 1, none⟩ = some (.int .i64 ((rd_T48 y123 (ji17)).f1)) := hcc28 1 _ rfl
    have hx28_2 : World.cell? _ ⟨go24, ((ji17) : Int).toNat * 4 + 2, none⟩ = some (.int .i64 ((rd_T48 y123 (ji17)).f2)) := hcc28 2 _ rfl
    have hx28_3 : World.cell? _ ⟨go24, ((ji17) : Int).toNat * 4 + 3, none⟩ = some (.int .u8 ((rd_T48 y123 (ji17)).f3)) := hcc28 3 _ rfl
    have hf28_0 : World.frozen? _ ⟨go24, ((ji17) : Int).toNat * 4, none⟩ = false := hfr28 0
    have hf28_1 : World.frozen? _ ⟨go24, ((ji17) : Int).toNat * 4 + 1, none⟩ = false := hfr28 1
    have hf28_2 : World.frozen? _ ⟨go24, ((ji17) : Int).toNat * 4 + 2, none⟩ = false := hfr28 2
    have hf28_3 : World.frozen? _ ⟨go24, ((ji17) : Int).toNat * 4 + 3, none⟩ = false := hfr28 3
    (try clear hcl28); (try clear hcc28); (try clear hfr28); (try clear hM28)
    replace p28 := eq_true p28; replace q28 := eq_true q28; obtain ⟨cx38, gx38⟩ := Kd.R_typed HO116.out _ rfl; have GG38_ := zA.mk gx38; clear gx38; obtain ⟨ce38, hcl38, hM38, hcc38, hfr38⟩ := Kd.R_elem HO116.out z48 ((ji17) : Int) (aD) (by have h_ : ((ji17) : Int) < ((y114.length : Int) : Int) := aD; first | exact h_ | (have e_ := (Kd.zM HO116.out).1; omega) | simpa using h_)
    obtain rfl := k48_openM hM38
    have HP38 := (Kd.R_seg HO116.out ((ji17) : Int) (aD) (by have h_ : ((ji17) : Int) < ((y114.length : Int) : Int) := aD; first | exact h_ | (have e_ := (Kd.zM HO116.out).1; omega) | simpa using h_) (seg := [.int .i64 ji27]) (j := 2) hcl38 hcc38 (show 3 ≤ 4 from by decide) (x' := (⟨(rd_T48 y123 (ji17)).f0, (rd_T48 y123 (ji17)).f1, ji27, (rd_T48 y123 (ji17)).f3⟩ : S48)) (k48_mkM _ _ _ (⟨(rd_T48 y123 (ji17)).f0, (rd_T48 y123 (ji17)).f1, ji27, (rd_T48 y123 (ji17)).f3⟩ : S48) ) (fun _ hk => hk)).1
    rw [← Ny126.out] at HP38; have HQ38 := zA.mk HP38; clear hcl38 hcc38 hfr38 hM38 HP38; refine hK.out _ _ ⟨(zE BK111.out 0).trans rfl, (zE BK111.out 1).trans rfl, (zE BK111.out 2).trans rfl, hHeld.2.2.2.1, hHeld.2.2.2.2.1, hHeld.2.2.2.2.2.1, hHeld.2.2.2.2.2.2⟩ (fun hHeld => ?_)
    clear hK K; refine norm_ (a' := ?_) ?_ ?_
    rotate_left
    ·show Act.put _ (some 81) _ = _
     simp only [Act.put, sA_, sB_, sC_, i64_w, i32_w]; rfl
    refine aP 9 (some 82) (tf_ 10 14) HT_ ?_
    refine aP 10 (some 83) (tf_ 11 14) HT_ ?_
    refine aP 11 (some 84) (tf_ 12 14) HT_ ?_
    refine aP 12 (some 85) (tf_ 13 14) HT_ ?_
    refine last_ (i := 13) (N := none) (tb_ 16383 14) rfl rfl (one_of HT_.out (by kernel_rfl)) (by decide) (fun K hK => ?_)
    refine skip_ (w1 := ?_) (by rfl) rfl ?_ ?_
    rotate_left
    ·go_simp
     rfl
    refine hK.out _ _ ?_
    clear hK K; refine done_ (done_of HT_.out (by kernel_rfl)) ?_
    try go_wp2
    go_roundg kj6
    case measure => have := HK1.out; have := HJ6.out; omega
    case rel => exact ⟨(y126), (y117), (wrap64 (x15_1 + 1)), aZ, H', ⟨by have := HK1.out; have := HJ6.out; omega⟩, ⟨aR HQ38⟩, ⟨by (with_reducible repeat (first | apply Kd.zF | apply Kd.zG | apply Kd.zH)); exact Kd.zR (Kd.zO (p := ⟨go24, ((ji17) : Int).toNat * 4 + 2, none⟩) (Kd.zS HO119.out GG38_.out (by decide)) (fun _ hk => hk.2) (.int .i64 ji27)) (fun _ hk => trivial)⟩, ⟨aL HB⟩⟩
   rw [if_neg c23] at H; have c23b0 : ((rd y117 (ji20)) == x15_1) = false := beq_eq_false_iff_ne.mpr c23
   have c23b1 : ((rd y117 (ji20)) != x15_1) = true := bne_iff_ne.mpr c23
   obtain ⟨y127, hy127⟩ : ∃ y_ : List (S48), y_ = (y114.set ((ji17) : Int).toNat (⟨(rd_T48 y114 (ji17)).f0, (rd_T48 y114 (ji17)).f1, (rd_T48 y114 (ji17)).f2, 0⟩ : S48)) := ⟨_, rfl⟩; replace H : ((some (y127.set ((ji17) : Int).toNat (⟨(rd_T48 y127 (ji17)).f0, wrap64 (((rd_T48 y127 (ji17)).f1) + ((rd_T50 l0 x15_1).f2)), (rd_T48 y127 (ji17)).f2, (rd_T48 y127 (ji17)).f3⟩ : S48) : List (S48))).bind fun y129 => ((prop_Table_Of.f a2 ((rd_T50 l0 x15_1).f0)).bind fun t131 => (cells_Make.l0 kj6 l0 l1 a2 (y129.set ((ji17) : Int).toNat (⟨(rd_T48 y129 (ji17)).f0, (rd_T48 y129 (ji17)).f1, mx ((rd_T48 y129 (ji17)).f2) (mn t131 2), (rd_T48 y129 (ji17)).f3⟩ : S48)) y117 l0 (l0.length : Int) (wrap64 (x15_1 + 1))))) = some (r1, r2) := by first | (rw [hy127]; with_reducible exact H) | (have H2_ := (Option.bind_some _ _).symm.trans H; rw [hy127]; with_reducible exact H2_) | (have H2_ := (Option.bind_some _ _).symm.trans H; with_reducible exact H2_) | with_reducible exact H | (rw [hy127]; exact H) | exact H
   have Ny127 := zA.mk hy127; clear hy127; obtain ⟨y129, hy129⟩ : ∃ y_ : List (S48), y_ = (y127.set ((ji17) : Int).toNat (⟨(rd_T48 y127 (ji17)).f0, wrap64 (((rd_T48 y127 (ji17)).f1) + ((rd_T50 l0 x15_1).f2)), (rd_T48 y127 (ji17)).f2, (rd_T48 y127 (ji17)).f3⟩ : S48)) := ⟨_, rfl⟩; replace H : ((prop_Table_Of.f a2 ((rd_T50 l0 x15_1).f0)).bind fun t131 => (cells_Make.l0 kj6 l0 l1 a2 (y129.set ((ji17) : Int).toNat (⟨(rd_T48 y129 (ji17)).f0, (rd_T48 y129 (ji17)).f1, mx ((rd_T48 y129 (ji17)).f2) (mn t131 2), (rd_T48 y129 (ji17)).f3⟩ : S48)) y117 l0 (l0.length : Int) (wrap64 (x15_1 + 1)))) = some (r1, r2) := by first | (rw [hy129]; with_reducible exact H) | (have H2_ := (Option.bind_some _ _).symm.trans H; rw [hy129]; with_reducible exact H2_) | (have H2_ := (Option.bind_some _ _).symm.trans H; with_reducible exact H2_) | with_reducible exact H | (rw [hy129]; exact H) | exact H
   have Ny129 := zA.mk hy129; clear hy129; replace H := Option.bind_eq_some_iff.mp H; obtain ⟨t131, A410, H⟩ := H; replace H : (cells_Make.l0 kj6 l0 l1 a2 (y129.set ((ji17) : Int).toNat (⟨(rd_T48 y129 (ji17)).f0, (rd_T48 y129 (ji17)).f1, mx ((rd_T48 y129 (ji17)).f2) (mn t131 2), (rd_T48 y129 (ji17)).f3⟩ : S48)) y117 l0 (l0.length : Int) (wrap64 (x15_1 + 1))) = some (r1, r2) := H; have A41 := zA.mk A410; clear A410; obtain ⟨ji42, hji42⟩ : ∃ j_ : Int, (mn t131 2) = j_ := ⟨_, rfl⟩; replace H : (cells_Make.l0 kj6 l0 l1 a2 (y129.set ((ji17) : Int).toNat (⟨(rd_T48 y129 (ji17)).f0, (rd_T48 y129 (ji17)).f1, mx ((rd_T48 y129 (ji17)).f2) (ji42), (rd_T48 y129 (ji17)).f3⟩ : S48)) y117 l0 (l0.length : Int) (wrap64 (x15_1 + 1))) = some (r1, r2) := by first | (rw [hji42] at H; exact H) | (simp only [hji42] at H ⊢; exact H)
   (try rw [hji42] at A14)
   (try rw [hji42] at A41)
   (try (have hji42h : ji42 ≤ 2 := by (rw [← hji42]; unfold mn; (repeat' split) <;> omega)))
   (try (have hji42g : ji42 ≤ 64 := by omega))
   have hji42_ : (if 2 < t131 then 2 else t131) = ji42 := hji42
   obtain ⟨ji43, hji43⟩ : ∃ j_ : Int, (mx ((rd_T48 y129 (ji17)).f2) (ji42)) = j_ := ⟨_, rfl⟩; replace H : (cells_Make.l0 kj6 l0 l1 a2 (y129.set ((ji17) : Int).toNat (⟨(rd_T48 y129 (ji17)).f0, (rd_T48 y129 (ji17)).f1, ji43, (rd_T48 y129 (ji17)).f3⟩ : S48)) y117 l0 (l0.length : Int) (wrap64 (x15_1 + 1))) = some (r1, r2) := by first | (rw [hji43] at H; exact H) | (simp only [hji43] at H ⊢; exact H)
   (try rw [hji43] at A14)
   (try rw [hji43] at A41)
   have hji43_ : (if ((rd_T48 y129 (ji17)).f2) < (ji42) then (ji42) else ((rd_T48 y129 (ji17)).f2)) = ji43 := hji43
   obtain ⟨y132, hy132⟩ : ∃ y_ : List (S48), y_ = (y129.set ((ji17) : Int).toNat (⟨(rd_T48 y129 (ji17)).f0, (rd_T48 y129 (ji17)).f1, ji43, (rd_T48 y129 (ji17)).f3⟩ : S48)) := ⟨_, rfl⟩; replace H : (cells_Make.l0 kj6 l0 l1 a2 y132 y117 l0 (l0.length : Int) (wrap64 (x15_1 + 1))) = some (r1, r2) := by first | (rw [hy132]; with_reducible exact H) | (have H2_ := (Option.bind_some _ _).symm.trans H; rw [hy132]; with_reducible exact H2_) | (have H2_ := (Option.bind_some _ _).symm.trans H; with_reducible exact H2_) | with_reducible exact H | (rw [hy132]; exact H) | exact H
   have Ny132 := zA.mk hy132; clear hy132; have H' := zA.mk H
   clear H; try go_wp2
   replace HO_8 := zA.mk (Kd.zH HO_8.out); replace HO_9 := zA.mk (Kd.zH HO_9.out); replace BK111 := zA.mk (zC BK111.out); replace HB := zA.mk (below_drew1 HB.out); refine start_ (n := 10) (S := fun w' => w'.cell? ⟨gb111, 0, none⟩ = some (.int .i32 ((rd_T50 l0 x15_1).f0)) ∧ w'.cell? ⟨gb111, 1, none⟩ = some (.int .i64 ((rd_T50 l0 x15_1).f1)) ∧ w'.cell? ⟨gb111, 2, none⟩ = some (.int .i64 ((rd_T50 l0 x15_1).f2))) (ds := []) #[false, false, false, false, false, false, false, false, false, false] (by kernel_rfl) rfl rfl ⟨(zE BK111.out 0).trans rfl, (zE BK111.out 1).trans rfl, (zE BK111.out 2).trans rfl⟩ (fun hHeld => ?_); refine with_tabW cells_Make.tab7 cells_Make.bits7 (fun HT_ HW_ => ?_)
   generalize wc.drew = w45 at HO_8 HO_9 BK111 HB hHeld ⊢
   refine aP 0 (some 35) (tf_ 1 10) HT_ ?_
   refine aP 1 (some 36) (tf_ 2 10) HT_ ?_
   refine aP 3 (some 38) (tb_ 11 10) HT_ ?_
   refine take_ (i := 2) (N := some 37) (v := ?_) (a' := ?_) (tf_ 4 10) rfl rfl (take_ofW HT_.out HW_.out (by kernel_rfl)) (fun _ _ _ h => h) (Or.inl ⟨by rfl, ?_⟩) hHeld ?_ ?_
   rotate_left
   ·rintro w' ⟨s0, s1, s2⟩
    go_simp
    with_reducible rfl
   rotate_left
   ·simp only [Act.put, sA_, sB_, sC_, i64_w, i32_w]
    rfl
   refine take_ (i := 4) (N := some 39) (v := ?_) (a' := ?_) (tf_ 5 10) rfl rfl (take_ofW HT_.out HW_.out (by kernel_rfl)) (fun _ _ _ h => h) (Or.inl ⟨by rfl, ?_⟩) hHeld ?_ ?_
   rotate_left
   ·rintro w' ⟨s0, s1, s2⟩
    go_simp
    with_reducible rfl
   rotate_left
   ·simp only [Act.put, sA_, sB_, sC_, i64_w, i32_w]
    rfl
   refine one_ (i := 5) (N := some 40) (tb_ 63 10) rfl rfl (one_of HT_.out (by kernel_rfl)) (by decide) (fun K hK => ?_)
   refine goes_ Try.func36 (by kernel_rfl) rfl #[.int .i32 ((rd_T50 l0 x15_1).f0)] (by rfl) rfl rfl aT ?_
   with_reducible refine (cells_kind.calls ((rd_T50 l0 x15_1).f0) t113 _ A14.out).mono ?_
   rintro e w' ⟨rfl, ⟨nd, rfl⟩⟩
   refine ⟨_, rfl, ?_⟩
   refine hK.out _ _ ⟨(zE BK111.out 0).trans rfl, (zE BK111.out 1).trans rfl, (zE BK111.out 2).trans rfl⟩ (fun hHeld => ?_)
   clear hK K; refine norm_ (a' := ?_) ?_ ?_
   rotate_left
   ·show Act.put _ (some 40) _ = _
    simp only [Act.put, sA_, sB_, sC_, i64_w, i32_w]; rfl
   refine aP 6 (some 41) (tf_ 7 10) HT_ ?_
   refine one_ (i := 7) (N := some 42) (tb_ 255 10) rfl rfl (one_of HT_.out (by kernel_rfl)) (by decide) (fun K hK => ?_)
   refine value_ (w1 := ?_) (v := ?_) (by rfl) rfl ?_ ?_
   rotate_left 2
   ·go_simp
    constructor
    ·rfl
    rfl
   refine hK.out _ _ ⟨(zE (zB BK111.out _) 0).trans rfl, (zE (zB BK111.out _) 1).trans rfl, (zE (zB BK111.out _) 2).trans rfl⟩ (fun hHeld => ?_)
   clear hK K; refine norm_ (a' := ?_) ?_ ?_
   rotate_left
   ·show Act.put _ (some 42) _ = _
    simp only [Act.put, sA_, sB_, sC_, i64_w, i32_w]; rfl
   refine one_ (i := 8) (N := some 43) (tb_ 511 10) rfl rfl (one_of HT_.out (by kernel_rfl)) (by decide) (fun K hK => ?_)
   refine Kd.R_append_step k48 (w0 := w) w.heap.size (by rfl) (.tmp 35) (.tmp 42) 34 48 (.agg #[(.int .i64 0), (.int .i64 0), (.int .i64 0), (.int .u8 0)]) 32 rfl Try.underlying34 info48 rfl (by decide) (by omega) u8 x8_1 (⟨((rd_T50 l0 x15_1).f1), 0, 0, t113⟩ : S48) [.int .i64 ((rd_T50 l0 x15_1).f1), .int .i64 0, .int .i64 0, .int .u8 t113] (fun _ => True) (fun _ => False) rfl rfl ?aP (fun _ hk => hk.elim) ?aF ?aO ?aB ?aS ?aL ?_
   (case aP => exact k48_mkM _ _ _ (⟨((rd_T50 l0 x15_1).f1), 0, 0, t113⟩ : S48))
   (case aB => exact (aL HB))
   (case aF => exact (fun _ _ => trivial))
   (case aO => exact (aR HO_8))
   (case aS => exact (below_size (aL HB)))
   (case aL => have := LMc15.out; omega)
   intro v115 w46 ho hb hg hat
   rw [← Ny114.out] at ho; replace HO_9 := zA.mk (Kd.R_over' (aR HO_9) (Kd.R_typed (aR HO_8)) (by decide) hg)
   replace BK111 := zA.mk (blk_grown (g := gb111) (o := .cells #[.int .i32 ((rd_T50 l0 x15_1).f0), .int .i64 ((rd_T50 l0 x15_1).f1), .int .i64 ((rd_T50 l0 x15_1).f2)] 50 (0, 0)) (aB BK111) hg (Kd.R_ne HO_8.out BK111.out (by decide)))
   replace HB := zA.mk (hb); have HO116 := zA.mk (ho); clear HO_8; clear ho hb hg hat; refine hK.out _ _ ⟨(zE BK111.out 0).trans rfl, (zE BK111.out 1).trans rfl, (zE BK111.out 2).trans rfl⟩ (fun hHeld => ?_)
   clear hK K; refine norm_ (a' := ?_) ?_ ?_
   rotate_left
   ·show Act.put _ (some 43) _ = _
    simp only [Act.put, sA_, sB_, sC_, i64_w, i32_w]; rfl
   refine aP 9 (some 8) (tb_ 1023 10) HT_ ?_
   refine done_ (done_of HT_.out (by kernel_rfl)) ?_
   try go_wp2_with (first | ((with_reducible refine gate_builtin (b := .append) (xs := #[.tmp 44, .tmp 46]) rfl ?_); (try (refine gate_guard (by rfl) ?_; dsimp only)); at_builtin; refine Kd.R_append (Kd.int .i64) (w0 := w) w.heap.size rfl (.tmp 44) (.tmp 46) 35 3 (.int .i64 0) 8 rfl Try.underlying35 info3 rfl (by decide) (by omega) u9 x9_1 x15_1 [.int .i64 x15_1] (fun _ => True) (fun _ => False) rfl rfl ?aP (fun _ hk => hk.elim) ?aF ?aO ?aB ?aS ?aL ?_; (case aP => exact rfl); (case aB => exact (aL HB)); (case aF => exact (fun _ _ => trivial)); (case aO => exact (aR HO_9)); (case aS => exact (below_size (aL HB))); (case aL => have := LMc16.out; omega); intro v118 w47 ho hb hg hat; rw [← Ny117.out] at ho; replace BK111 := zA.mk (blk_grown (g := gb111) (o := .cells #[.int .i32 ((rd_T50 l0 x15_1).f0), .int .i64 ((rd_T50 l0 x15_1).f1), .int .i64 ((rd_T50 l0 x15_1).f2)] 50 (0, 0)) (aB BK111) hg (Kd.R_ne HO_9.out BK111.out (by decide))); replace HO116 := zA.mk (Kd.R_over' (aR HO116) (Kd.R_typed (aR HO_9)) (by decide) hg); replace HB := zA.mk (hb); have HO119 := zA.mk (ho); clear HO_9; clear ho hb hg hat; obtain ⟨Ao48, co48, eo48⟩ := Kd.zP HO116.out; subst eo48; have p120 : 0 ≤ ((ji17) : Int) := aD; have q120 : (ji17) < (y114.length : Int) := aD; obtain ⟨ad120, e120, hx120_0, hx120_1, hx120_2, hx120_3⟩ := at_T48 (Kd.zM HO116.out).2.2 (ji17) p120 q120; cases e120; replace p120 := eq_true p120; replace q120 := eq_true q120; obtain ⟨Ao49, co49, eo49⟩ := Kd.zP HO119.out; subst eo49; have p121 : 0 ≤ ((ji20) : Int) := aD; have q121 : (ji20) < (y117.length : Int) := aD; obtain ⟨ad121, e121, hx121_0⟩ := Kd.at_int (Kd.zM HO119.out).2.2 (ji20) p121 q121; cases e121; replace p121 := eq_true p121; replace q121 := eq_true q121; have p39 : 0 ≤ ((ji17) : Int) := aD; have q39 : ((ji17) : Int) < ((y114.length : Int) : Int) := aD; obtain ⟨go39, co39, eo39, gb39, gl39, cl39, HG39⟩ := Kd.R_form HO116.out (by omega); (first | cases eo39 | (injection eo39 with ea_ en_ ec_; (first | subst ea_ | (injection ea_ with ea_; subst ea_)); subst ec_; clear en_)); have GB39 := zA.mk gb39; have GG39 := zA.mk HG39; clear gb39 gl39 HG39; (first | simp only [add_plain] at hx120_0 | skip); (first | simp only [add_plain] at hx120_1 | skip); (first | simp only [add_plain] at hx120_2 | skip); (first | simp only [add_plain] at hx120_3 | skip); obtain ⟨ce39, hcl39, hM39, hcc39, hfr39⟩ := Kd.R_elem HO116.out z48 ((ji17) : Int) p39 q39; obtain rfl := k48_openM hM39; have hx39_0 : w47.cell? ⟨go39, ((ji17) : Int).toNat * 4, none⟩ = some (.int .i64 ((rd_T48 y114 (ji17)).f0)) := hcc39 0 _ rfl; have hx39_1 : w47.cell? ⟨go39, ((ji17) : Int).toNat * 4 + 1, none⟩ = some (.int .i64 ((rd_T48 y114 (ji17)).f1)) := hcc39 1 _ rfl; have hx39_2 : w47.cell? ⟨go39, ((ji17) : Int).toNat * 4 + 2, none⟩ = some (.int .i64 ((rd_T48 y114 (ji17)).f2)) := hcc39 2 _ rfl; have hx39_3 : w47.cell? ⟨go39, ((ji17) : Int).toNat * 4 + 3, none⟩ = some (.int .u8 ((rd_T48 y114 (ji17)).f3)) := hcc39 3 _ rfl; have hf39_0 : w47.frozen? ⟨go39, ((ji17) : Int).toNat * 4, none⟩ = false := hfr39 0; have hf39_1 : w47.frozen? ⟨go39, ((ji17) : Int).toNat * 4 + 1, none⟩ = false := hfr39 1; have hf39_2 : w47.frozen? ⟨go39, ((ji17) : Int).toNat * 4 + 2, none⟩ = false := hfr39 2; have hf39_3 : w47.frozen? ⟨go39, ((ji17) : Int).toNat * 4 + 3, none⟩ = false := hfr39 3; (try clear hcl39); (try clear hcc39); (try clear hfr39); (try clear hM39); replace p39 := eq_true p39; replace q39 := eq_true q39; have HX50 := zA.mk (show Kd.R k48 48 w47 w.heap.size (fun _ => True) (.slice (some ⟨go39, 0, none⟩) y114.length co48) y114 from (aR HO116)); obtain ⟨ce50, hcl50, hM50, hcc50, hfr50⟩ := Kd.R_elem HX50.out z48 ((ji17) : Int) (aD) (by have h_ : ((ji17) : Int) < ((y114.length : Int) : Int) := aD; first | exact h_ | (have e_ := (Kd.zM HO116.out).1; omega) | simpa using h_); obtain rfl := k48_openM hM50; have HP50 := Kd.R_seg HX50.out ((ji17) : Int) (aD) (by have h_ : ((ji17) : Int) < ((y114.length : Int) : Int) := aD; first | exact h_ | (have e_ := (Kd.zM HO116.out).1; omega) | simpa using h_) (seg := [.int .u8 0]) (j := 3) hcl50 hcc50 (show 4 ≤ 4 from by decide) (x' := (⟨(rd_T48 y114 (ji17)).f0, (rd_T48 y114 (ji17)).f1, (rd_T48 y114 (ji17)).f2, 0⟩ : S48)) (k48_mkM _ _ _ (⟨(rd_T48 y114 (ji17)).f0, (rd_T48 y114 (ji17)).f1, (rd_T48 y114 (ji17)).f2, 0⟩ : S48) ) (fun _ hk => hk); have hx50_3 := hcc50 3 _ rfl; (try simp only [show (k48).sz = 4 from rfl, Nat.mul_one, Nat.add_zero] at hx50_3); have hf50_3 := hfr50 3; (try simp only [show (k48).sz = 4 from rfl, Nat.mul_one, Nat.add_zero] at hf50_3); (try clear hcl50); (try clear hcc50); (try clear hfr50); (try clear hM50)) | ((with_reducible refine gate_store (t := 46) (p := 63) rfl ?_); refine store_event (t := 46) (p := 63) (v := ?vo_w51) (w1 := (w47.setCell ⟨go39, ((ji17) : Int).toNat * 4 + 3, none⟩ (.int .u8 0))) ?hg ?ho ?hn ?hr ?_; (case ho => rfl); (case hg => rfl); (case hn => rfl); (case hr => first | (go_simp; done) | (go_simp; rfl)); intro w51 hw; have hg : w47.grownBy w51 (some go39) := (by rw [hw]; exact HP50.2); have hp_ : Kd.R k48 48 w51 w.heap.size (fun _ => True) (.slice (some ⟨go39, 0, none⟩) y114.length co48) y127 := (by rw [hw, Ny127.out]; exact HP50.1); clear HP50; replace BK111 := zA.mk (blk_grown (g := gb111) (o := .cells #[.int .i32 ((rd_T50 l0 x15_1).f0), .int .i64 ((rd_T50 l0 x15_1).f1), .int .i64 ((rd_T50 l0 x15_1).f2)] 50 (0, 0)) (aB BK111) hg (Kd.R_ne HO116.out BK111.out (by decide))); replace HO119 := zA.mk (Kd.R_over' (v := (.slice (some ⟨go39, 0, none⟩) y114.length co48)) (aR HO119) (Kd.R_typed HO116.out) (by decide) hg); replace HO116 := zA.mk (hp_); replace HB := zA.mk ((by rw [hw]; exact below_set (HB.out) GB39.out : Below w.heap.size w w51)); clear hg hw hp_))
   replace HO116 := zA.mk (Kd.zH HO116.out); replace HO119 := zA.mk (Kd.zH HO119.out); replace BK111 := zA.mk (zC BK111.out); replace HB := zA.mk (below_drew1 HB.out); have p128 : 0 ≤ ((ji17) : Int) := aD
   have q128 : (ji17) < (y127.length : Int) := (by have h_ : ((ji17) : Int) < ((y114.length : Int) : Int) := aD; first | (have e_ := (Kd.zM HO116.out).1; omega) | simpa only [Ny127.out, List.length_set] using h_)
   have ql128 : (((ji17) : Int) < ((y114.length : Int) : Int)) = True := eq_true (aD)
   obtain ⟨ad128, e128, hx128_0, hx128_1, hx128_2, hx128_3⟩ := at_T48 (Kd.zM HO116.out).2.2 (ji17) p128 q128; obtain rfl : (⟨go39, 0, none⟩ : Addr) = ad128 := (by injection e128)
   (first | simp only [add_plain] at hx128_0 | simp only [add_at] at hx128_0 | simp only [Addr.add, Nat.zero_add] at hx128_0 | skip)
   (first | simp only [add_plain] at hx128_1 | simp only [add_at] at hx128_1 | simp only [Addr.add, Nat.zero_add] at hx128_1 | skip)
   (first | simp only [add_plain] at hx128_2 | simp only [add_at] at hx128_2 | simp only [Addr.add, Nat.zero_add] at hx128_2 | skip)
   (first | simp only [add_plain] at hx128_3 | simp only [add_at] at hx128_3 | simp only [Addr.add, Nat.zero_add] at hx128_3 | skip)
   replace p128 := eq_true p128; replace q128 := eq_true q128; have p40 : 0 ≤ ((ji17) : Int) := aD
   have q40 : ((ji17) : Int) < ((y114.length : Int) : Int) := aD
   obtain ⟨ce40, hcl40, hM40, hcc40, hfr40⟩ := Kd.R_elem HO116.out z48 ((ji17) : Int) p40 q40; obtain rfl := k48_openM hM40
   have hx40_0 : World.cell? _ ⟨go39, ((ji17) : Int).toNat * 4, none⟩ = some (.int .i64 ((rd_T48 y127 (ji17)).f0)) := hcc40 0 _ rfl
   have hx40_1 : World.cell? _ ⟨go39, ((ji17) : Int).toNat * 4 + 1, none⟩ = some (.int .i64 ((rd_T48 y127 (ji17)).f1)) := hcc40 1 _ rfl
   have hx40_2 : World.cell? _ ⟨go39, ((ji17) : Int).toNat * 4 + 2, none⟩ = some (.int .i64 ((rd_T48 y127 (ji17)).f2)) := hcc40 2 _ rfl
   have hx40_3 : World.cell? _ ⟨go39, ((ji17) : Int).toNat * 4 + 3, none⟩ = some (.int .u8 ((rd_T48 y127 (ji17)).f3)) := hcc40 3 _ rfl
   have hf40_0 : World.frozen? _ ⟨go39, ((ji17) : Int).toNat * 4, none⟩ = false := hfr40 0
   have hf40_1 : World.frozen? _ ⟨go39, ((ji17) : Int).toNat * 4 + 1, none⟩ = false := hfr40 1
   have hf40_2 : World.frozen? _ ⟨go39, ((ji17) : Int).toNat * 4 + 2, none⟩ = false := hfr40 2
   have hf40_3 : World.frozen? _ ⟨go39, ((ji17) : Int).toNat * 4 + 3, none⟩ = false := hfr40 3
   (try clear hcl40); (try clear hcc40); (try clear hfr40); (try clear hM40)
   replace p40 := eq_true p40; replace q40 := eq_true q40; obtain ⟨cx53, gx53⟩ := Kd.R_typed HO116.out _ rfl; have GG53_ := zA.mk gx53; clear gx53; obtain ⟨ce53, hcl53, hM53, hcc53, hfr53⟩ := Kd.R_elem HO116.out z48 ((ji17) : Int) (aD) (by have h_ : ((ji17) : Int) < ((y114.length : Int) : Int) := aD; first | exact h_ | (have e_ := (Kd.zM HO116.out).1; omega) | simpa using h_)
   obtain rfl := k48_openM hM53
   have HP53 := (Kd.R_seg HO116.out ((ji17) : Int) (aD) (by have h_ : ((ji17) : Int) < ((y114.length : Int) : Int) := aD; first | exact h_ | (have e_ := (Kd.zM HO116.out).1; omega) | simpa using h_) (seg := [.int .i64 (wrap64 (((rd_T48 y127 (ji17)).f1) + ((rd_T50 l0 x15_1).f2)))]) (j := 1) hcl53 hcc53 (show 2 ≤ 4 from by decide) (x' := (⟨(rd_T48 y127 (ji17)).f0, wrap64 (((rd_T48 y127 (ji17)).f1) + ((rd_T50 l0 x15_1).f2)), (rd_T48 y127 (ji17)).f2, (rd_T48 y127 (ji17)).f3⟩ : S48)) (k48_mkM _ _ _ (⟨(rd_T48 y127 (ji17)).f0, wrap64 (((rd_T48 y127 (ji17)).f1) + ((rd_T50 l0 x15_1).f2)), (rd_T48 y127 (ji17)).f2, (rd_T48 y127 (ji17)).f3⟩ : S48) ) (fun _ hk => hk)).1
   rw [← Ny129.out] at HP53; have HQ53 := zA.mk HP53; clear hcl53 hcc53 hfr53 hM53 HP53; refine start_ (n := 10) (S := fun w' => w'.cell? ⟨gb111, 0, none⟩ = some (.int .i32 ((rd_T50 l0 x15_1).f0)) ∧ w'.cell? ⟨gb111, 1, none⟩ = some (.int .i64 ((rd_T50 l0 x15_1).f1)) ∧ w'.cell? ⟨gb111, 2, none⟩ = some (.int .i64 ((rd_T50 l0 x15_1).f2)) ∧ w'.cell? ⟨go39, ((ji17)).toNat * 4, none⟩ = some (.int .i64 ((rd_T48 y127 (ji17)).f0)) ∧ w'.cell? ⟨go39, ((ji17)).toNat * 4 + 1, none⟩ = some (.int .i64 ((rd_T48 y127 (ji17)).f1)) ∧ w'.cell? ⟨go39, ((ji17)).toNat * 4 + 2, none⟩ = some (.int .i64 ((rd_T48 y127 (ji17)).f2)) ∧ w'.cell? ⟨go39, ((ji17)).toNat * 4 + 3, none⟩ = some (.int .u8 ((rd_T48 y127 (ji17)).f3))) (ds := [9]) #[false, false, false, false, false, false, false, false, false, false] (by kernel_rfl) rfl rfl ⟨(zE BK111.out 0).trans rfl, (zE BK111.out 1).trans rfl, (zE BK111.out 2).trans rfl, hx128_0, hx128_1, hx128_2, hx128_3⟩ (fun hHeld => ?_); refine with_tabW cells_Make.tab12 cells_Make.bits12 (fun HT_ HW_ => ?_)
   generalize w51.drew = w52 at HO116 HO119 BK111 HB GG53_ HQ53 hf40_0 hf40_1 hf40_2 hf40_3 hx128_0 hx128_1 hx128_2 hx128_3 hx40_0 hx40_1 hx40_2 hx40_3 hHeld ⊢
   refine aP 0 (some 64) (tf_ 1 10) HT_ ?_
   refine aP 1 (some 65) (tf_ 2 10) HT_ ?_
   refine aP 2 (some 66) (tf_ 3 10) HT_ ?_
   refine aP 4 (some 68) (tb_ 23 10) HT_ ?_
   refine take_ (i := 3) (N := some 67) (v := ?_) (a' := ?_) (tf_ 5 10) rfl rfl (take_ofW HT_.out HW_.out (by kernel_rfl)) (fun _ _ _ h => h) (Or.inl ⟨by rfl, ?_⟩) hHeld ?_ ?_
   rotate_left
   ·rintro w' ⟨s0, s1, s2, s3, s4, s5, s6⟩
    go_simp
    with_reducible rfl
   rotate_left
   ·simp only [Act.put, sA_, sB_, sC_, i64_w, i32_w]
    rfl
   refine take_ (i := 5) (N := some 69) (v := ?_) (a' := ?_) (tf_ 6 10) rfl rfl (take_ofW HT_.out HW_.out (by kernel_rfl)) (fun _ _ _ h => h) (Or.inl ⟨by rfl, ?_⟩) hHeld ?_ ?_
   rotate_left
   ·rintro w' ⟨s0, s1, s2, s3, s4, s5, s6⟩
    go_simp
    with_reducible rfl
   rotate_left
   ·simp only [Act.put, sA_, sB_, sC_, i64_w, i32_w]
    rfl
   refine aP 6 (some 70) (tf_ 7 10) HT_ ?_
   refine aP 7 (some 71) (tf_ 8 10) HT_ ?_
   refine aP 8 (some 72) (tf_ 9 10) HT_ ?_
   refine last_ (i := 9) (N := none) (tb_ 1023 10) rfl rfl (one_of HT_.out (by kernel_rfl)) (by decide) (fun K hK => ?_)
   refine skip_ (w1 := ?_) (by rfl) rfl ?_ ?_
   rotate_left
   ·go_simp
    rfl
   refine hK.out _ _ ?_
   clear hK K; refine done_ (done_of HT_.out (by kernel_rfl)) ?_
   try go_wp2
   have n0_ : zA (Kd.R k48 48 (w52.setCell ⟨go39, ((ji17) : Int).toNat * 4 + 1, none⟩ (.int .i64 (wrap64 (((rd_T48 y127 (ji17)).f1) + ((rd_T50 l0 x15_1).f2))))) w.heap.size (fun _ => True) (.slice (some ⟨go39, 0, none⟩) y114.length co48) y129) := ⟨aR HQ53⟩
   have n1_ : zA (Kd.R (Kd.int .i64) 3 (w52.setCell ⟨go39, ((ji17) : Int).toNat * 4 + 1, none⟩ (.int .i64 (wrap64 (((rd_T48 y127 (ji17)).f1) + ((rd_T50 l0 x15_1).f2))))) w.heap.size (fun _ => True) (.slice (some ad121) y117.length co49) y117) := ⟨by (with_reducible repeat (first | apply Kd.zF | apply Kd.zG | apply Kd.zH)); exact Kd.zR (Kd.zO (p := ⟨go39, ((ji17) : Int).toNat * 4 + 1, none⟩) (Kd.zS HO119.out GG53_.out (by decide)) (fun _ hk => hk.2) (.int .i64 (wrap64 (((rd_T48 y127 (ji17)).f1) + ((rd_T50 l0 x15_1).f2))))) (fun _ hk => trivial)⟩
   have n2_ : zA ((w52.setCell ⟨go39, ((ji17) : Int).toNat * 4 + 1, none⟩ (.int .i64 (wrap64 (((rd_T48 y127 (ji17)).f1) + ((rd_T50 l0 x15_1).f2))))).heap[gb111]? = some (.cells #[.int .i32 ((rd_T50 l0 x15_1).f0), .int .i64 ((rd_T50 l0 x15_1).f1), .int .i64 ((rd_T50 l0 x15_1).f2)] 50 (0, 0))) := ⟨by (with_reducible repeat (first | refine zD ?_ _ | refine zC ?_ | refine zB ?_ _)); refine blk_far ?_ (by have h_ := Kd.R_ne HO116.out BK111.out (by decide); intro e_; exact h_ (by rw [e_]; rfl)) _; (with_reducible repeat (first | refine zD ?_ _ | refine zC ?_ | refine zB ?_ _)); exact BK111.out⟩
   have n3_ : zA (Below w.heap.size w (w52.setCell ⟨go39, ((ji17) : Int).toNat * 4 + 1, none⟩ (.int .i64 (wrap64 (((rd_T48 y127 (ji17)).f1) + ((rd_T50 l0 x15_1).f2)))))) := ⟨aL HB⟩
   (try clear HO116)
   (try clear HO119)
   (try clear BK111)
   (try clear HB)
   generalize (w52.setCell ⟨go39, ((ji17) : Int).toNat * 4 + 1, none⟩ (.int .i64 (wrap64 (((rd_T48 y127 (ji17)).f1) + ((rd_T50 l0 x15_1).f2))))) = w54 at n0_ n1_ n2_ n3_ ⊢
   have HO116 := n0_; have HO119 := n1_; have BK111 := n2_; have HB := n3_; clear n0_ n1_ n2_ n3_; replace HO116 := zA.mk (Kd.zH HO116.out); replace HO119 := zA.mk (Kd.zH HO119.out); replace BK111 := zA.mk (zC BK111.out); replace HB := zA.mk (below_drew1 HB.out); have p130 : 0 ≤ ((ji17) : Int) := aD
   have q130 : (ji17) < (y129.length : Int) := (by have h_ : ((ji17) : Int) < ((y114.length : Int) : Int) := aD; first | (have e_ := (Kd.zM HO116.out).1; omega) | simpa only [Ny127.out, Ny129.out, List.length_set] using h_)
   have ql130 : (((ji17) : Int) < ((y114.length : Int) : Int)) = True := eq_true (aD)
   obtain ⟨ad130, e130, hx130_0, hx130_1, hx130_2, hx130_3⟩ := at_T48 (Kd.zM HO116.out).2.2 (ji17) p130 q130; obtain rfl : (⟨go39, 0, none⟩ : Addr) = ad130 := (by injection e130)
   (first | simp only [add_plain] at hx130_0 | simp only [add_at] at hx130_0 | simp only [Addr.add, Nat.zero_add] at hx130_0 | skip)
   (first | simp only [add_plain] at hx130_1 | simp only [add_at] at hx130_1 | simp only [Addr.add, Nat.zero_add] at hx130_1 | skip)
   (first | simp only [add_plain] at hx130_2 | simp only [add_at] at hx130_2 | simp only [Addr.add, Nat.zero_add] at hx130_2 | skip)
   (first | simp only [add_plain] at hx130_3 | simp only [add_at] at hx130_3 | simp only [Addr.add, Nat.zero_add] at hx130_3 | skip)
   replace p130 := eq_true p130; replace q130 := eq_true q130; refine start_ (n := 14) (S := fun w' => w'.cell? ⟨gb111, 0, none⟩ = some (.int .i32 ((rd_T50 l0 x15_1).f0)) ∧ w'.cell? ⟨gb111, 1, none⟩ = some (.int .i64 ((rd_T50 l0 x15_1).f1)) ∧ w'.cell? ⟨gb111, 2, none⟩ = some (.int .i64 ((rd_T50 l0 x15_1).f2)) ∧ w'.cell? ⟨go39, ((ji17)).toNat * 4, none⟩ = some (.int .i64 ((rd_T48 y129 (ji17)).f0)) ∧ w'.cell? ⟨go39, ((ji17)).toNat * 4 + 1, none⟩ = some (.int .i64 ((rd_T48 y129 (ji17)).f1)) ∧ w'.cell? ⟨go39, ((ji17)).toNat * 4 + 2, none⟩ = some (.int .i64 ((rd_T48 y129 (ji17)).f2)) ∧ w'.cell? ⟨go39, ((ji17)).toNat * 4 + 3, none⟩ = some (.int .u8 ((rd_T48 y129 (ji17)).f3))) (ds := [13]) #[false, false, false, false, false, false, false, false, false, false, false, false, false, false] (by kernel_rfl) rfl rfl ⟨(zE BK111.out 0).trans rfl, (zE BK111.out 1).trans rfl, (zE BK111.out 2).trans rfl, hx130_0, hx130_1, hx130_2, hx130_3⟩ (fun hHeld => ?_); refine with_tabW cells_Make.tab13 cells_Make.bits13 (fun HT_ HW_ => ?_)
   generalize w54.drew = w55 at HO116 HO119 BK111 HB HQ53 hx130_0 hx130_1 hx130_2 hx130_3 hHeld ⊢
   refine aP 0 (some 73) (tf_ 1 14) HT_ ?_
   refine aP 1 (some 74) (tf_ 2 14) HT_ ?_
   refine aP 2 (some 75) (tf_ 3 14) HT_ ?_
   refine aP 3 (some 76) (tf_ 4 14) HT_ ?_
   refine aP 5 (some 78) (tb_ 47 14) HT_ ?_
   refine aP 6 (some 79) (tb_ 111 14) HT_ ?_
   refine take_ (i := 4) (N := some 77) (v := ?_) (a' := ?_) (tf_ 7 14) rfl rfl (take_ofW HT_.out HW_.out (by kernel_rfl)) (fun _ _ _ h => h) (Or.inl ⟨by rfl, ?_⟩) hHeld ?_ ?_
   rotate_left
   ·rintro w' ⟨s0, s1, s2, s3, s4, s5, s6⟩
    go_simp
    with_reducible rfl
   rotate_left
   ·simp only [Act.put, sA_, sB_, sC_, i64_w, i32_w]
    rfl
   refine take_ (i := 7) (N := some 80) (v := ?_) (a' := ?_) (tf_ 8 14) rfl rfl (take_ofW HT_.out HW_.out (by kernel_rfl)) (fun _ _ _ h => h) (Or.inl ⟨by rfl, ?_⟩) hHeld ?_ ?_
   rotate_left
   ·rintro w' ⟨s0, s1, s2, s3, s4, s5, s6⟩
    go_simp
    with_reducible rfl
   rotate_left
   ·simp only [Act.put, sA_, sB_, sC_, i64_w, i32_w]
    rfl
   refine one_ (i := 8) (N := some 81) (tb_ 511 14) rfl rfl (one_of HT_.out (by kernel_rfl)) (by decide) (fun K hK => ?_)
   refine goes_ Try.func22 (by kernel_rfl) rfl #[vt2_, .int .i32 ((rd_T50 l0 x15_1).f0)] (by rfl) rfl rfl aT ?_
   with_reducible refine (prop_Table_Of.calls vt2_ a2 ((rd_T50 l0 x15_1).f0) t131 _ ?side1 A41.out).mono ?_
   (case side1 => exact TabAt.below HTa2.out (aL HB))
   rintro e w' ⟨rfl, ⟨nd, rfl⟩⟩
   refine ⟨_, rfl, ?_⟩
   have p44 : 0 ≤ ((ji17) : Int) := aD
   have q44 : ((ji17) : Int) < ((y114.length : Int) : Int) := aD
   obtain ⟨ce44, hcl44, hM44, hcc44, hfr44⟩ := Kd.R_elem HO116.out z48 ((ji17) : Int) p44 q44; obtain rfl := k48_openM hM44
   have hx44_0 : World.cell? _ ⟨go39, ((ji17) : Int).toNat * 4, none⟩ = some (.int .i64 ((rd_T48 y129 (ji17)).f0)) := hcc44 0 _ rfl
   have hx44_1 : World.cell? _ ⟨go39, ((ji17) : Int).toNat * 4 + 1, none⟩ = some (.int .i64 ((rd_T48 y129 (ji17)).f1)) := hcc44 1 _ rfl
   have hx44_2 : World.cell? _ ⟨go39, ((ji17) : Int).toNat * 4 + 2, none⟩ = some (.int .i64 ((rd_T48 y129 (ji17)).f2)) := hcc44 2 _ rfl
   have hx44_3 : World.cell? _ ⟨go39, ((ji17) : Int).toNat * 4 + 3, none⟩ = some (.int .u8 ((rd_T48 y129 (ji17)).f3)) := hcc44 3 _ rfl
   have hf44_0 : World.frozen? _ ⟨go39, ((ji17) : Int).toNat * 4, none⟩ = false := hfr44 0
   have hf44_1 : World.frozen? _ ⟨go39, ((ji17) : Int).toNat * 4 + 1, none⟩ = false := hfr44 1
   have hf44_2 : World.frozen? _ ⟨go39, ((ji17) : Int).toNat * 4 + 2, none⟩ = false := hfr44 2
   have hf44_3 : World.frozen? _ ⟨go39, ((ji17) : Int).toNat * 4 + 3, none⟩ = false := hfr44 3
   (try clear hcl44); (try clear hcc44); (try clear hfr44); (try clear hM44)
   replace p44 := eq_true p44; replace q44 := eq_true q44; obtain ⟨cx56, gx56⟩ := Kd.R_typed HO116.out _ rfl; have GG56_ := zA.mk gx56; clear gx56; obtain ⟨ce56, hcl56, hM56, hcc56, hfr56⟩ := Kd.R_elem HO116.out z48 ((ji17) : Int) (aD) (by have h_ : ((ji17) : Int) < ((y114.length : Int) : Int) := aD; first | exact h_ | (have e_ := (Kd.zM HO116.out).1; omega) | simpa using h_)
   obtain rfl := k48_openM hM56
   have HP56 := (Kd.R_seg HO116.out ((ji17) : Int) (aD) (by have h_ : ((ji17) : Int) < ((y114.length : Int) : Int) := aD; first | exact h_ | (have e_ := (Kd.zM HO116.out).1; omega) | simpa using h_) (seg := [.int .i64 ji43]) (j := 2) hcl56 hcc56 (show 3 ≤ 4 from by decide) (x' := (⟨(rd_T48 y129 (ji17)).f0, (rd_T48 y129 (ji17)).f1, ji43, (rd_T48 y129 (ji17)).f3⟩ : S48)) (k48_mkM _ _ _ (⟨(rd_T48 y129 (ji17)).f0, (rd_T48 y129 (ji17)).f1, ji43, (rd_T48 y129 (ji17)).f3⟩ : S48) ) (fun _ hk => hk)).1
   rw [← Ny132.out] at HP56; have HQ56 := zA.mk HP56; clear hcl56 hcc56 hfr56 hM56 HP56; refine hK.out _ _ ⟨(zE BK111.out 0).trans rfl, (zE BK111.out 1).trans rfl, (zE BK111.out 2).trans rfl, hHeld.2.2.2.1, hHeld.2.2.2.2.1, hHeld.2.2.2.2.2.1, hHeld.2.2.2.2.2.2⟩ (fun hHeld => ?_)
   clear hK K; refine norm_ (a' := ?_) ?_ ?_
   rotate_left
   ·show Act.put _ (some 81) _ = _
    simp only [Act.put, sA_, sB_, sC_, i64_w, i32_w]; rfl
   refine aP 9 (some 82) (tf_ 10 14) HT_ ?_
   refine aP 10 (some 83) (tf_ 11 14) HT_ ?_
   refine aP 11 (some 84) (tf_ 12 14) HT_ ?_
   refine aP 12 (some 85) (tf_ 13 14) HT_ ?_
   refine last_ (i := 13) (N := none) (tb_ 16383 14) rfl rfl (one_of HT_.out (by kernel_rfl)) (by decide) (fun K hK => ?_)
   refine skip_ (w1 := ?_) (by rfl) rfl ?_ ?_
   rotate_left
   ·go_simp
    rfl
   refine hK.out _ _ ?_
   clear hK K; refine done_ (done_of HT_.out (by kernel_rfl)) ?_
   try go_wp2
   go_roundg kj6
   case measure => have := HK1.out; have := HJ6.out; omega
   case rel => exact ⟨(y132), (y117), (wrap64 (x15_1 + 1)), aZ, H', ⟨by have := HK1.out; have := HJ6.out; omega⟩, ⟨aR HQ56⟩, ⟨by (with_reducible repeat (first | apply Kd.zF | apply Kd.zG | apply Kd.zH)); exact Kd.zR (Kd.zO (p := ⟨go39, ((ji17) : Int).toNat * 4 + 2, none⟩) (Kd.zS HO119.out GG56_.out (by decide)) (fun _ hk => hk.2) (.int .i64 ji43)) (fun _ hk => trivial)⟩, ⟨aL HB⟩⟩
mutual
def items_Make.l0 : Nat → List (S50) → List Int → List Bool → List Int → Int → Int → List (S48) → List Int → Option ((List (S48)) × List Int)
 | 0, _, _, _, _, _, _, _, _ => none
 | k + 1, x0, x2, x3, x25, x26, x27, x154000, x154001 => if x27 < x26 then (if 0 ≤ x27 then (if x27 < (x25.length : Int) then (if (rd x25 x27) = (x0.length : Int) then (if x154001.length < 140737488355328 then (items_Make.l0 k x0 x2 x3 x25 x26 (wrap64 (x27 + 1)) x154000 (x154001 ++ [2])) else (none)) else (if (rd x25 x27) = 0 then (items_Make.j1 k x0 x2 x3 (rd x25 x27) x25 x26 x27 true x154000 x154001) else (items_Make.j1 k x0 x2 x3 (rd x25 x27) x25 x26 x27 (decide ((rd x25 x27) ≥ (x2.length : Int))) x154000 x154001))) else (none)) else (none)) else (some (x154000, x154001))
def items_Make.j1 : Nat → List (S50) → List Int → List Bool → Int → List Int → Int → Int → Bool → List (S48) → List Int → Option ((List (S48)) × List Int)
 | 0, _, _, _, _, _, _, _, _, _, _ => none
 | k + 1, x0, x2, x3, x15, x25, x26, x27, x50, x154000, x154001 => if x50 = true then (if x154001.length < 140737488355328 then (items_Make.l0 k x0 x2 x3 x25 x26 (wrap64 (x27 + 1)) x154000 (x154001 ++ [0])) else (none)) else (if 0 ≤ x15 then (if x15 < (x2.length : Int) then (if (rd x2 x15) = 0 then (if x15 < (x3.length : Int) then (if rdOf false x3 x15 = true then (if x154001.length < 140737488355328 then (items_Make.l0 k x0 x2 x3 x25 x26 (wrap64 (x27 + 1)) x154000 (x154001 ++ [3])) else (none)) else (if x154001.length < 140737488355328 then (items_Make.l0 k x0 x2 x3 x25 x26 (wrap64 (x27 + 1)) x154000 (x154001 ++ [rd x2 x15])) else (none))) else (if x154001.length < 140737488355328 then (items_Make.l0 k x0 x2 x3 x25 x26 (wrap64 (x27 + 1)) x154000 (x154001 ++ [rd x2 x15])) else (none))) else (if x154001.length < 140737488355328 then (items_Make.l0 k x0 x2 x3 x25 x26 (wrap64 (x27 + 1)) x154000 (x154001 ++ [rd x2 x15])) else (none))) else (none)) else (none))
end
def items_Make.f (k : Nat) (l0 : List (S50)) (l1 : List Int) (l2 : List Int) (l3 : List Bool) (a4 : Option (List (Int × Int × Int))) : Option ((List (S48)) × List Int) := (cells_Make.f k l0 l1 a4).bind fun bt147 => (items_Make.l0 k l0 l2 l3 bt147.2 (bt147.2.length : Int) 0 bt147.1 ([] : List Int))
theorem items_Make.mono_l : ∀ k, (∀ y0 y1 y2 y3 y4 y5 y6 y7, LeO (items_Make.l0 k y0 y1 y2 y3 y4 y5 y6 y7) (items_Make.l0 (k + 1) y0 y1 y2 y3 y4 y5 y6 y7)) ∧ (∀ y0 y1 y2 y3 y4 y5 y6 y7 y8 y9, LeO (items_Make.j1 k y0 y1 y2 y3 y4 y5 y6 y7 y8 y9) (items_Make.j1 (k + 1) y0 y1 y2 y3 y4 y5 y6 y7 y8 y9))
 | 0 => ⟨fun _ _ _ _ _ _ _ _ r h => by simp [items_Make.l0] at h, fun _ _ _ _ _ _ _ _ _ _ r h => by simp [items_Make.j1] at h⟩
 | k + 1 => by
  obtain ⟨ih0, ih1⟩ := items_Make.mono_l k; refine ⟨?_, ?_⟩
  ·intro y0 y1 y2 y3 y4 y5 y6 y7
   unfold items_Make.l0
   repeat' (with_reducible first | exact ih0 _ _ _ _ _ _ _ _ | exact ih1 _ _ _ _ _ _ _ _ _ _ | exact cells_Make.mono _ _ _ _ | exact LeO.refl _ | exact LeO.none _ | refine LeO.ite ?_ ?_ | refine LeO.bind ?_ (fun _ => ?_))
  ·intro y0 y1 y2 y3 y4 y5 y6 y7 y8 y9
   unfold items_Make.j1
   repeat' (with_reducible first | exact ih0 _ _ _ _ _ _ _ _ | exact ih1 _ _ _ _ _ _ _ _ _ _ | exact cells_Make.mono _ _ _ _ | exact LeO.refl _ | exact LeO.none _ | refine LeO.ite ?_ ?_ | refine LeO.bind ?_ (fun _ => ?_))
theorem items_Make.mono : ∀ a0 a1 a2 a3 a4 k, LeO (items_Make.f k a0 a1 a2 a3 a4) (items_Make.f (k + 1) a0 a1 a2 a3 a4) := by
 intro a0 a1 a2 a3 a4 k
 obtain ⟨ih0, ih1⟩ := items_Make.mono_l k; unfold items_Make.f
 repeat' (with_reducible first | exact ih0 _ _ _ _ _ _ _ _ | exact ih1 _ _ _ _ _ _ _ _ _ _ | exact cells_Make.mono _ _ _ _ | exact LeO.refl _ | exact LeO.none _ | refine LeO.ite ?_ ?_ | refine LeO.bind ?_ (fun _ => ?_))
def items_Make.T6 : Bool × List (List Nat × List Nat) := (true, [([], []), ([0], [0]), ([], []), ([], []), ([2, 3], [2, 3]), ([4], [4]), ([5], [5]), ([1, 6], [1, 6]), ([0, 1, 2, 3, 4, 5, 6, 7], []), ([8, 7, 7, 0, 1, 2, 3, 4, 5, 6, 7], [7, 8])])
def items_Make.B6 : List Nat := [0, 1, 0, 0, 12, 28, 60, 127, 255, 511]
theorem items_Make.tab6 : rtab .any (opsOf Try.f24 6) = items_Make.T6 := by kernel_rfl
theorem items_Make.bits6 : waitsOk items_Make.T6.2 items_Make.B6 = true := by kernel_rfl
set_option maxHeartbeats 8000000 in
set_option maxRecDepth 100000 in
theorem items_Make.calls (k : Nat) (A0 : Option Addr) (c0 : Nat) (l0 : List (S50)) (A1 : Option Addr) (c1 : Nat) (l1 : List Int) (A2 : Option Addr) (c2 : Nat) (l2 : List Int) (A3 : Option Addr) (c3 : Nat) (l3 : List Bool) (vt4_ : Value) (a4 : Option (List (Int × Int × Int))) (r1 : List (S48)) (r2 : List Int) (w : World) (hr0 : Kd.C k50 w A0 l0.length l0) (hc0 : l0.length ≤ c0) (hr1 : Kd.C (Kd.int .u8) w A1 l1.length l1) (hc1 : l1.length ≤ c1) (hr2 : Kd.C (Kd.int .u8) w A2 l2.length l2) (hc2 : l2.length ≤ c2) (hr3 : Kd.C Kd.bool w A3 l3.length l3) (hc3 : l3.length ≤ c3) (hta4 : TabAt w a4 vt4_) (h : items_Make.f k l0 l1 l2 l3 a4 = some (r1, r2)) :
  Calls Try.prog 24 #[.slice A0 l0.length c0, .slice A1 l1.length c1, .slice A2 l2.length c2, .slice A3 l3.length c3, vt4_] w fun e w' => ∃ v0_ v1_ : Value, e = .returned (.agg #[v0_, v1_]) ∧ Kd.R k48 48 w' w.heap.size (fun _ => True) v0_ r1 ∧ Kd.R (Kd.int .u8) 53 w' w.heap.size (fun _ => True) v1_ r2 ∧ Below w.heap.size w w' := by
 have hu60 := Try.underlying60; have HR0 := zA.mk hr0; have HC0 := zA.mk hc0; clear hr0 hc0; have HR1 := zA.mk hr1; have HC1 := zA.mk hc1; clear hr1 hc1; have HR2 := zA.mk hr2; have HC2 := zA.mk hc2; clear hr2 hc2; have HR3 := zA.mk hr3; have HC3 := zA.mk hc3; clear hr3 hc3; have HTa4 := zA.mk hta4; clear hta4; have HB := zA.mk (Below.refl w.heap.size w); have H : ((cells_Make.f k l0 l1 a4).bind fun bt147 => (items_Make.l0 k l0 l2 l3 bt147.2 (bt147.2.length : Int) 0 bt147.1 ([] : List Int))) = some (r1, r2) := h
 clear h; replace H := Option.bind_eq_some_iff.mp H; obtain ⟨⟨t147, t148⟩, A60, H⟩ := H; replace H : (items_Make.l0 k l0 l2 l3 t148 (t148.length : Int) 0 t147 ([] : List Int)) = some (r1, r2) := H; have A6 := zA.mk A60; clear A60; have H' := zA.mk H
 clear H; go_enter Try.func24, Try.ntmps24
 go_wp2_with (first | ((with_reducible refine gate_dst (N := 10) rfl ?_); (try (refine gate_guard (by rfl) ?_; dsimp only)); refine box_event ?hg (N := 10) ?hd (cs := #[.slice none 0 0, .slice none 0 0]) (t := 60) ?hr ?_; (case hd => rfl); (case hg => rfl); (case hr => first | (go_simp; done) | (go_simp; rfl)); intro gb146 hg w7 hbox hb; have BK146 := zA.mk (hbox); have GW146 := zA.mk ((by rw [hg]; exact (below_size (aL HB)) : w.heap.size ≤ gb146)); replace HB := zA.mk (below_step (aL HB) hb); have GE146 := GW146; clear hb hbox hg) | ((with_reducible refine gate_callee (f := 17) rfl ?_); refine goesL_ (some 20) rfl rfl Try.func17 (by kernel_rfl) rfl #[.slice A0 l0.length c0, .slice A1 l1.length c1, vt4_] rfl aT ?_; (with_reducible refine (cells_Make.calls k _ _ l0 _ _ l1 vt4_ a4 t147 t148 _ ?side1 ?side2 ?side3 ?side4 ?side5 A6.out).mono ?_); (case side1 => exact aA HR0 HB); (case side2 => exact HC0.out); (case side3 => exact aA HR1 HB); (case side4 => exact HC1.out); (case side5 => exact TabAt.below HTa4.out (aL HB)); rintro e w8 ⟨v149, v151, rfl, ho0, ho1, hb⟩; refine ⟨_, rfl, ?_⟩; have HO150 := zA.mk (Kd.zQ ho0 (below_size (aL HB))); have HO152 := zA.mk (Kd.zQ ho1 (below_size (aL HB))); replace BK146 := zA.mk (blk_below (aB BK146) hb); replace HB := zA.mk (below_step (aL HB) hb); (try clear hb); (try clear hb2); (try clear hk); (try clear hi); (try clear ho0); (try clear ho1); obtain ⟨Ao9, co9, eo9⟩ := Kd.zP HO150.out; subst eo9) | ((with_reducible refine gate_dst (N := 13) rfl ?_); (try (refine gate_guard (by rfl) ?_; dsimp only)); refine box_event ?hg (N := 13) ?hd (cs := #[.slice none 0 0, .slice none 0 0]) (t := 60) ?hr ?_; (case hd => rfl); (case hg => rfl); (case hr => first | (go_simp; done) | (go_simp; rfl)); intro gb153 hg w10 hbox hb; replace HO150 := zA.mk (Kd.zN (aR HO150) hb); replace HO152 := zA.mk (Kd.zN (aR HO152) hb); have BK153 := zA.mk (hbox); have GW153 := zA.mk ((by rw [hg]; exact (below_size (aL HB)) : w.heap.size ≤ gb153)); replace HB := zA.mk (below_step (aL HB) hb); have GE153 := GW153; have NB146_153 := zA.mk ((by rw [hg]; exact Nat.ne_of_lt (blk_lt (aB BK146)) : gb146 ≠ gb153)); have NB153_146 := zA.mk ((by rw [hg]; exact Nat.ne_of_gt (blk_lt (g := gb146) (o := .cells #[.slice none 0 0, .slice none 0 0] 60 (0, 0)) (aB BK146)) : gb153 ≠ gb146)); replace BK146 := zA.mk (blk_below (aB BK146) hb); clear hb hbox hg; have hnb11 := NB153_146.out; have hnc11 := NB146_153.out; obtain ⟨hcz12_0, hcz12_1, hfz12_0, hfz12_1⟩ := aC2 BK153) | ((with_reducible refine gate_store (t := 60) (p := 13) rfl ?_); refine store_event (t := 60) (p := 13) (v := ?vo_w13) (w1 := ((w10.setCell ⟨gb153, 0, none⟩ (.slice Ao9 t147.length co9)).setCell ⟨gb153, 1, none⟩ (.slice none 0 0))) ?hg ?ho ?hn ?hr ?_; (case ho => rfl); (case hg => rfl); (case hn => rfl); (case hr => first | (go_simp; done) | (go_simp; rfl)); intro w13 hw; have n0_ : zA (Kd.R k48 48 w13 w.heap.size (fun _ => True) (.slice Ao9 t147.length co9) t147) := ⟨(by rw [hw]; exact (by (with_reducible repeat (first | apply Kd.zF | apply Kd.zG | apply Kd.zH)); exact Kd.zR (Kd.zO (p := ⟨gb153, 1, none⟩) (Kd.zO (p := ⟨gb153, 0, none⟩) (Kd.zS HO150.out BK153.out (by decide)) (fun _ hk => hk.2) (.slice Ao9 t147.length co9)) (fun _ hk => hk.2) (.slice none 0 0)) (fun _ hk => trivial)))⟩; have n1_ : zA (Kd.R (Kd.int .i64) 3 w13 w.heap.size (fun _ => True) v151 t148) := ⟨(by rw [hw]; exact (by (with_reducible repeat (first | apply Kd.zF | apply Kd.zG | apply Kd.zH)); exact Kd.zR (Kd.zO (p := ⟨gb153, 1, none⟩) (Kd.zO (p := ⟨gb153, 0, none⟩) (Kd.zS HO152.out BK153.out (by decide)) (fun _ hk => hk.2) (.slice Ao9 t147.length co9)) (fun _ hk => hk.2) (.slice none 0 0)) (fun _ hk => trivial)))⟩; have n2_ : zA (w13.heap[gb146]? = some (.cells #[.slice none 0 0, .slice none 0 0] 60 (0, 0))) := ⟨(by rw [hw]; exact (aB BK146))⟩; have n3_ : zA (w13.heap[gb153]? = some (.cells #[.slice Ao9 t147.length co9, .slice none 0 0] 60 (0, 0))) := ⟨(by rw [hw]; exact (by (with_reducible repeat (first | refine zD ?_ _ | refine zC ?_ | refine zB ?_ _)); refine blk_put (cs := #[.slice Ao9 t147.length co9, .slice none 0 0]) ?_ 1 _ rfl; (with_reducible repeat (first | refine zD ?_ _ | refine zC ?_ | refine zB ?_ _)); refine blk_put (cs := #[.slice none 0 0, .slice none 0 0]) ?_ 0 _ rfl; (with_reducible repeat (first | refine zD ?_ _ | refine zC ?_ | refine zB ?_ _)); exact BK153.out))⟩; have n4_ : zA (Below w.heap.size w w13) := ⟨(by rw [hw]; exact (aL HB))⟩; clear hw; clear HO150; clear HO152; clear BK146; clear BK153; clear HB; have HO150 := n0_; have HO152 := n1_; have BK146 := n2_; have BK153 := n3_; have HB := n4_; clear n0_ n1_ n2_ n3_ n4_; obtain ⟨Ao14, co14, eo14⟩ := Kd.zP HO152.out; subst eo14))
 go_loopg [27] k (fun kq v27 w' => ∃ (x27_1 : Int) (x154001_1 : List Int) (u154001 : Value), v27 = .int .i64 x27_1 ∧ zA (items_Make.l0 kq l0 l2 l3 t148 (t148.length : Int) x27_1 t147 x154001_1 = some (r1, r2)) ∧ zA (kq ≤ k) ∧ zA (Kd.R (Kd.int .i64) 3 w' w.heap.size (fun _ => True) (.slice Ao14 t148.length co14) t148) ∧ zA (Kd.R k48 48 w' w.heap.size (fun _ => True) (.slice Ao9 t147.length co9) t147) ∧ zA (Kd.R (Kd.int .u8) 53 w' w.heap.size (fun _ => True) u154001 x154001_1) ∧ zA (w'.heap[gb146]? = some (.cells #[(.slice none 0 0), (.slice none 0 0)] 60 (0, 0))) ∧ zA (w'.heap[gb153]? = some (.cells #[(.slice Ao9 t147.length co9), u154001] 60 (0, 0))) ∧ zA (Below w.heap.size w w'))
 case atStart => exact ⟨(0), (([] : List Int)), (.slice none 0 0), aZ, H', ⟨Nat.le_refl _⟩, ⟨aR HO152⟩, ⟨aR HO150⟩, ⟨by first | exact Kd.R_nil _ _ _ _ _ | exact Kd.N_nil _ _ _ _ _ | exact Kd.V_nil _ _ _ _ _ | exact Kd.Q_nil _ _ _ _ _ | exact Kd.S_nil _ _ _ _ _⟩, ⟨aB BK146⟩, ⟨aB BK153⟩, ⟨aL HB⟩⟩
 clear H'; obtain ⟨x27_1, x154001_1, u154001, rfl, HA, HK1, HO_25, HO_154000, HO_154001, BK146, BK153, HB⟩ := hrel; cases gk with
 | zero => exact absurd HA.out (by simp [items_Make.l0])
 | succ k1 =>
  have H := HA.out; clear HA; simp only [items_Make.l0] at H; by_cases c15 : x27_1 < (t148.length : Int)
  rotate_left
  ·rw [if_neg c15] at H
   have c15b0 : decide (x27_1 < (t148.length : Int)) = false := decide_eq_false c15
   clear c15; simp only [Option.some.injEq, Prod.mk.injEq] at H; obtain ⟨rfl, rfl⟩ := H; have hnb61 := NB153_146.out; have hnc61 := NB146_153.out; obtain ⟨hcz62_0, hcz62_1, hfz62_0, hfz62_1⟩ := aC2 BK153; obtain ⟨hcz63_0, hcz63_1, hfz63_0, hfz63_1⟩ := aC2 BK146; obtain ⟨Ao64, co64, eo64⟩ := Kd.zP HO_154001.out; subst eo64; go_wp2_with (first | ((with_reducible refine gate_store (t := 60) (p := 10) rfl ?_); refine store_event (t := 60) (p := 10) (v := ?vo_w65) (w1 := ((wr.setCell ⟨gb146, 0, none⟩ (.slice Ao9 t147.length co9)).setCell ⟨gb146, 1, none⟩ (.slice Ao64 x154001_1.length co64))) ?hg ?ho ?hn ?hr ?_; (case ho => rfl); (case hg => rfl); (case hn => rfl); (case hr => first | (go_simp; done) | (go_simp; rfl)); intro w65 hw; have n0_ : zA (Kd.R (Kd.int .i64) 3 w65 w.heap.size (fun _ => True) (.slice Ao14 t148.length co14) t148) := ⟨(by rw [hw]; exact (by (with_reducible repeat (first | apply Kd.zF | apply Kd.zG | apply Kd.zH)); exact Kd.zR (Kd.zO (p := ⟨gb146, 1, none⟩) (Kd.zO (p := ⟨gb146, 0, none⟩) (Kd.zS HO_25.out BK146.out (by decide)) (fun _ hk => hk.2) (.slice Ao9 t147.length co9)) (fun _ hk => hk.2) (.slice Ao64 x154001_1.length co64)) (fun _ hk => trivial)))⟩; have n1_ : zA (Kd.R k48 48 w65 w.heap.size (fun _ => True) (.slice Ao9 t147.length co9) t147) := ⟨(by rw [hw]; exact (by (with_reducible repeat (first | apply Kd.zF | apply Kd.zG | apply Kd.zH)); exact Kd.zR (Kd.zO (p := ⟨gb146, 1, none⟩) (Kd.zO (p := ⟨gb146, 0, none⟩) (Kd.zS HO_154000.out BK146.out (by decide)) (fun _ hk => hk.2) (.slice Ao9 t147.length co9)) (fun _ hk => hk.2) (.slice Ao64 x154001_1.length co64)) (fun _ hk => trivial)))⟩; have n2_ : zA (Kd.R (Kd.int .u8) 53 w65 w.heap.size (fun _ => True) (.slice Ao64 x154001_1.length co64) x154001_1) := ⟨(by rw [hw]; exact (by (with_reducible repeat (first | apply Kd.zF | apply Kd.zG | apply Kd.zH)); exact Kd.zR (Kd.zO (p := ⟨gb146, 1, none⟩) (Kd.zO (p := ⟨gb146, 0, none⟩) (Kd.zS HO_154001.out BK146.out (by decide)) (fun _ hk => hk.2) (.slice Ao9 t147.length co9)) (fun _ hk => hk.2) (.slice Ao64 x154001_1.length co64)) (fun _ hk => trivial)))⟩; have n3_ : zA (w65.heap[gb146]? = some (.cells #[.slice Ao9 t147.length co9, .slice Ao64 x154001_1.length co64] 60 (0, 0))) := ⟨(by rw [hw]; exact (by (with_reducible repeat (first | refine zD ?_ _ | refine zC ?_ | refine zB ?_ _)); refine blk_put (cs := #[.slice Ao9 t147.length co9, .slice none 0 0]) ?_ 1 _ rfl; (with_reducible repeat (first | refine zD ?_ _ | refine zC ?_ | refine zB ?_ _)); refine blk_put (cs := #[.slice none 0 0, .slice none 0 0]) ?_ 0 _ rfl; (with_reducible repeat (first | refine zD ?_ _ | refine zC ?_ | refine zB ?_ _)); exact BK146.out))⟩; have n4_ : zA (w65.heap[gb153]? = some (.cells #[.slice Ao9 t147.length co9, .slice Ao64 x154001_1.length co64] 60 (0, 0))) := ⟨(by rw [hw]; exact (aB BK153))⟩; have n5_ : zA (Below w.heap.size w w65) := ⟨(by rw [hw]; exact (aL HB))⟩; clear hw; clear HO_25; clear HO_154000; clear HO_154001; clear BK146; clear BK153; clear HB; have HO_25 := n0_; have HO_154000 := n1_; have HO_154001 := n2_; have BK146 := n3_; have BK153 := n4_; have HB := n5_; clear n0_ n1_ n2_ n3_ n4_ n5_))
   refine bodyPost_ret (results_cell_row rfl _ _ gb146 60 #[.slice Ao9 t147.length co9, .slice Ao64 x154001_1.length co64] (0, 0) _ rfl (aB BK146) Try.underlying60 rfl (by kernel_rfl)) rfl ?_
   exact ⟨_, _, aX, aR HO_154000, aR HO_154001, aL HB⟩
  rw [if_pos c15] at H; have c15b0 : decide (x27_1 < (t148.length : Int)) = true := decide_eq_true c15
  clear c15; by_cases c16 : 0 ≤ x27_1
  rotate_left
  ·rw [if_neg c16] at H
   exact absurd H (by simp)
  rw [if_pos c16] at H; have c16b0 : decide (0 ≤ x27_1) = true := decide_eq_true c16
  clear c16; by_cases c17 : x27_1 < (t148.length : Int)
  rotate_left
  ·rw [if_neg c17] at H
   exact absurd H (by simp)
  rw [if_pos c17] at H; have c17b0 : decide (x27_1 < (t148.length : Int)) = true := decide_eq_true c17
  clear c17; by_cases c18 : (rd t148 x27_1) = (l0.length : Int)
  ·rw [if_pos c18] at H
   have c18b0 : ((rd t148 x27_1) == (l0.length : Int)) = true := beq_iff_eq.mpr c18
   have c18b1 : ((rd t148 x27_1) != (l0.length : Int)) = false := bne_eq_false_iff_eq.mpr c18
   clear c18; by_cases c19 : x154001_1.length < 140737488355328
   rotate_left
   ·rw [if_neg c19] at H
    exact absurd H (by simp)
   rw [if_pos c19] at H; have LMc19 := zA.mk c19; clear c19; obtain ⟨y155, hy155⟩ : ∃ y_ : List Int, y_ = (x154001_1 ++ [2]) := ⟨_, rfl⟩; replace H : (items_Make.l0 k1 l0 l2 l3 t148 (t148.length : Int) (wrap64 (x27_1 + 1)) t147 y155) = some (r1, r2) := by first | (rw [hy155]; with_reducible exact H) | (have H2_ := (Option.bind_some _ _).symm.trans H; rw [hy155]; with_reducible exact H2_) | (have H2_ := (Option.bind_some _ _).symm.trans H; with_reducible exact H2_) | with_reducible exact H | (rw [hy155]; exact H) | exact H
   have Ny155 := zA.mk hy155; clear hy155; have H' := zA.mk H
   clear H; have p154 : 0 ≤ (x27_1 : Int) := aD
   have q154 : x27_1 < (t148.length : Int) := aD
   obtain ⟨ad154, e154, hx154_0⟩ := Kd.at_int (Kd.zM HO_25.out).2.2 x27_1 p154 q154; cases e154
   replace p154 := eq_true p154; replace q154 := eq_true q154; have hnb20 := NB153_146.out; have hnc20 := NB146_153.out; obtain ⟨hcz21_0, hcz21_1, hfz21_0, hfz21_1⟩ := aC2 BK153; go_wp2_with (first | ((with_reducible refine gate_builtin (b := .append) (xs := #[.tmp 46, .tmp 47]) rfl ?_); (try (refine gate_guard (by rfl) ?_; dsimp only)); at_builtin; refine Kd.R_append (Kd.int .u8) (w0 := w) w.heap.size rfl (.tmp 46) (.tmp 47) 38 53 (.int .u8 0) 1 rfl Try.underlying38 info53 rfl (by decide) (by omega) u154001 x154001_1 2 [.int .u8 2] (fun _ => True) (fun _ => False) rfl rfl ?aP (fun _ hk => hk.elim) ?aF ?aO ?aB ?aS ?aL ?_; (case aP => exact rfl); (case aB => exact (aL HB)); (case aF => exact (fun _ _ => trivial)); (case aO => exact (aR HO_154001)); (case aS => exact (below_size (aL HB))); (case aL => have := LMc19.out; omega); intro v156 w22 ho hb hg hat; rw [← Ny155.out] at ho; replace HO_25 := zA.mk (Kd.R_over' (aR HO_25) (Kd.R_typed (aR HO_154001)) (by decide) hg); replace HO_154000 := zA.mk (Kd.R_over' (aR HO_154000) (Kd.R_typed (aR HO_154001)) (by decide) hg); replace BK146 := zA.mk (blk_grown (g := gb146) (o := .cells #[.slice none 0 0, .slice none 0 0] 60 (0, 0)) (aB BK146) hg (Kd.R_ne HO_154001.out BK146.out (by decide))); replace BK153 := zA.mk (blk_grown (g := gb153) (o := .cells #[.slice Ao9 t147.length co9, u154001] 60 (0, 0)) (aB BK153) hg (Kd.R_ne HO_154001.out BK153.out (by decide))); replace HB := zA.mk (hb); have HO157 := zA.mk (ho); clear HO_154001; clear ho hb hg hat; obtain ⟨Ao23, co23, eo23⟩ := Kd.zP HO157.out; subst eo23; obtain ⟨hcz24_0, hcz24_1, hfz24_0, hfz24_1⟩ := aC2 BK153))
   go_roundg k1
   case measure => have := HK1.out; omega
   case rel => exact ⟨(wrap64 (x27_1 + 1)), (y155), (.slice Ao23 y155.length co23), aZ, H', ⟨by have := HK1.out; omega⟩, ⟨by (with_reducible repeat (first | apply Kd.zF | apply Kd.zG | apply Kd.zH)); exact Kd.zR (Kd.zO (p := ⟨gb153, 1, none⟩) (Kd.zS HO_25.out BK153.out (by decide)) (fun _ hk => hk.2) (.slice Ao23 y155.length co23)) (fun _ hk => trivial)⟩, ⟨by (with_reducible repeat (first | apply Kd.zF | apply Kd.zG | apply Kd.zH)); exact Kd.zR (Kd.zO (p := ⟨gb153, 1, none⟩) (Kd.zS HO_154000.out BK153.out (by decide)) (fun _ hk => hk.2) (.slice Ao23 y155.length co23)) (fun _ hk => trivial)⟩, ⟨by (with_reducible repeat (first | apply Kd.zF | apply Kd.zG | apply Kd.zH)); exact Kd.zR (Kd.zO (p := ⟨gb153, 1, none⟩) (Kd.zS HO157.out BK153.out (by decide)) (fun _ hk => hk.2) (.slice Ao23 y155.length co23)) (fun _ hk => trivial)⟩, ⟨by (with_reducible repeat (first | refine zD ?_ _ | refine zC ?_ | refine zB ?_ _)); refine blk_far ?_ NB146_153.out _; (with_reducible repeat (first | refine zD ?_ _ | refine zC ?_ | refine zB ?_ _)); exact BK146.out⟩, ⟨by (with_reducible repeat (first | refine zD ?_ _ | refine zC ?_ | refine zB ?_ _)); refine blk_put (cs := #[.slice Ao9 t147.length co9, u154001]) ?_ 1 _ rfl; (with_reducible repeat (first | refine zD ?_ _ | refine zC ?_ | refine zB ?_ _)); exact BK153.out⟩, ⟨aL HB⟩⟩
  rw [if_neg c18] at H; have c18b0 : ((rd t148 x27_1) == (l0.length : Int)) = false := beq_eq_false_iff_ne.mpr c18
  have c18b1 : ((rd t148 x27_1) != (l0.length : Int)) = true := bne_iff_ne.mpr c18
  have HC25 := zA.mk H; clear H; have p154 : 0 ≤ (x27_1 : Int) := aD
  have q154 : x27_1 < (t148.length : Int) := aD
  obtain ⟨ad154, e154, hx154_0⟩ := Kd.at_int (Kd.zM HO_25.out).2.2 x27_1 p154 q154; cases e154
  replace p154 := eq_true p154; replace q154 := eq_true q154; go_upto_region 9 with (fail)
  go_cut [50] (fun v50 wc => ∃ (kq : Nat) (x50_24 : Bool), v50 = .bool x50_24 ∧ zA (items_Make.j1 kq l0 l2 l3 (rd t148 x27_1) t148 (t148.length : Int) x27_1 x50_24 t147 x154001_1 = some (r1, r2)) ∧ zA (kq ≤ k1) ∧ zA (Kd.R (Kd.int .i64) 3 wc w.heap.size (fun _ => True) (.slice (some ad154) t148.length co14) t148) ∧ zA (Kd.R k48 48 wc w.heap.size (fun _ => True) (.slice Ao9 t147.length co9) t147) ∧ zA (Kd.R (Kd.int .u8) 53 wc w.heap.size (fun _ => True) u154001 x154001_1) ∧ zA (wc.heap[gb146]? = some (.cells #[(.slice none 0 0), (.slice none 0 0)] 60 (0, 0))) ∧ zA (wc.heap[gb153]? = some (.cells #[(.slice Ao9 t147.length co9), u154001] 60 (0, 0))) ∧ zA (Below w.heap.size w wc))
  case first =>
   have H := HC25.out; clear HC25; by_cases c26 : (rd t148 x27_1) = 0
   ·rw [if_pos c26] at H
    have c26b0 : ((rd t148 x27_1) == 0) = true := beq_iff_eq.mpr c26
    have c26b1 : ((rd t148 x27_1) != 0) = false := bne_eq_false_iff_eq.mpr c26
    clear c26; (first | rw [c26b0] | (simp only [i64_w, i32_w]; rw [c26b0]) | skip)
    have H' := zA.mk H
    clear H; go_wp2
    go_meet
    case rel => exact ⟨_, (true), aZ, H', ⟨by have := HK1.out; first | omega | exact Nat.le_refl _⟩, ⟨aR HO_25⟩, ⟨aR HO_154000⟩, ⟨aR HO_154001⟩, ⟨aB BK146⟩, ⟨aB BK153⟩, ⟨aL HB⟩⟩
   rw [if_neg c26] at H; have c26b0 : ((rd t148 x27_1) == 0) = false := beq_eq_false_iff_ne.mpr c26
   have c26b1 : ((rd t148 x27_1) != 0) = true := bne_iff_ne.mpr c26
   (first | rw [c26b0] | (simp only [i64_w, i32_w]; rw [c26b0]) | skip)
   have H' := zA.mk H
   clear H; go_wp2
   go_meet
   case rel => exact ⟨_, (decide ((rd t148 x27_1) ≥ (l2.length : Int))), aZ, H', ⟨by have := HK1.out; first | omega | exact Nat.le_refl _⟩, ⟨aR HO_25⟩, ⟨aR HO_154000⟩, ⟨aR HO_154001⟩, ⟨aB BK146⟩, ⟨aB BK153⟩, ⟨aL HB⟩⟩
  clear HC25; obtain ⟨kq, x50_24, rfl, HA, HJ24, HO_25, HO_154000, HO_154001, BK146, BK153, HB⟩ := hcut; cases kq with
  | zero => exact absurd HA.out (by simp [items_Make.j1])
  | succ kj24 =>
   have H := HA.out; clear HA; simp only [items_Make.j1] at H; by_cases c27 : x50_24 = true
   ·subst c27
    have H1 : (if x154001_1.length < 140737488355328 then (items_Make.l0 kj24 l0 l2 l3 t148 (t148.length : Int) (wrap64 (x27_1 + 1)) t147 (x154001_1 ++ [0])) else (none)) = some (r1, r2) := by rw [if_pos rfl] at H; exact H
    clear H; have H := H1; clear H1; by_cases c28 : x154001_1.length < 140737488355328
    rotate_left
    ·rw [if_neg c28] at H
     exact absurd H (by simp)
    rw [if_pos c28] at H; have LMc28 := zA.mk c28; clear c28; obtain ⟨y158, hy158⟩ : ∃ y_ : List Int, y_ = (x154001_1 ++ [0]) := ⟨_, rfl⟩; replace H : (items_Make.l0 kj24 l0 l2 l3 t148 (t148.length : Int) (wrap64 (x27_1 + 1)) t147 y158) = some (r1, r2) := by first | (rw [hy158]; with_reducible exact H) | (have H2_ := (Option.bind_some _ _).symm.trans H; rw [hy158]; with_reducible exact H2_) | (have H2_ := (Option.bind_some _ _).symm.trans H; with_reducible exact H2_) | with_reducible exact H | (rw [hy158]; exact H) | exact H
    have Ny158 := zA.mk hy158; clear hy158; have H' := zA.mk H
    clear H; have hnb29 := NB153_146.out; have hnc29 := NB146_153.out; obtain ⟨hcz30_0, hcz30_1, hfz30_0, hfz30_1⟩ := aC2 BK153; go_wp2_with (first | ((with_reducible refine gate_builtin (b := .append) (xs := #[.tmp 60, .tmp 61]) rfl ?_); (try (refine gate_guard (by rfl) ?_; dsimp only)); at_builtin; refine Kd.R_append (Kd.int .u8) (w0 := w) w.heap.size rfl (.tmp 60) (.tmp 61) 38 53 (.int .u8 0) 1 rfl Try.underlying38 info53 rfl (by decide) (by omega) u154001 x154001_1 0 [.int .u8 0] (fun _ => True) (fun _ => False) rfl rfl ?aP (fun _ hk => hk.elim) ?aF ?aO ?aB ?aS ?aL ?_; (case aP => exact rfl); (case aB => exact (aL HB)); (case aF => exact (fun _ _ => trivial)); (case aO => exact (aR HO_154001)); (case aS => exact (below_size (aL HB))); (case aL => have := LMc28.out; omega); intro v159 w31 ho hb hg hat; rw [← Ny158.out] at ho; replace HO_25 := zA.mk (Kd.R_over' (aR HO_25) (Kd.R_typed (aR HO_154001)) (by decide) hg); replace HO_154000 := zA.mk (Kd.R_over' (aR HO_154000) (Kd.R_typed (aR HO_154001)) (by decide) hg); replace BK146 := zA.mk (blk_grown (g := gb146) (o := .cells #[.slice none 0 0, .slice none 0 0] 60 (0, 0)) (aB BK146) hg (Kd.R_ne HO_154001.out BK146.out (by decide))); replace BK153 := zA.mk (blk_grown (g := gb153) (o := .cells #[.slice Ao9 t147.length co9, u154001] 60 (0, 0)) (aB BK153) hg (Kd.R_ne HO_154001.out BK153.out (by decide))); replace HB := zA.mk (hb); have HO160 := zA.mk (ho); clear HO_154001; clear ho hb hg hat; obtain ⟨Ao32, co32, eo32⟩ := Kd.zP HO160.out; subst eo32; obtain ⟨hcz33_0, hcz33_1, hfz33_0, hfz33_1⟩ := aC2 BK153))
    go_roundg kj24
    case measure => have := HK1.out; have := HJ24.out; omega
    case rel => exact ⟨(wrap64 (x27_1 + 1)), (y158), (.slice Ao32 y158.length co32), aZ, H', ⟨by have := HK1.out; have := HJ24.out; omega⟩, ⟨by (with_reducible repeat (first | apply Kd.zF | apply Kd.zG | apply Kd.zH)); exact Kd.zR (Kd.zO (p := ⟨gb153, 1, none⟩) (Kd.zS HO_25.out BK153.out (by decide)) (fun _ hk => hk.2) (.slice Ao32 y158.length co32)) (fun _ hk => trivial)⟩, ⟨by (with_reducible repeat (first | apply Kd.zF | apply Kd.zG | apply Kd.zH)); exact Kd.zR (Kd.zO (p := ⟨gb153, 1, none⟩) (Kd.zS HO_154000.out BK153.out (by decide)) (fun _ hk => hk.2) (.slice Ao32 y158.length co32)) (fun _ hk => trivial)⟩, ⟨by (with_reducible repeat (first | apply Kd.zF | apply Kd.zG | apply Kd.zH)); exact Kd.zR (Kd.zO (p := ⟨gb153, 1, none⟩) (Kd.zS HO160.out BK153.out (by decide)) (fun _ hk => hk.2) (.slice Ao32 y158.length co32)) (fun _ hk => trivial)⟩, ⟨by (with_reducible repeat (first | refine zD ?_ _ | refine zC ?_ | refine zB ?_ _)); refine blk_far ?_ NB146_153.out _; (with_reducible repeat (first | refine zD ?_ _ | refine zC ?_ | refine zB ?_ _)); exact BK146.out⟩, ⟨by (with_reducible repeat (first | refine zD ?_ _ | refine zC ?_ | refine zB ?_ _)); refine blk_put (cs := #[.slice Ao9 t147.length co9, u154001]) ?_ 1 _ rfl; (with_reducible repeat (first | refine zD ?_ _ | refine zC ?_ | refine zB ?_ _)); exact BK153.out⟩, ⟨aL HB⟩⟩
   replace c27 := Bool.eq_false_iff.mpr c27; subst c27; have H1 : (if 0 ≤ (rd t148 x27_1) then (if (rd t148 x27_1) < (l2.length : Int) then (if (rd l2 (rd t148 x27_1)) = 0 then (if (rd t148 x27_1) < (l3.length : Int) then (if rdOf false l3 (rd t148 x27_1) = true then (if x154001_1.length < 140737488355328 then (items_Make.l0 kj24 l0 l2 l3 t148 (t148.length : Int) (wrap64 (x27_1 + 1)) t147 (x154001_1 ++ [3])) else (none)) else (if x154001_1.length < 140737488355328 then (items_Make.l0 kj24 l0 l2 l3 t148 (t148.length : Int) (wrap64 (x27_1 + 1)) t147 (x154001_1 ++ [rd l2 (rd t148 x27_1)])) else (none))) else (if x154001_1.length < 140737488355328 then (items_Make.l0 kj24 l0 l2 l3 t148 (t148.length : Int) (wrap64 (x27_1 + 1)) t147 (x154001_1 ++ [rd l2 (rd t148 x27_1)])) else (none))) else (if x154001_1.length < 140737488355328 then (items_Make.l0 kj24 l0 l2 l3 t148 (t148.length : Int) (wrap64 (x27_1 + 1)) t147 (x154001_1 ++ [rd l2 (rd t148 x27_1)])) else (none))) else (none)) else (none)) = some (r1, r2) := by rw [if_neg (show ¬ (false = true) by decide)] at H; exact H
   clear H; have H := H1; clear H1; by_cases c34 : 0 ≤ (rd t148 x27_1)
   rotate_left
   ·rw [if_neg c34] at H
    exact absurd H (by simp)
   rw [if_pos c34] at H; have c34b0 : decide (0 ≤ (rd t148 x27_1)) = true := decide_eq_true c34
   clear c34; by_cases c35 : (rd t148 x27_1) < (l2.length : Int)
   rotate_left
   ·rw [if_neg c35] at H
    exact absurd H (by simp)
   rw [if_pos c35] at H; have c35b0 : decide ((rd t148 x27_1) < (l2.length : Int)) = true := decide_eq_true c35
   clear c35; by_cases c36 : (rd l2 (rd t148 x27_1)) = 0
   rotate_left
   ·rw [if_neg c36] at H
    have c36b0 : ((rd l2 (rd t148 x27_1)) == 0) = false := beq_eq_false_iff_ne.mpr c36
    have c36b1 : ((rd l2 (rd t148 x27_1)) != 0) = true := bne_iff_ne.mpr c36
    by_cases c56 : x154001_1.length < 140737488355328
    rotate_left
    ·rw [if_neg c56] at H
     exact absurd H (by simp)
    rw [if_pos c56] at H; have LMc56 := zA.mk c56; clear c56; obtain ⟨y175, hy175⟩ : ∃ y_ : List Int, y_ = (x154001_1 ++ [rd l2 (rd t148 x27_1)]) := ⟨_, rfl⟩; replace H : (items_Make.l0 kj24 l0 l2 l3 t148 (t148.length : Int) (wrap64 (x27_1 + 1)) t147 y175) = some (r1, r2) := by first | (rw [hy175]; with_reducible exact H) | (have H2_ := (Option.bind_some _ _).symm.trans H; rw [hy175]; with_reducible exact H2_) | (have H2_ := (Option.bind_some _ _).symm.trans H; with_reducible exact H2_) | with_reducible exact H | (rw [hy175]; exact H) | exact H
    have Ny175 := zA.mk hy175; clear hy175; have H' := zA.mk H
    clear H; have p161 : 0 ≤ ((rd t148 x27_1) : Int) := aD
    have q161 : (rd t148 x27_1) < (l2.length : Int) := aD
    obtain ⟨ad161, e161, hx161_0⟩ := Kd.at_int HR2.out (rd t148 x27_1) p161 q161; cases e161
    replace hx161_0 := (HB.out.cell (World.block_lt_of_cell? w _ hx161_0)).trans hx161_0; replace p161 := eq_true p161; replace q161 := eq_true q161; try go_wp2
    replace HO_25 := zA.mk (Kd.zH HO_25.out); replace HO_154000 := zA.mk (Kd.zH HO_154000.out); replace HO_154001 := zA.mk (Kd.zH HO_154001.out); replace BK146 := zA.mk (zC BK146.out); replace BK153 := zA.mk (zC BK153.out); replace HB := zA.mk (below_drew1 HB.out); have p174 : 0 ≤ ((rd t148 x27_1) : Int) := aD
    have q174 : (rd t148 x27_1) < (l2.length : Int) := aD
    obtain ⟨ad174, e174, hx174_0⟩ := Kd.at_int HR2.out (rd t148 x27_1) p174 q174; have hw174_0 := hx174_0; obtain rfl : ad161 = ad174 := (by injection e174)
    replace hx174_0 := (HB.out.cell (World.block_lt_of_cell? w _ hx174_0)).trans hx174_0; replace p174 := eq_true p174; replace q174 := eq_true q174; refine start_ (n := 10) (S := fun w' => w'.cell? ⟨gb153, 0, none⟩ = some (.slice Ao9 t147.length co9) ∧ w'.cell? ⟨gb153, 1, none⟩ = some (u154001) ∧ w'.cell? (ad161.add ((rd t148 x27_1)).toNat) = some (.int .u8 (rd l2 (rd t148 x27_1)))) (ds := [9]) #[false, false, false, false, false, false, false, false, false, false] (by kernel_rfl) rfl rfl ⟨(zE BK153.out 0).trans rfl, (zE BK153.out 1).trans rfl, ((HB.out.cell (World.block_lt_of_cell? w _ hw174_0)).trans hw174_0)⟩ (fun hHeld => ?_); refine with_tabW items_Make.tab6 items_Make.bits6 (fun HT_ HW_ => ?_)
    generalize wc.drew = w57 at HO_25 HO_154000 HO_154001 BK146 BK153 HB hx174_0 hHeld ⊢
    refine aP 0 (some 31) (tf_ 1 10) HT_ ?_
    refine aP 2 (some 33) (tb_ 5 10) HT_ ?_
    refine aP 3 (some 34) (tb_ 13 10) HT_ ?_
    refine aP 4 (some 35) (tb_ 29 10) HT_ ?_
    refine take_ (i := 1) (N := some 32) (v := ?_) (a' := ?_) (tf_ 5 10) rfl rfl (take_ofW HT_.out HW_.out (by kernel_rfl)) (fun _ _ _ h => h) (Or.inl ⟨by rfl, ?_⟩) hHeld ?_ ?_
    rotate_left
    ·rintro w' ⟨s0, s1, s2⟩
     go_simp
     with_reducible rfl
    rotate_left
    ·simp only [Act.put, sA_, sB_, sC_, i64_w, i32_w]
     rfl
    refine take_ (i := 5) (N := some 36) (v := ?_) (a' := ?_) (tf_ 6 10) rfl rfl (take_ofW HT_.out HW_.out (by kernel_rfl)) (fun _ _ _ h => h) (Or.inl ⟨by rfl, ?_⟩) hHeld ?_ ?_
    rotate_left
    ·rintro w' ⟨s0, s1, s2⟩
     go_simp
     with_reducible rfl
    rotate_left
    ·simp only [Act.put, sA_, sB_, sC_, i64_w, i32_w]
     rfl
    refine one_ (i := 6) (N := some 37) (tb_ 127 10) rfl rfl (one_of HT_.out (by kernel_rfl)) (by decide) (fun K hK => ?_)
    refine value_ (w1 := ?_) (v := ?_) (by rfl) rfl ?_ ?_
    rotate_left 2
    ·go_simp
     constructor
     ·rfl
     rfl
    refine hK.out _ _ ⟨(zE (zB BK153.out _) 0).trans rfl, (zE (zB BK153.out _) 1).trans rfl, (World.cell?_alloc_lt _ _ _ (World.block_lt_of_cell? _ _ (((HB.out.cell (World.block_lt_of_cell? w _ hw174_0)).trans hw174_0)))).trans (((HB.out.cell (World.block_lt_of_cell? w _ hw174_0)).trans hw174_0))⟩ (fun hHeld => ?_)
    clear hK K; refine norm_ (a' := ?_) ?_ ?_
    rotate_left
    ·show Act.put _ (some 37) _ = _
     simp only [Act.put, sA_, sB_, sC_, i64_w, i32_w]; rfl
    refine one_ (i := 7) (N := some 38) (tb_ 255 10) rfl rfl (one_of HT_.out (by kernel_rfl)) (by decide) (fun K hK => ?_)
    refine Kd.R_append_step (Kd.int .u8) (w0 := w) w.heap.size (by rfl) (.tmp 32) (.tmp 37) 38 53 (.int .u8 0) 1 rfl Try.underlying38 info53 rfl (by decide) (by omega) u154001 x154001_1 (rd l2 (rd t148 x27_1)) [.int .u8 (rd l2 (rd t148 x27_1))] (fun _ => True) (fun _ => False) rfl rfl ?aP (fun _ hk => hk.elim) ?aF ?aO ?aB ?aS ?aL ?_
    (case aP => exact rfl)
    (case aB => exact (aL HB))
    (case aF => exact (fun _ _ => trivial))
    (case aO => exact (aR HO_154001))
    (case aS => exact (below_size (aL HB)))
    (case aL => have := LMc56.out; omega)
    intro v176 w58 ho hb hg hat
    rw [← Ny175.out] at ho; replace HO_25 := zA.mk (Kd.R_over' (aR HO_25) (Kd.R_typed (aR HO_154001)) (by decide) hg)
    replace HO_154000 := zA.mk (Kd.R_over' (aR HO_154000) (Kd.R_typed (aR HO_154001)) (by decide) hg)
    replace BK146 := zA.mk (blk_grown (g := gb146) (o := .cells #[.slice none 0 0, .slice none 0 0] 60 (0, 0)) (aB BK146) hg (Kd.R_ne HO_154001.out BK146.out (by decide)))
    replace BK153 := zA.mk (blk_grown (g := gb153) (o := .cells #[.slice Ao9 t147.length co9, u154001] 60 (0, 0)) (aB BK153) hg (Kd.R_ne HO_154001.out BK153.out (by decide)))
    replace HB := zA.mk (hb); have HO177 := zA.mk (ho); clear HO_154001; clear ho hb hg hat; obtain ⟨Ao59, co59, eo59⟩ := Kd.zP HO177.out; (first | subst eo59 | (injection eo59 with f1_ f2_ f3_; have f4_ := f1_.symm; have f5_ := f3_.symm; clear f1_ f2_ f3_; subst f4_; subst f5_))
    refine hK.out _ _ ⟨(zE BK153.out 0).trans rfl, (zE BK153.out 1).trans rfl, ((HB.out.cell (World.block_lt_of_cell? w _ hw174_0)).trans hw174_0)⟩ (fun hHeld => ?_)
    clear hK K; refine norm_ (a' := ?_) ?_ ?_
    rotate_left
    ·show Act.put _ (some 38) _ = _
     simp only [Act.put, sA_, sB_, sC_, i64_w, i32_w]; rfl
    refine aP 8 (some 39) (tf_ 9 10) HT_ ?_
    refine last_ (i := 9) (N := none) (tb_ 1023 10) rfl rfl (one_of HT_.out (by kernel_rfl)) (by decide) (fun K hK => ?_)
    have hs60 : w58.cell? ⟨gb153, 1, none⟩ = some (u154001) := (zE BK153.out 1).trans rfl
    have hfs60 := blk_frozen BK153.out 1; have hns60_0 := NB146_153.out; have hms60_0 := NB153_146.out; refine skip_ (w1 := ?_) (by rfl) rfl ?_ ?_
    rotate_left
    ·go_simp
     rfl
    refine hK.out _ _ ?_
    clear hK K; refine done_ (done_of HT_.out (by kernel_rfl)) ?_
    try go_wp2
    go_roundg kj24
    case measure => have := HK1.out; have := HJ24.out; omega
    case rel => exact ⟨(wrap64 (x27_1 + 1)), (y175), (.slice Ao59 y175.length co59), aZ, H', ⟨by have := HK1.out; have := HJ24.out; omega⟩, ⟨by (with_reducible repeat (first | apply Kd.zF | apply Kd.zG | apply Kd.zH)); exact Kd.zR (Kd.zO (p := ⟨gb153, 1, none⟩) (Kd.zS HO_25.out BK153.out (by decide)) (fun _ hk => hk.2) (.slice Ao59 y175.length co59)) (fun _ hk => trivial)⟩, ⟨by (with_reducible repeat (first | apply Kd.zF | apply Kd.zG | apply Kd.zH)); exact Kd.zR (Kd.zO (p := ⟨gb153, 1, none⟩) (Kd.zS HO_154000.out BK153.out (by decide)) (fun _ hk => hk.2) (.slice Ao59 y175.length co59)) (fun _ hk => trivial)⟩, ⟨by (with_reducible repeat (first | apply Kd.zF | apply Kd.zG | apply Kd.zH)); exact Kd.zR (Kd.zO (p := ⟨gb153, 1, none⟩) (Kd.zS HO177.out BK153.out (by decide)) (fun _ hk => hk.2) (.slice Ao59 y175.length co59)) (fun _ hk => trivial)⟩, ⟨by (with_reducible repeat (first | refine zD ?_ _ | refine zC ?_ | refine zB ?_ _)); refine blk_far ?_ NB146_153.out _; (with_reducible repeat (first | refine zD ?_ _ | refine zC ?_ | refine zB ?_ _)); exact BK146.out⟩, ⟨by (with_reducible repeat (first | refine zD ?_ _ | refine zC ?_ | refine zB ?_ _)); refine blk_put (cs := #[.slice Ao9 t147.length co9, u154001]) ?_ 1 _ rfl; (with_reducible repeat (first | refine zD ?_ _ | refine zC ?_ | refine zB ?_ _)); exact BK153.out⟩, ⟨aL HB⟩⟩
   rw [if_pos c36] at H; have c36b0 : ((rd l2 (rd t148 x27_1)) == 0) = true := beq_iff_eq.mpr c36
   have c36b1 : ((rd l2 (rd t148 x27_1)) != 0) = false := bne_eq_false_iff_eq.mpr c36
   clear c36; by_cases c37 : (rd t148 x27_1) < (l3.length : Int)
   rotate_left
   ·rw [if_neg c37] at H
    have c37b0 : decide ((rd t148 x27_1) < (l3.length : Int)) = false := decide_eq_false c37
    clear c37; by_cases c51 : x154001_1.length < 140737488355328
    rotate_left
    ·rw [if_neg c51] at H
     exact absurd H (by simp)
    rw [if_pos c51] at H; have LMc51 := zA.mk c51; clear c51; obtain ⟨y171, hy171⟩ : ∃ y_ : List Int, y_ = (x154001_1 ++ [rd l2 (rd t148 x27_1)]) := ⟨_, rfl⟩; replace H : (items_Make.l0 kj24 l0 l2 l3 t148 (t148.length : Int) (wrap64 (x27_1 + 1)) t147 y171) = some (r1, r2) := by first | (rw [hy171]; with_reducible exact H) | (have H2_ := (Option.bind_some _ _).symm.trans H; rw [hy171]; with_reducible exact H2_) | (have H2_ := (Option.bind_some _ _).symm.trans H; with_reducible exact H2_) | with_reducible exact H | (rw [hy171]; exact H) | exact H
    have Ny171 := zA.mk hy171; clear hy171; have H' := zA.mk H
    clear H; have p161 : 0 ≤ ((rd t148 x27_1) : Int) := aD
    have q161 : (rd t148 x27_1) < (l2.length : Int) := aD
    obtain ⟨ad161, e161, hx161_0⟩ := Kd.at_int HR2.out (rd t148 x27_1) p161 q161; cases e161
    replace hx161_0 := (HB.out.cell (World.block_lt_of_cell? w _ hx161_0)).trans hx161_0; replace p161 := eq_true p161; replace q161 := eq_true q161; try go_wp2
    replace HO_25 := zA.mk (Kd.zH HO_25.out); replace HO_154000 := zA.mk (Kd.zH HO_154000.out); replace HO_154001 := zA.mk (Kd.zH HO_154001.out); replace BK146 := zA.mk (zC BK146.out); replace BK153 := zA.mk (zC BK153.out); replace HB := zA.mk (below_drew1 HB.out); have p170 : 0 ≤ ((rd t148 x27_1) : Int) := aD
    have q170 : (rd t148 x27_1) < (l2.length : Int) := aD
    obtain ⟨ad170, e170, hx170_0⟩ := Kd.at_int HR2.out (rd t148 x27_1) p170 q170; have hw170_0 := hx170_0; obtain rfl : ad161 = ad170 := (by injection e170)
    replace hx170_0 := (HB.out.cell (World.block_lt_of_cell? w _ hx170_0)).trans hx170_0; replace p170 := eq_true p170; replace q170 := eq_true q170; refine start_ (n := 10) (S := fun w' => w'.cell? ⟨gb153, 0, none⟩ = some (.slice Ao9 t147.length co9) ∧ w'.cell? ⟨gb153, 1, none⟩ = some (u154001) ∧ w'.cell? (ad161.add ((rd t148 x27_1)).toNat) = some (.int .u8 (rd l2 (rd t148 x27_1)))) (ds := [9]) #[false, false, false, false, false, false, false, false, false, false] (by kernel_rfl) rfl rfl ⟨(zE BK153.out 0).trans rfl, (zE BK153.out 1).trans rfl, ((HB.out.cell (World.block_lt_of_cell? w _ hw170_0)).trans hw170_0)⟩ (fun hHeld => ?_); refine with_tabW items_Make.tab6 items_Make.bits6 (fun HT_ HW_ => ?_)
    generalize wc.drew = w52 at HO_25 HO_154000 HO_154001 BK146 BK153 HB hx170_0 hHeld ⊢
    refine aP 0 (some 31) (tf_ 1 10) HT_ ?_
    refine aP 2 (some 33) (tb_ 5 10) HT_ ?_
    refine aP 3 (some 34) (tb_ 13 10) HT_ ?_
    refine aP 4 (some 35) (tb_ 29 10) HT_ ?_
    refine take_ (i := 1) (N := some 32) (v := ?_) (a' := ?_) (tf_ 5 10) rfl rfl (take_ofW HT_.out HW_.out (by kernel_rfl)) (fun _ _ _ h => h) (Or.inl ⟨by rfl, ?_⟩) hHeld ?_ ?_
    rotate_left
    ·rintro w' ⟨s0, s1, s2⟩
     go_simp
     with_reducible rfl
    rotate_left
    ·simp only [Act.put, sA_, sB_, sC_, i64_w, i32_w]
     rfl
    refine take_ (i := 5) (N := some 36) (v := ?_) (a' := ?_) (tf_ 6 10) rfl rfl (take_ofW HT_.out HW_.out (by kernel_rfl)) (fun _ _ _ h => h) (Or.inl ⟨by rfl, ?_⟩) hHeld ?_ ?_
    rotate_left
    ·rintro w' ⟨s0, s1, s2⟩
     go_simp
     with_reducible rfl
    rotate_left
    ·simp only [Act.put, sA_, sB_, sC_, i64_w, i32_w]
     rfl
    refine one_ (i := 6) (N := some 37) (tb_ 127 10) rfl rfl (one_of HT_.out (by kernel_rfl)) (by decide) (fun K hK => ?_)
    refine value_ (w1 := ?_) (v := ?_) (by rfl) rfl ?_ ?_
    rotate_left 2
    ·go_simp
     constructor
     ·rfl
     rfl
    refine hK.out _ _ ⟨(zE (zB BK153.out _) 0).trans rfl, (zE (zB BK153.out _) 1).trans rfl, (World.cell?_alloc_lt _ _ _ (World.block_lt_of_cell? _ _ (((HB.out.cell (World.block_lt_of_cell? w _ hw170_0)).trans hw170_0)))).trans (((HB.out.cell (World.block_lt_of_cell? w _ hw170_0)).trans hw170_0))⟩ (fun hHeld => ?_)
    clear hK K; refine norm_ (a' := ?_) ?_ ?_
    rotate_left
    ·show Act.put _ (some 37) _ = _
     simp only [Act.put, sA_, sB_, sC_, i64_w, i32_w]; rfl
    refine one_ (i := 7) (N := some 38) (tb_ 255 10) rfl rfl (one_of HT_.out (by kernel_rfl)) (by decide) (fun K hK => ?_)
    refine Kd.R_append_step (Kd.int .u8) (w0 := w) w.heap.size (by rfl) (.tmp 32) (.tmp 37) 38 53 (.int .u8 0) 1 rfl Try.underlying38 info53 rfl (by decide) (by omega) u154001 x154001_1 (rd l2 (rd t148 x27_1)) [.int .u8 (rd l2 (rd t148 x27_1))] (fun _ => True) (fun _ => False) rfl rfl ?aP (fun _ hk => hk.elim) ?aF ?aO ?aB ?aS ?aL ?_
    (case aP => exact rfl)
    (case aB => exact (aL HB))
    (case aF => exact (fun _ _ => trivial))
    (case aO => exact (aR HO_154001))
    (case aS => exact (below_size (aL HB)))
    (case aL => have := LMc51.out; omega)
    intro v172 w53 ho hb hg hat
    rw [← Ny171.out] at ho; replace HO_25 := zA.mk (Kd.R_over' (aR HO_25) (Kd.R_typed (aR HO_154001)) (by decide) hg)
    replace HO_154000 := zA.mk (Kd.R_over' (aR HO_154000) (Kd.R_typed (aR HO_154001)) (by decide) hg)
    replace BK146 := zA.mk (blk_grown (g := gb146) (o := .cells #[.slice none 0 0, .slice none 0 0] 60 (0, 0)) (aB BK146) hg (Kd.R_ne HO_154001.out BK146.out (by decide)))
    replace BK153 := zA.mk (blk_grown (g := gb153) (o := .cells #[.slice Ao9 t147.length co9, u154001] 60 (0, 0)) (aB BK153) hg (Kd.R_ne HO_154001.out BK153.out (by decide)))
    replace HB := zA.mk (hb); have HO173 := zA.mk (ho); clear HO_154001; clear ho hb hg hat; obtain ⟨Ao54, co54, eo54⟩ := Kd.zP HO173.out; (first | subst eo54 | (injection eo54 with f1_ f2_ f3_; have f4_ := f1_.symm; have f5_ := f3_.symm; clear f1_ f2_ f3_; subst f4_; subst f5_))
    refine hK.out _ _ ⟨(zE BK153.out 0).trans rfl, (zE BK153.out 1).trans rfl, ((HB.out.cell (World.block_lt_of_cell? w _ hw170_0)).trans hw170_0)⟩ (fun hHeld => ?_)
    clear hK K; refine norm_ (a' := ?_) ?_ ?_
    rotate_left
    ·show Act.put _ (some 38) _ = _
     simp only [Act.put, sA_, sB_, sC_, i64_w, i32_w]; rfl
    refine aP 8 (some 39) (tf_ 9 10) HT_ ?_
    refine last_ (i := 9) (N := none) (tb_ 1023 10) rfl rfl (one_of HT_.out (by kernel_rfl)) (by decide) (fun K hK => ?_)
    have hs55 : w53.cell? ⟨gb153, 1, none⟩ = some (u154001) := (zE BK153.out 1).trans rfl
    have hfs55 := blk_frozen BK153.out 1; have hns55_0 := NB146_153.out; have hms55_0 := NB153_146.out; refine skip_ (w1 := ?_) (by rfl) rfl ?_ ?_
    rotate_left
    ·go_simp
     rfl
    refine hK.out _ _ ?_
    clear hK K; refine done_ (done_of HT_.out (by kernel_rfl)) ?_
    try go_wp2
    go_roundg kj24
    case measure => have := HK1.out; have := HJ24.out; omega
    case rel => exact ⟨(wrap64 (x27_1 + 1)), (y171), (.slice Ao54 y171.length co54), aZ, H', ⟨by have := HK1.out; have := HJ24.out; omega⟩, ⟨by (with_reducible repeat (first | apply Kd.zF | apply Kd.zG | apply Kd.zH)); exact Kd.zR (Kd.zO (p := ⟨gb153, 1, none⟩) (Kd.zS HO_25.out BK153.out (by decide)) (fun _ hk => hk.2) (.slice Ao54 y171.length co54)) (fun _ hk => trivial)⟩, ⟨by (with_reducible repeat (first | apply Kd.zF | apply Kd.zG | apply Kd.zH)); exact Kd.zR (Kd.zO (p := ⟨gb153, 1, none⟩) (Kd.zS HO_154000.out BK153.out (by decide)) (fun _ hk => hk.2) (.slice Ao54 y171.length co54)) (fun _ hk => trivial)⟩, ⟨by (with_reducible repeat (first | apply Kd.zF | apply Kd.zG | apply Kd.zH)); exact Kd.zR (Kd.zO (p := ⟨gb153, 1, none⟩) (Kd.zS HO173.out BK153.out (by decide)) (fun _ hk => hk.2) (.slice Ao54 y171.length co54)) (fun _ hk => trivial)⟩, ⟨by (with_reducible repeat (first | refine zD ?_ _ | refine zC ?_ | refine zB ?_ _)); refine blk_far ?_ NB146_153.out _; (with_reducible repeat (first | refine zD ?_ _ | refine zC ?_ | refine zB ?_ _)); exact BK146.out⟩, ⟨by (with_reducible repeat (first | refine zD ?_ _ | refine zC ?_ | refine zB ?_ _)); refine blk_put (cs := #[.slice Ao9 t147.length co9, u154001]) ?_ 1 _ rfl; (with_reducible repeat (first | refine zD ?_ _ | refine zC ?_ | refine zB ?_ _)); exact BK153.out⟩, ⟨aL HB⟩⟩
   rw [if_pos c37] at H; have c37b0 : decide ((rd t148 x27_1) < (l3.length : Int)) = true := decide_eq_true c37
   clear c37; obtain ⟨bq38, hbq38⟩ : ∃ b_ : Bool, b_ = (rdOf false l3 (rd t148 x27_1)) := ⟨_, rfl⟩; replace H : (if bq38 = true then (if x154001_1.length < 140737488355328 then (items_Make.l0 kj24 l0 l2 l3 t148 (t148.length : Int) (wrap64 (x27_1 + 1)) t147 (x154001_1 ++ [3])) else (none)) else (if x154001_1.length < 140737488355328 then (items_Make.l0 kj24 l0 l2 l3 t148 (t148.length : Int) (wrap64 (x27_1 + 1)) t147 (x154001_1 ++ [rd l2 (rd t148 x27_1)])) else (none))) = some (r1, r2) := by rw [← hbq38] at H; exact H
   have Nbq38 := zA.mk hbq38; clear hbq38; by_cases c39 : bq38 = true
   ·subst c39
    have H1 : (if x154001_1.length < 140737488355328 then (items_Make.l0 kj24 l0 l2 l3 t148 (t148.length : Int) (wrap64 (x27_1 + 1)) t147 (x154001_1 ++ [3])) else (none)) = some (r1, r2) := by rw [if_pos rfl] at H; exact H
    clear H; have H := H1; clear H1; by_cases c40 : x154001_1.length < 140737488355328
    rotate_left
    ·rw [if_neg c40] at H
     exact absurd H (by simp)
    rw [if_pos c40] at H; have LMc40 := zA.mk c40; clear c40; obtain ⟨y163, hy163⟩ : ∃ y_ : List Int, y_ = (x154001_1 ++ [3]) := ⟨_, rfl⟩; replace H : (items_Make.l0 kj24 l0 l2 l3 t148 (t148.length : Int) (wrap64 (x27_1 + 1)) t147 y163) = some (r1, r2) := by first | (rw [hy163]; with_reducible exact H) | (have H2_ := (Option.bind_some _ _).symm.trans H; rw [hy163]; with_reducible exact H2_) | (have H2_ := (Option.bind_some _ _).symm.trans H; with_reducible exact H2_) | with_reducible exact H | (rw [hy163]; exact H) | exact H
    have Ny163 := zA.mk hy163; clear hy163; have H' := zA.mk H
    clear H; have p161 : 0 ≤ ((rd t148 x27_1) : Int) := aD
    have q161 : (rd t148 x27_1) < (l2.length : Int) := aD
    obtain ⟨ad161, e161, hx161_0⟩ := Kd.at_int HR2.out (rd t148 x27_1) p161 q161; cases e161
    replace hx161_0 := (HB.out.cell (World.block_lt_of_cell? w _ hx161_0)).trans hx161_0; replace p161 := eq_true p161; replace q161 := eq_true q161; have p162 : 0 ≤ ((rd t148 x27_1) : Int) := aD
    have q162 : (rd t148 x27_1) < (l3.length : Int) := aD
    obtain ⟨ad162, e162, hx162_0⟩ := Kd.at_bool HR3.out (rd t148 x27_1) p162 q162; (try rw [← Nbq38.out] at hx162_0)
    cases e162
    replace hx162_0 := (HB.out.cell (World.block_lt_of_cell? w _ hx162_0)).trans hx162_0; replace p162 := eq_true p162; replace q162 := eq_true q162; have hnb41 := NB153_146.out; have hnc41 := NB146_153.out; obtain ⟨hcz42_0, hcz42_1, hfz42_0, hfz42_1⟩ := aC2 BK153; go_wp2_with (first | ((with_reducible refine gate_builtin (b := .append) (xs := #[.tmp 83, .tmp 84]) rfl ?_); (try (refine gate_guard (by rfl) ?_; dsimp only)); at_builtin; refine Kd.R_append (Kd.int .u8) (w0 := w) w.heap.size rfl (.tmp 83) (.tmp 84) 38 53 (.int .u8 0) 1 rfl Try.underlying38 info53 rfl (by decide) (by omega) u154001 x154001_1 3 [.int .u8 3] (fun _ => True) (fun _ => False) rfl rfl ?aP (fun _ hk => hk.elim) ?aF ?aO ?aB ?aS ?aL ?_; (case aP => exact rfl); (case aB => exact (aL HB)); (case aF => exact (fun _ _ => trivial)); (case aO => exact (aR HO_154001)); (case aS => exact (below_size (aL HB))); (case aL => have := LMc40.out; omega); intro v164 w43 ho hb hg hat; rw [← Ny163.out] at ho; replace HO_25 := zA.mk (Kd.R_over' (aR HO_25) (Kd.R_typed (aR HO_154001)) (by decide) hg); replace HO_154000 := zA.mk (Kd.R_over' (aR HO_154000) (Kd.R_typed (aR HO_154001)) (by decide) hg); replace BK146 := zA.mk (blk_grown (g := gb146) (o := .cells #[.slice none 0 0, .slice none 0 0] 60 (0, 0)) (aB BK146) hg (Kd.R_ne HO_154001.out BK146.out (by decide))); replace BK153 := zA.mk (blk_grown (g := gb153) (o := .cells #[.slice Ao9 t147.length co9, u154001] 60 (0, 0)) (aB BK153) hg (Kd.R_ne HO_154001.out BK153.out (by decide))); replace HB := zA.mk (hb); have HO165 := zA.mk (ho); clear HO_154001; clear ho hb hg hat; obtain ⟨Ao44, co44, eo44⟩ := Kd.zP HO165.out; subst eo44; obtain ⟨hcz45_0, hcz45_1, hfz45_0, hfz45_1⟩ := aC2 BK153))
    go_roundg kj24
    case measure => have := HK1.out; have := HJ24.out; omega
    case rel => exact ⟨(wrap64 (x27_1 + 1)), (y163), (.slice Ao44 y163.length co44), aZ, H', ⟨by have := HK1.out; have := HJ24.out; omega⟩, ⟨by (with_reducible repeat (first | apply Kd.zF | apply Kd.zG | apply Kd.zH)); exact Kd.zR (Kd.zO (p := ⟨gb153, 1, none⟩) (Kd.zS HO_25.out BK153.out (by decide)) (fun _ hk => hk.2) (.slice Ao44 y163.length co44)) (fun _ hk => trivial)⟩, ⟨by (with_reducible repeat (first | apply Kd.zF | apply Kd.zG | apply Kd.zH)); exact Kd.zR (Kd.zO (p := ⟨gb153, 1, none⟩) (Kd.zS HO_154000.out BK153.out (by decide)) (fun _ hk => hk.2) (.slice Ao44 y163.length co44)) (fun _ hk => trivial)⟩, ⟨by (with_reducible repeat (first | apply Kd.zF | apply Kd.zG | apply Kd.zH)); exact Kd.zR (Kd.zO (p := ⟨gb153, 1, none⟩) (Kd.zS HO165.out BK153.out (by decide)) (fun _ hk => hk.2) (.slice Ao44 y163.length co44)) (fun _ hk => trivial)⟩, ⟨by (with_reducible repeat (first | refine zD ?_ _ | refine zC ?_ | refine zB ?_ _)); refine blk_far ?_ NB146_153.out _; (with_reducible repeat (first | refine zD ?_ _ | refine zC ?_ | refine zB ?_ _)); exact BK146.out⟩, ⟨by (with_reducible repeat (first | refine zD ?_ _ | refine zC ?_ | refine zB ?_ _)); refine blk_put (cs := #[.slice Ao9 t147.length co9, u154001]) ?_ 1 _ rfl; (with_reducible repeat (first | refine zD ?_ _ | refine zC ?_ | refine zB ?_ _)); exact BK153.out⟩, ⟨aL HB⟩⟩
   replace c39 := Bool.eq_false_iff.mpr c39; subst c39; have H1 : (if x154001_1.length < 140737488355328 then (items_Make.l0 kj24 l0 l2 l3 t148 (t148.length : Int) (wrap64 (x27_1 + 1)) t147 (x154001_1 ++ [rd l2 (rd t148 x27_1)])) else (none)) = some (r1, r2) := by rw [if_neg (show ¬ (false = true) by decide)] at H; exact H
   clear H; have H := H1; clear H1; by_cases c46 : x154001_1.length < 140737488355328
   rotate_left
   ·rw [if_neg c46] at H
    exact absurd H (by simp)
   rw [if_pos c46] at H; have LMc46 := zA.mk c46; clear c46; obtain ⟨y167, hy167⟩ : ∃ y_ : List Int, y_ = (x154001_1 ++ [rd l2 (rd t148 x27_1)]) := ⟨_, rfl⟩; replace H : (items_Make.l0 kj24 l0 l2 l3 t148 (t148.length : Int) (wrap64 (x27_1 + 1)) t147 y167) = some (r1, r2) := by first | (rw [hy167]; with_reducible exact H) | (have H2_ := (Option.bind_some _ _).symm.trans H; rw [hy167]; with_reducible exact H2_) | (have H2_ := (Option.bind_some _ _).symm.trans H; with_reducible exact H2_) | with_reducible exact H | (rw [hy167]; exact H) | exact H
   have Ny167 := zA.mk hy167; clear hy167; have H' := zA.mk H
   clear H; have p161 : 0 ≤ ((rd t148 x27_1) : Int) := aD
   have q161 : (rd t148 x27_1) < (l2.length : Int) := aD
   obtain ⟨ad161, e161, hx161_0⟩ := Kd.at_int HR2.out (rd t148 x27_1) p161 q161; cases e161
   replace hx161_0 := (HB.out.cell (World.block_lt_of_cell? w _ hx161_0)).trans hx161_0; replace p161 := eq_true p161; replace q161 := eq_true q161; have p162 : 0 ≤ ((rd t148 x27_1) : Int) := aD
   have q162 : (rd t148 x27_1) < (l3.length : Int) := aD
   obtain ⟨ad162, e162, hx162_0⟩ := Kd.at_bool HR3.out (rd t148 x27_1) p162 q162; (try rw [← Nbq38.out] at hx162_0)
   cases e162
   replace hx162_0 := (HB.out.cell (World.block_lt_of_cell? w _ hx162_0)).trans hx162_0; replace p162 := eq_true p162; replace q162 := eq_true q162; try go_wp2
   replace HO_25 := zA.mk (Kd.zH HO_25.out); replace HO_154000 := zA.mk (Kd.zH HO_154000.out); replace HO_154001 := zA.mk (Kd.zH HO_154001.out); replace BK146 := zA.mk (zC BK146.out); replace BK153 := zA.mk (zC BK153.out); replace HB := zA.mk (below_drew1 HB.out); have p166 : 0 ≤ ((rd t148 x27_1) : Int) := aD
   have q166 : (rd t148 x27_1) < (l2.length : Int) := aD
   obtain ⟨ad166, e166, hx166_0⟩ := Kd.at_int HR2.out (rd t148 x27_1) p166 q166; have hw166_0 := hx166_0; obtain rfl : ad161 = ad166 := (by injection e166)
   replace hx166_0 := (HB.out.cell (World.block_lt_of_cell? w _ hx166_0)).trans hx166_0; replace p166 := eq_true p166; replace q166 := eq_true q166; refine start_ (n := 10) (S := fun w' => w'.cell? ⟨gb153, 0, none⟩ = some (.slice Ao9 t147.length co9) ∧ w'.cell? ⟨gb153, 1, none⟩ = some (u154001) ∧ w'.cell? (ad161.add ((rd t148 x27_1)).toNat) = some (.int .u8 (rd l2 (rd t148 x27_1)))) (ds := [9]) #[false, false, false, false, false, false, false, false, false, false] (by kernel_rfl) rfl rfl ⟨(zE BK153.out 0).trans rfl, (zE BK153.out 1).trans rfl, ((HB.out.cell (World.block_lt_of_cell? w _ hw166_0)).trans hw166_0)⟩ (fun hHeld => ?_); refine with_tabW items_Make.tab6 items_Make.bits6 (fun HT_ HW_ => ?_)
   generalize wc.drew = w47 at HO_25 HO_154000 HO_154001 BK146 BK153 HB hx166_0 hHeld ⊢
   refine aP 0 (some 31) (tf_ 1 10) HT_ ?_
   refine aP 2 (some 33) (tb_ 5 10) HT_ ?_
   refine aP 3 (some 34) (tb_ 13 10) HT_ ?_
   refine aP 4 (some 35) (tb_ 29 10) HT_ ?_
   refine take_ (i := 1) (N := some 32) (v := ?_) (a' := ?_) (tf_ 5 10) rfl rfl (take_ofW HT_.out HW_.out (by kernel_rfl)) (fun _ _ _ h => h) (Or.inl ⟨by rfl, ?_⟩) hHeld ?_ ?_
   rotate_left
   ·rintro w' ⟨s0, s1, s2⟩
    go_simp
    with_reducible rfl
   rotate_left
   ·simp only [Act.put, sA_, sB_, sC_, i64_w, i32_w]
    rfl
   refine take_ (i := 5) (N := some 36) (v := ?_) (a' := ?_) (tf_ 6 10) rfl rfl (take_ofW HT_.out HW_.out (by kernel_rfl)) (fun _ _ _ h => h) (Or.inl ⟨by rfl, ?_⟩) hHeld ?_ ?_
   rotate_left
   ·rintro w' ⟨s0, s1, s2⟩
    go_simp
    with_reducible rfl
   rotate_left
   ·simp only [Act.put, sA_, sB_, sC_, i64_w, i32_w]
    rfl
   refine one_ (i := 6) (N := some 37) (tb_ 127 10) rfl rfl (one_of HT_.out (by kernel_rfl)) (by decide) (fun K hK => ?_)
   refine value_ (w1 := ?_) (v := ?_) (by rfl) rfl ?_ ?_
   rotate_left 2
   ·go_simp
    constructor
    ·rfl
    rfl
   refine hK.out _ _ ⟨(zE (zB BK153.out _) 0).trans rfl, (zE (zB BK153.out _) 1).trans rfl, (World.cell?_alloc_lt _ _ _ (World.block_lt_of_cell? _ _ (((HB.out.cell (World.block_lt_of_cell? w _ hw166_0)).trans hw166_0)))).trans (((HB.out.cell (World.block_lt_of_cell? w _ hw166_0)).trans hw166_0))⟩ (fun hHeld => ?_)
   clear hK K; refine norm_ (a' := ?_) ?_ ?_
   rotate_left
   ·show Act.put _ (some 37) _ = _
    simp only [Act.put, sA_, sB_, sC_, i64_w, i32_w]; rfl
   refine one_ (i := 7) (N := some 38) (tb_ 255 10) rfl rfl (one_of HT_.out (by kernel_rfl)) (by decide) (fun K hK => ?_)
   refine Kd.R_append_step (Kd.int .u8) (w0 := w) w.heap.size (by rfl) (.tmp 32) (.tmp 37) 38 53 (.int .u8 0) 1 rfl Try.underlying38 info53 rfl (by decide) (by omega) u154001 x154001_1 (rd l2 (rd t148 x27_1)) [.int .u8 (rd l2 (rd t148 x27_1))] (fun _ => True) (fun _ => False) rfl rfl ?aP (fun _ hk => hk.elim) ?aF ?aO ?aB ?aS ?aL ?_
   (case aP => exact rfl)
   (case aB => exact (aL HB))
   (case aF => exact (fun _ _ => trivial))
   (case aO => exact (aR HO_154001))
   (case aS => exact (below_size (aL HB)))
   (case aL => have := LMc46.out; omega)
   intro v168 w48 ho hb hg hat
   rw [← Ny167.out] at ho; replace HO_25 := zA.mk (Kd.R_over' (aR HO_25) (Kd.R_typed (aR HO_154001)) (by decide) hg)
   replace HO_154000 := zA.mk (Kd.R_over' (aR HO_154000) (Kd.R_typed (aR HO_154001)) (by decide) hg)
   replace BK146 := zA.mk (blk_grown (g := gb146) (o := .cells #[.slice none 0 0, .slice none 0 0] 60 (0, 0)) (aB BK146) hg (Kd.R_ne HO_154001.out BK146.out (by decide)))
   replace BK153 := zA.mk (blk_grown (g := gb153) (o := .cells #[.slice Ao9 t147.length co9, u154001] 60 (0, 0)) (aB BK153) hg (Kd.R_ne HO_154001.out BK153.out (by decide)))
   replace HB := zA.mk (hb); have HO169 := zA.mk (ho); clear HO_154001; clear ho hb hg hat; obtain ⟨Ao49, co49, eo49⟩ := Kd.zP HO169.out; (first | subst eo49 | (injection eo49 with f1_ f2_ f3_; have f4_ := f1_.symm; have f5_ := f3_.symm; clear f1_ f2_ f3_; subst f4_; subst f5_))
   refine hK.out _ _ ⟨(zE BK153.out 0).trans rfl, (zE BK153.out 1).trans rfl, ((HB.out.cell (World.block_lt_of_cell? w _ hw166_0)).trans hw166_0)⟩ (fun hHeld => ?_)
   clear hK K; refine norm_ (a' := ?_) ?_ ?_
   rotate_left
   ·show Act.put _ (some 38) _ = _
    simp only [Act.put, sA_, sB_, sC_, i64_w, i32_w]; rfl
   refine aP 8 (some 39) (tf_ 9 10) HT_ ?_
   refine last_ (i := 9) (N := none) (tb_ 1023 10) rfl rfl (one_of HT_.out (by kernel_rfl)) (by decide) (fun K hK => ?_)
   have hs50 : w48.cell? ⟨gb153, 1, none⟩ = some (u154001) := (zE BK153.out 1).trans rfl
   have hfs50 := blk_frozen BK153.out 1; have hns50_0 := NB146_153.out; have hms50_0 := NB153_146.out; refine skip_ (w1 := ?_) (by rfl) rfl ?_ ?_
   rotate_left
   ·go_simp
    rfl
   refine hK.out _ _ ?_
   clear hK K; refine done_ (done_of HT_.out (by kernel_rfl)) ?_
   try go_wp2
   go_roundg kj24
   case measure => have := HK1.out; have := HJ24.out; omega
   case rel => exact ⟨(wrap64 (x27_1 + 1)), (y167), (.slice Ao49 y167.length co49), aZ, H', ⟨by have := HK1.out; have := HJ24.out; omega⟩, ⟨by (with_reducible repeat (first | apply Kd.zF | apply Kd.zG | apply Kd.zH)); exact Kd.zR (Kd.zO (p := ⟨gb153, 1, none⟩) (Kd.zS HO_25.out BK153.out (by decide)) (fun _ hk => hk.2) (.slice Ao49 y167.length co49)) (fun _ hk => trivial)⟩, ⟨by (with_reducible repeat (first | apply Kd.zF | apply Kd.zG | apply Kd.zH)); exact Kd.zR (Kd.zO (p := ⟨gb153, 1, none⟩) (Kd.zS HO_154000.out BK153.out (by decide)) (fun _ hk => hk.2) (.slice Ao49 y167.length co49)) (fun _ hk => trivial)⟩, ⟨by (with_reducible repeat (first | apply Kd.zF | apply Kd.zG | apply Kd.zH)); exact Kd.zR (Kd.zO (p := ⟨gb153, 1, none⟩) (Kd.zS HO169.out BK153.out (by decide)) (fun _ hk => hk.2) (.slice Ao49 y167.length co49)) (fun _ hk => trivial)⟩, ⟨by (with_reducible repeat (first | refine zD ?_ _ | refine zC ?_ | refine zB ?_ _)); refine blk_far ?_ NB146_153.out _; (with_reducible repeat (first | refine zD ?_ _ | refine zC ?_ | refine zB ?_ _)); exact BK146.out⟩, ⟨by (with_reducible repeat (first | refine zD ?_ _ | refine zC ?_ | refine zB ?_ _)); refine blk_put (cs := #[.slice Ao9 t147.length co9, u154001]) ?_ 1 _ rfl; (with_reducible repeat (first | refine zD ?_ _ | refine zC ?_ | refine zB ?_ _)); exact BK153.out⟩, ⟨aL HB⟩⟩
def items_Parts.l0 : Nat → List Int → List Int → Int → Int → Option (List Int)
 | 0, _, _, _, _ => none
 | k + 1, x3, x7, x8, x9 => if x9 < x8 then (if 0 ≤ x9 then (if x9 < (x7.length : Int) then (if (rd x7 x9) = 2 then (if x3.length < 17592186044416 then (items_Parts.l0 k (x3 ++ [x9]) x7 x8 (wrap64 (x9 + 1))) else (none)) else (items_Parts.l0 k x3 x7 x8 (wrap64 (x9 + 1)))) else (none)) else (none)) else (some x3)
def items_Parts.f (k : Nat) (l0_0 : List (S48)) (l0_1 : List Int) : Option (List Int) := items_Parts.l0 k ([] : List Int) l0_1 (l0_1.length : Int) 0
theorem items_Parts.mono_l : ∀ k, (∀ y0 y1 y2 y3, LeO (items_Parts.l0 k y0 y1 y2 y3) (items_Parts.l0 (k + 1) y0 y1 y2 y3))
 | 0 => fun _ _ _ _ r h => by simp [items_Parts.l0] at h
 | k + 1 => by
  have ih0 := items_Parts.mono_l k
  ·intro y0 y1 y2 y3
   unfold items_Parts.l0
   repeat' (with_reducible first | exact ih0 _ _ _ _ | exact LeO.refl _ | exact LeO.none _ | refine LeO.ite ?_ ?_ | refine LeO.bind ?_ (fun _ => ?_))
theorem items_Parts.mono : ∀ a0 a1 k, LeO (items_Parts.f k a0 a1) (items_Parts.f (k + 1) a0 a1) := by
 intro a0 a1 k
 have ih0 := items_Parts.mono_l k; unfold items_Parts.f
 repeat' (with_reducible first | exact ih0 _ _ _ _ | exact LeO.refl _ | exact LeO.none _ | refine LeO.ite ?_ ?_ | refine LeO.bind ?_ (fun _ => ?_))
set_option maxHeartbeats 8000000 in
set_option maxRecDepth 100000 in
theorem items_Parts.calls (k : Nat) (A0_0 : Option Addr) (c0_0 : Nat) (l0_0 : List (S48)) (A0_1 : Option Addr) (c0_1 : Nat) (l0_1 : List Int) (r : List Int) (w : World) (hr0_0 : Kd.C k48 w A0_0 l0_0.length l0_0) (hc0_0 : l0_0.length ≤ c0_0) (hr0_1 : Kd.C (Kd.int .u8) w A0_1 l0_1.length l0_1) (hc0_1 : l0_1.length ≤ c0_1) (h : items_Parts.f k l0_0 l0_1 = some r) :
  Calls Try.prog 30 #[.agg #[.slice A0_0 l0_0.length c0_0, .slice A0_1 l0_1.length c0_1]] w fun e w' => ∃ v0_ : Value, e = .returned (v0_) ∧ Kd.R (Kd.int .i64) 3 w' w.heap.size (fun _ => True) v0_ r ∧ Below w.heap.size w w' := by
 have hu60 := Try.underlying60; have HR0_0 := zA.mk hr0_0; have HC0_0 := zA.mk hc0_0; clear hr0_0 hc0_0; have HR0_1 := zA.mk hr0_1; have HC0_1 := zA.mk hc0_1; clear hr0_1 hc0_1; have HB := zA.mk (Below.refl w.heap.size w); have H : (items_Parts.l0 k ([] : List Int) l0_1 (l0_1.length : Int) 0) = some r := h
 clear h; have H' := zA.mk H
 clear H; go_enter Try.func30, Try.ntmps30
 go_wp2_with (first | ((with_reducible refine gate_dst (N := 1) rfl ?_); refine box_event ?hg (N := 1) ?hd (cs := #[.slice A0_0 l0_0.length c0_0, .slice A0_1 l0_1.length c0_1]) (t := 60) ?hr ?_; (case hd => rfl); (case hg => rfl); (case hr => first | (go_simp; done) | (go_simp; rfl)); intro gb184 hg w2 hbox hb; have BK184 := zA.mk (hbox); have GW184 := zA.mk ((by rw [hg]; exact (below_size (aL HB)) : w.heap.size ≤ gb184)); replace HB := zA.mk (below_step (aL HB) hb); have GE184 := GW184; clear hb hbox hg; obtain ⟨hcz3_0, hcz3_1, hfz3_0, hfz3_1⟩ := aC2 BK184))
 go_loopg [3, 9] k (fun kq v3 v9 w' => ∃ (x3_1 : List Int) (x9_1 : Int), v9 = .int .i64 x9_1 ∧ zA (items_Parts.l0 kq x3_1 l0_1 (l0_1.length : Int) x9_1 = some r) ∧ zA (kq ≤ k) ∧ zA (Kd.R (Kd.int .i64) 3 w' w.heap.size (fun _ => True) v3 x3_1) ∧ zA (w'.heap[gb184]? = some (.cells #[(.slice A0_0 l0_0.length c0_0), (.slice A0_1 l0_1.length c0_1)] 60 (0, 0))) ∧ zA (Below w.heap.size w w'))
 case atStart => exact ⟨(([] : List Int)), (0), aZ, H', ⟨Nat.le_refl _⟩, ⟨by first | exact Kd.R_nil _ _ _ _ _ | exact Kd.N_nil _ _ _ _ _ | exact Kd.V_nil _ _ _ _ _ | exact Kd.Q_nil _ _ _ _ _ | exact Kd.S_nil _ _ _ _ _⟩, ⟨aB BK184⟩, ⟨aL HB⟩⟩
 clear H'; obtain ⟨x3_1, x9_1, rfl, HA, HK1, HO_3, BK184, HB⟩ := hrel; cases gk with
 | zero => exact absurd HA.out (by simp [items_Parts.l0])
 | succ k1 =>
  have H := HA.out; clear HA; simp only [items_Parts.l0] at H; by_cases c4 : x9_1 < (l0_1.length : Int)
  rotate_left
  ·rw [if_neg c4] at H
   have c4b0 : decide (x9_1 < (l0_1.length : Int)) = false := decide_eq_false c4
   clear c4; obtain rfl := Option.some.inj H
   go_wp2
   go_ret
   exact ⟨_, aX, aR HO_3, aL HB⟩
  rw [if_pos c4] at H; have c4b0 : decide (x9_1 < (l0_1.length : Int)) = true := decide_eq_true c4
  clear c4; by_cases c5 : 0 ≤ x9_1
  rotate_left
  ·rw [if_neg c5] at H
   exact absurd H (by simp)
  rw [if_pos c5] at H; have c5b0 : decide (0 ≤ x9_1) = true := decide_eq_true c5
  clear c5; by_cases c6 : x9_1 < (l0_1.length : Int)
  rotate_left
  ·rw [if_neg c6] at H
   exact absurd H (by simp)
  rw [if_pos c6] at H; have c6b0 : decide (x9_1 < (l0_1.length : Int)) = true := decide_eq_true c6
  clear c6; by_cases c7 : (rd l0_1 x9_1) = 2
  rotate_left
  ·rw [if_neg c7] at H
   have c7b0 : ((rd l0_1 x9_1) == 2) = false := beq_eq_false_iff_ne.mpr c7
   have c7b1 : ((rd l0_1 x9_1) != 2) = true := bne_iff_ne.mpr c7
   have H' := zA.mk H
   clear H; have p185 : 0 ≤ (x9_1 : Int) := aD
   have q185 : x9_1 < (l0_1.length : Int) := aD
   obtain ⟨ad185, e185, hx185_0⟩ := Kd.at_int HR0_1.out x9_1 p185 q185; cases e185
   replace hx185_0 := (HB.out.cell (World.block_lt_of_cell? w _ hx185_0)).trans hx185_0; replace p185 := eq_true p185; replace q185 := eq_true q185; go_wp2
   go_roundg k1
   case measure => have := HK1.out; omega
   case rel => exact ⟨(x3_1), (wrap64 (x9_1 + 1)), aZ, H', ⟨by have := HK1.out; omega⟩, ⟨aR HO_3⟩, ⟨aB BK184⟩, ⟨aL HB⟩⟩
  rw [if_pos c7] at H; have c7b0 : ((rd l0_1 x9_1) == 2) = true := beq_iff_eq.mpr c7
  have c7b1 : ((rd l0_1 x9_1) != 2) = false := bne_eq_false_iff_eq.mpr c7
  clear c7; by_cases c8 : x3_1.length < 17592186044416
  rotate_left
  ·rw [if_neg c8] at H
   exact absurd H (by simp)
  rw [if_pos c8] at H; have LMc8 := zA.mk c8; clear c8; obtain ⟨y186, hy186⟩ : ∃ y_ : List Int, y_ = (x3_1 ++ [x9_1]) := ⟨_, rfl⟩; replace H : (items_Parts.l0 k1 y186 l0_1 (l0_1.length : Int) (wrap64 (x9_1 + 1))) = some r := by first | (rw [hy186]; with_reducible exact H) | (have H2_ := (Option.bind_some _ _).symm.trans H; rw [hy186]; with_reducible exact H2_) | (have H2_ := (Option.bind_some _ _).symm.trans H; with_reducible exact H2_) | with_reducible exact H | (rw [hy186]; exact H) | exact H
  have Ny186 := zA.mk hy186; clear hy186; have H' := zA.mk H
  clear H; have p185 : 0 ≤ (x9_1 : Int) := aD
  have q185 : x9_1 < (l0_1.length : Int) := aD
  obtain ⟨ad185, e185, hx185_0⟩ := Kd.at_int HR0_1.out x9_1 p185 q185; cases e185
  replace hx185_0 := (HB.out.cell (World.block_lt_of_cell? w _ hx185_0)).trans hx185_0; replace p185 := eq_true p185; replace q185 := eq_true q185; go_wp2_with (first | ((with_reducible refine gate_builtin (b := .append) (xs := #[.tmp 16, .tmp 18]) rfl ?_); at_builtin; refine Kd.R_append (Kd.int .i64) (w0 := w) w.heap.size rfl (.tmp 16) (.tmp 18) 35 3 (.int .i64 0) 8 rfl Try.underlying35 info3 rfl (by decide) (by omega) u3 x3_1 x9_1 [.int .i64 x9_1] (fun _ => True) (fun _ => False) rfl rfl ?aP (fun _ hk => hk.elim) ?aF ?aO ?aB ?aS ?aL ?_; (case aP => exact rfl); (case aB => exact (aL HB)); (case aF => exact (fun _ _ => trivial)); (case aO => exact (aR HO_3)); (case aS => exact (below_size (aL HB))); (case aL => have := LMc8.out; omega); intro v187 w9 ho hb hg hat; rw [← Ny186.out] at ho; replace BK184 := zA.mk (blk_grown (g := gb184) (o := .cells #[.slice A0_0 l0_0.length c0_0, .slice (some ad185) l0_1.length c0_1] 60 (0, 0)) (aB BK184) hg (Kd.R_ne HO_3.out BK184.out (by decide))); replace HB := zA.mk (hb); have HO188 := zA.mk (ho); clear HO_3; clear ho hb hg hat))
  go_roundg k1
  case measure => have := HK1.out; omega
  case rel => exact ⟨(y186), (wrap64 (x9_1 + 1)), aZ, H', ⟨by have := HK1.out; omega⟩, ⟨aR HO188⟩, ⟨aB BK184⟩, ⟨aL HB⟩⟩
def stanzalaw11_Awake.f (k : Nat)  : Option (Bool) := if prop_Make.c ([] : List (S45)) 1 = true then ((prop_MakeY.f ([] : List (S45)) 1).bind fun t191 => ((items_Make.f k ([] : List (S50)) ([] : List Int) ([] : List Int) ([] : List Bool) t191).bind fun bt192 => ((items_Make.f k (([(⟨97, 0, 1⟩ : S50), (⟨98, 1, 1⟩ : S50)] : List (S50))) (([0, 1, 2] : List Int)) (([0, 0, 2] : List Int)) (([false, true, false] : List Bool)) t191).bind fun bt211 => (if (bt192.2.length : Int) = 1 then (if 0 < (bt192.2.length : Int) then (if (rd bt192.2 0) = 2 then ((items_Check.f k bt192.1 bt192.2).bind fun t219 => (if t219 = true then (if (bt211.2.length : Int) = 3 then (if 1 < (bt211.2.length : Int) then (if (rd bt211.2 1) = 3 then ((items_Parts.f k bt211.1 bt211.2).bind fun t221 => (some ((t221.length : Int) == 1))) else (some false)) else (none)) else (some false)) else (some false))) else (some false)) else (none)) else (some false))))) else ((prop_MakeN.f ([] : List (S45)) 1).bind fun _ => (some false))
theorem stanzalaw11_Awake.mono : ∀ k, LeO (stanzalaw11_Awake.f k ) (stanzalaw11_Awake.f (k + 1) ) := by
 intro  k
 unfold stanzalaw11_Awake.f
 repeat' (with_reducible first | exact items_Check.mono _ _ _ | exact items_Make.mono _ _ _ _ _ _ | exact items_Parts.mono _ _ _ | exact LeO.refl _ | exact LeO.none _ | refine LeO.ite ?_ ?_ | refine LeO.bind ?_ (fun _ => ?_))
set_option maxHeartbeats 8000000 in
set_option maxRecDepth 100000 in
theorem stanzalaw11_Awake.calls (k : Nat)  (r : Bool) (w : World) (h : stanzalaw11_Awake.f k  = some r) (hrt_ : zA (r = true)) :
  Calls Try.prog 23 #[] w fun e w' => e = .returned (.bool r) ∧ Below w.heap.size w w' := by
 have hu60 := Try.underlying60; have hu50 := Try.underlying50; have HB := zA.mk (Below.refl w.heap.size w); have H : (if prop_Make.c ([] : List (S45)) 1 = true then ((prop_MakeY.f ([] : List (S45)) 1).bind fun t191 => ((items_Make.f k ([] : List (S50)) ([] : List Int) ([] : List Int) ([] : List Bool) t191).bind fun bt192 => ((items_Make.f k (([(⟨97, 0, 1⟩ : S50), (⟨98, 1, 1⟩ : S50)] : List (S50))) (([0, 1, 2] : List Int)) (([0, 0, 2] : List Int)) (([false, true, false] : List Bool)) t191).bind fun bt211 => (if (bt192.2.length : Int) = 1 then (if 0 < (bt192.2.length : Int) then (if (rd bt192.2 0) = 2 then ((items_Check.f k bt192.1 bt192.2).bind fun t219 => (if t219 = true then (if (bt211.2.length : Int) = 3 then (if 1 < (bt211.2.length : Int) then (if (rd bt211.2 1) = 3 then ((items_Parts.f k bt211.1 bt211.2).bind fun t221 => (some ((t221.length : Int) == 1))) else (some false)) else (none)) else (some false)) else (some false))) else (some false)) else (none)) else (some false))))) else ((prop_MakeN.f ([] : List (S45)) 1).bind fun _ => (some false))) = some r := h
 clear h; by_cases c1 : prop_Make.c ([] : List (S45)) 1 = true
 rotate_left
 ·rw [if_neg c1] at H
  have c1b0 : prop_Make.c ([] : List (S45)) 1 = false := by simpa using c1
  clear c1; replace H := Option.bind_eq_some_iff.mp H; obtain ⟨_, A490, H⟩ := H; replace H : (some false) = some r := H; have A49 := zA.mk A490; clear A490; exact absurd ((Option.some.inj H).trans hrt_.out) (by decide)
 rw [if_pos c1] at H; have c1b0 : prop_Make.c ([] : List (S45)) 1 = true := c1
 clear c1; replace H := Option.bind_eq_some_iff.mp H; obtain ⟨t191, A20, H⟩ := H; replace H : ((items_Make.f k ([] : List (S50)) ([] : List Int) ([] : List Int) ([] : List Bool) t191).bind fun bt192 => ((items_Make.f k (([(⟨97, 0, 1⟩ : S50), (⟨98, 1, 1⟩ : S50)] : List (S50))) (([0, 1, 2] : List Int)) (([0, 0, 2] : List Int)) (([false, true, false] : List Bool)) t191).bind fun bt211 => (if (bt192.2.length : Int) = 1 then (if 0 < (bt192.2.length : Int) then (if (rd bt192.2 0) = 2 then ((items_Check.f k bt192.1 bt192.2).bind fun t219 => (if t219 = true then (if (bt211.2.length : Int) = 3 then (if 1 < (bt211.2.length : Int) then (if (rd bt211.2 1) = 3 then ((items_Parts.f k bt211.1 bt211.2).bind fun t221 => (some ((t221.length : Int) == 1))) else (some false)) else (none)) else (some false)) else (some false))) else (some false)) else (none)) else (some false)))) = some r := H
 have A2 := zA.mk A20; clear A20; replace H := Option.bind_eq_some_iff.mp H; obtain ⟨⟨t192, t195⟩, A30, H⟩ := H; replace H : ((items_Make.f k (([(⟨97, 0, 1⟩ : S50), (⟨98, 1, 1⟩ : S50)] : List (S50))) (([0, 1, 2] : List Int)) (([0, 0, 2] : List Int)) (([false, true, false] : List Bool)) t191).bind fun bt211 => (if (t195.length : Int) = 1 then (if 0 < (t195.length : Int) then (if (rd t195 0) = 2 then ((items_Check.f k t192 t195).bind fun t219 => (if t219 = true then (if (bt211.2.length : Int) = 3 then (if 1 < (bt211.2.length : Int) then (if (rd bt211.2 1) = 3 then ((items_Parts.f k bt211.1 bt211.2).bind fun t221 => (some ((t221.length : Int) == 1))) else (some false)) else (none)) else (some false)) else (some false))) else (some false)) else (none)) else (some false))) = some r := H
 have A3 := zA.mk A30; clear A30; obtain ⟨y199, hy199⟩ : ∃ y_ : List (S50), y_ = (([(⟨97, 0, 1⟩ : S50), (⟨98, 1, 1⟩ : S50)] : List (S50))) := ⟨_, rfl⟩; replace H : ((items_Make.f k y199 (([0, 1, 2] : List Int)) (([0, 0, 2] : List Int)) (([false, true, false] : List Bool)) t191).bind fun bt211 => (if (t195.length : Int) = 1 then (if 0 < (t195.length : Int) then (if (rd t195 0) = 2 then ((items_Check.f k t192 t195).bind fun t219 => (if t219 = true then (if (bt211.2.length : Int) = 3 then (if 1 < (bt211.2.length : Int) then (if (rd bt211.2 1) = 3 then ((items_Parts.f k bt211.1 bt211.2).bind fun t221 => (some ((t221.length : Int) == 1))) else (some false)) else (none)) else (some false)) else (some false))) else (some false)) else (none)) else (some false))) = some r := by first | (rw [hy199]; with_reducible exact H) | (have H2_ := (Option.bind_some _ _).symm.trans H; rw [hy199]; with_reducible exact H2_) | (have H2_ := (Option.bind_some _ _).symm.trans H; with_reducible exact H2_) | with_reducible exact H | (rw [hy199]; exact H) | exact H
 have Ny199 := zA.mk hy199; clear hy199; obtain ⟨y202, hy202⟩ : ∃ y_ : List Int, y_ = (([0, 1, 2] : List Int)) := ⟨_, rfl⟩; replace H : ((items_Make.f k y199 y202 (([0, 0, 2] : List Int)) (([false, true, false] : List Bool)) t191).bind fun bt211 => (if (t195.length : Int) = 1 then (if 0 < (t195.length : Int) then (if (rd t195 0) = 2 then ((items_Check.f k t192 t195).bind fun t219 => (if t219 = true then (if (bt211.2.length : Int) = 3 then (if 1 < (bt211.2.length : Int) then (if (rd bt211.2 1) = 3 then ((items_Parts.f k bt211.1 bt211.2).bind fun t221 => (some ((t221.length : Int) == 1))) else (some false)) else (none)) else (some false)) else (some false))) else (some false)) else (none)) else (some false))) = some r := by first | (rw [hy202]; with_reducible exact H) | (have H2_ := (Option.bind_some _ _).symm.trans H; rw [hy202]; with_reducible exact H2_) | (have H2_ := (Option.bind_some _ _).symm.trans H; with_reducible exact H2_) | with_reducible exact H | (rw [hy202]; exact H) | exact H
 have Ny202 := zA.mk hy202; clear hy202; obtain ⟨y205, hy205⟩ : ∃ y_ : List Int, y_ = (([0, 0, 2] : List Int)) := ⟨_, rfl⟩; replace H : ((items_Make.f k y199 y202 y205 (([false, true, false] : List Bool)) t191).bind fun bt211 => (if (t195.length : Int) = 1 then (if 0 < (t195.length : Int) then (if (rd t195 0) = 2 then ((items_Check.f k t192 t195).bind fun t219 => (if t219 = true then (if (bt211.2.length : Int) = 3 then (if 1 < (bt211.2.length : Int) then (if (rd bt211.2 1) = 3 then ((items_Parts.f k bt211.1 bt211.2).bind fun t221 => (some ((t221.length : Int) == 1))) else (some false)) else (none)) else (some false)) else (some false))) else (some false)) else (none)) else (some false))) = some r := by first | (rw [hy205]; with_reducible exact H) | (have H2_ := (Option.bind_some _ _).symm.trans H; rw [hy205]; with_reducible exact H2_) | (have H2_ := (Option.bind_some _ _).symm.trans H; with_reducible exact H2_) | with_reducible exact H | (rw [hy205]; exact H) | exact H
 have Ny205 := zA.mk hy205; clear hy205; obtain ⟨y208, hy208⟩ : ∃ y_ : List Bool, y_ = (([false, true, false] : List Bool)) := ⟨_, rfl⟩; replace H : ((items_Make.f k y199 y202 y205 y208 t191).bind fun bt211 => (if (t195.length : Int) = 1 then (if 0 < (t195.length : Int) then (if (rd t195 0) = 2 then ((items_Check.f k t192 t195).bind fun t219 => (if t219 = true then (if (bt211.2.length : Int) = 3 then (if 1 < (bt211.2.length : Int) then (if (rd bt211.2 1) = 3 then ((items_Parts.f k bt211.1 bt211.2).bind fun t221 => (some ((t221.length : Int) == 1))) else (some false)) else (none)) else (some false)) else (some false))) else (some false)) else (none)) else (some false))) = some r := by first | (rw [hy208]; with_reducible exact H) | (have H2_ := (Option.bind_some _ _).symm.trans H; rw [hy208]; with_reducible exact H2_) | (have H2_ := (Option.bind_some _ _).symm.trans H; with_reducible exact H2_) | with_reducible exact H | (rw [hy208]; exact H) | exact H
 have Ny208 := zA.mk hy208; clear hy208; replace H := Option.bind_eq_some_iff.mp H; obtain ⟨⟨t211, t214⟩, A40, H⟩ := H; replace H : (if (t195.length : Int) = 1 then (if 0 < (t195.length : Int) then (if (rd t195 0) = 2 then ((items_Check.f k t192 t195).bind fun t219 => (if t219 = true then (if (t214.length : Int) = 3 then (if 1 < (t214.length : Int) then (if (rd t214 1) = 3 then ((items_Parts.f k t211 t214).bind fun t221 => (some ((t221.length : Int) == 1))) else (some false)) else (none)) else (some false)) else (some false))) else (some false)) else (none)) else (some false)) = some r := H
 have A4 := zA.mk A40; clear A40; by_cases c5 : (t195.length : Int) = 1
 rotate_left
 ·rw [if_neg c5] at H
  have c5b0 : ((t195.length : Int) == 1) = false := beq_eq_false_iff_ne.mpr c5
  have c5b1 : ((t195.length : Int) != 1) = true := bne_iff_ne.mpr c5
  exact absurd ((Option.some.inj H).trans hrt_.out) (by decide)
 rw [if_pos c5] at H; have c5b0 : ((t195.length : Int) == 1) = true := beq_iff_eq.mpr c5
 have c5b1 : ((t195.length : Int) != 1) = false := bne_eq_false_iff_eq.mpr c5
 clear c5; by_cases c6 : 0 < (t195.length : Int)
 rotate_left
 ·rw [if_neg c6] at H
  exact absurd H (by simp)
 rw [if_pos c6] at H; have c6b0 : decide (0 < (t195.length : Int)) = true := decide_eq_true c6
 have c6b1 : decide (0 < t195.length) = true := decide_eq_true (by omega)
 clear c6; by_cases c7 : (rd t195 0) = 2
 rotate_left
 ·rw [if_neg c7] at H
  have c7b0 : ((rd t195 0) == 2) = false := beq_eq_false_iff_ne.mpr c7
  have c7b1 : ((rd t195 0) != 2) = true := bne_iff_ne.mpr c7
  exact absurd ((Option.some.inj H).trans hrt_.out) (by decide)
 rw [if_pos c7] at H; have c7b0 : ((rd t195 0) == 2) = true := beq_iff_eq.mpr c7
 have c7b1 : ((rd t195 0) != 2) = false := bne_eq_false_iff_eq.mpr c7
 clear c7; replace H := Option.bind_eq_some_iff.mp H; obtain ⟨t219, A80, H⟩ := H; replace H : (if t219 = true then (if (t214.length : Int) = 3 then (if 1 < (t214.length : Int) then (if (rd t214 1) = 3 then ((items_Parts.f k t211 t214).bind fun t221 => (some ((t221.length : Int) == 1))) else (some false)) else (none)) else (some false)) else (some false)) = some r := H
 have A8 := zA.mk A80; clear A80; by_cases c9 : t219 = true
 rotate_left
 ·replace c9 := Bool.eq_false_iff.mpr c9
  subst c9; have H1 : (some false) = some r := by rw [if_neg (show ¬ (false = true) by decide)] at H; exact H
  clear H; have H := H1; clear H1; exact absurd ((Option.some.inj H).trans hrt_.out) (by decide)
 subst c9; have H1 : (if (t214.length : Int) = 3 then (if 1 < (t214.length : Int) then (if (rd t214 1) = 3 then ((items_Parts.f k t211 t214).bind fun t221 => (some ((t221.length : Int) == 1))) else (some false)) else (none)) else (some false)) = some r := by rw [if_pos rfl] at H; exact H
 clear H; have H := H1; clear H1; by_cases c10 : (t214.length : Int) = 3
 rotate_left
 ·rw [if_neg c10] at H
  have c10b0 : ((t214.length : Int) == 3) = false := beq_eq_false_iff_ne.mpr c10
  have c10b1 : ((t214.length : Int) != 3) = true := bne_iff_ne.mpr c10
  exact absurd ((Option.some.inj H).trans hrt_.out) (by decide)
 rw [if_pos c10] at H; have c10b0 : ((t214.length : Int) == 3) = true := beq_iff_eq.mpr c10
 have c10b1 : ((t214.length : Int) != 3) = false := bne_eq_false_iff_eq.mpr c10
 clear c10; by_cases c11 : 1 < (t214.length : Int)
 rotate_left
 ·rw [if_neg c11] at H
  exact absurd H (by simp)
 rw [if_pos c11] at H; have c11b0 : decide (1 < (t214.length : Int)) = true := decide_eq_true c11
 have c11b1 : decide (1 < t214.length) = true := decide_eq_true (by omega)
 clear c11; by_cases c12 : (rd t214 1) = 3
 rotate_left
 ·rw [if_neg c12] at H
  have c12b0 : ((rd t214 1) == 3) = false := beq_eq_false_iff_ne.mpr c12
  have c12b1 : ((rd t214 1) != 3) = true := bne_iff_ne.mpr c12
  exact absurd ((Option.some.inj H).trans hrt_.out) (by decide)
 rw [if_pos c12] at H; have c12b0 : ((rd t214 1) == 3) = true := beq_iff_eq.mpr c12
 have c12b1 : ((rd t214 1) != 3) = false := bne_eq_false_iff_eq.mpr c12
 clear c12; replace H := Option.bind_eq_some_iff.mp H; obtain ⟨t221, A130, H⟩ := H; replace H : (some ((t221.length : Int) == 1)) = some r := H; have A13 := zA.mk A130; clear A130; obtain rfl := Option.some.inj H
 go_enter Try.func23, Try.ntmps23
 go_wp2_with (first | ((with_reducible refine gate_callee (f := 14) rfl ?_); refine goesL_ (some 6) rfl rfl Try.func14 (by kernel_rfl) rfl #[.slice none 0 0, .int .i64 1] rfl aT ?_; (refine (prop_MakeY.calls _ _ ([] : List (S45)) 1 t191 _ ?side1 ?side2 A2.out).mono ?_); (case side1 => exact Kd.C_nil _ _); (case side2 => exact Nat.le_refl _); rintro e w14 ⟨gb190, ob190, gb191, ob191, rfl, hx1, hx2, hg1, hg2, hne, htb, hb⟩; refine ⟨_, rfl, ?_⟩; have BK190 := zA.mk (hx1); have GW190 := zA.mk ((Nat.le_trans (below_size (aL HB)) hg1 : w.heap.size ≤ gb190)); have GE190 := zA.mk ((Nat.le_trans (below_size (aL HB)) hg1 : w.heap.size ≤ gb190)); have NB190_191 := zA.mk (hne); have BK191 := zA.mk (hx2); have GW191 := zA.mk ((Nat.le_trans (below_size (aL HB)) hg2 : w.heap.size ≤ gb191)); have GE191 := zA.mk ((Nat.le_trans (below_size (aL HB)) hg2 : w.heap.size ≤ gb191)); replace HB := zA.mk (below_step (aL HB) hb); have NB191_190 := zA.mk (Ne.symm hne); have HTt191 := zA.mk (htb); clear hb hx1 hx2 hg1 hg2 hne htb) | ((with_reducible refine gate_callee (f := 24) rfl ?_); refine goesL_ (some 12) rfl rfl Try.func24 (by kernel_rfl) rfl #[.slice none 0 0, .slice none 0 0, .slice none 0 0, .slice none 0 0, .pointer (some ⟨gb190, 0, none⟩)] rfl aT ?_; (refine (items_Make.calls k _ _ ([] : List (S50)) _ _ ([] : List Int) _ _ ([] : List Int) _ _ ([] : List Bool) (.pointer (some ⟨gb190, 0, none⟩)) t191 t192 t195 _ ?side1 ?side2 ?side3 ?side4 ?side5 ?side6 ?side7 ?side8 ?side9 A3.out).mono ?_); (case side1 => exact Kd.C_nil _ _); (case side2 => exact Nat.le_refl _); (case side3 => exact Kd.C_nil _ _); (case side4 => exact Nat.le_refl _); (case side5 => exact Kd.C_nil _ _); (case side6 => exact Nat.le_refl _); (case side7 => exact Kd.C_nil _ _); (case side8 => exact Nat.le_refl _); (case side9 => exact TabO.at HTt191.out (aB BK190) (aB BK191)); rintro e w15 ⟨v193, v196, rfl, ho0, ho1, hb⟩; refine ⟨_, rfl, ?_⟩; have HO194 := zA.mk (Kd.zQ (Kd.R_newB (Kd.R_newB ho0 (g := gb190) (o := ob190) (aB BK190)) (g := gb191) (o := ob191) (aB BK191)) (below_size (aL HB))); have HO197 := zA.mk (Kd.zQ (Kd.R_newB (Kd.R_newB ho1 (g := gb190) (o := ob190) (aB BK190)) (g := gb191) (o := ob191) (aB BK191)) (below_size (aL HB))); replace BK190 := zA.mk (blk_below (aB BK190) hb); replace BK191 := zA.mk (blk_below (aB BK191) hb); replace HB := zA.mk (below_step (aL HB) hb); (try clear hb); (try clear hb2); (try clear hk); (try clear hi); (try clear ho0); (try clear ho1)) | ((with_reducible refine gate_dst (N := 3) rfl ?_); (try (refine gate_guard (by rfl) ?_; dsimp only)); refine box_event ?hg (N := 3) ?hd (cs := #[.slice none 0 0, .slice none 0 0]) (t := 60) ?hr ?_; (case hd => rfl); (case hg => rfl); (case hr => first | (go_simp; done) | (go_simp; rfl)); intro gb198 hg w16 hbox hb; replace HO194 := zA.mk (Kd.zN (aR HO194) hb); replace HO197 := zA.mk (Kd.zN (aR HO197) hb); have BK198 := zA.mk (hbox); have GW198 := zA.mk ((by rw [hg]; exact (below_size (aL HB)) : w.heap.size ≤ gb198)); replace HB := zA.mk (below_step (aL HB) hb); have GE198 := GW198; have NB190_198 := zA.mk ((by rw [hg]; exact Nat.ne_of_lt (blk_lt (aB BK190)) : gb190 ≠ gb198)); have NB198_190 := zA.mk ((by rw [hg]; exact Nat.ne_of_gt (blk_lt (g := gb190) (o := ob190) (aB BK190)) : gb198 ≠ gb190)); replace BK190 := zA.mk (blk_below (aB BK190) hb); have NB191_198 := zA.mk ((by rw [hg]; exact Nat.ne_of_lt (blk_lt (aB BK191)) : gb191 ≠ gb198)); have NB198_191 := zA.mk ((by rw [hg]; exact Nat.ne_of_gt (blk_lt (g := gb191) (o := ob191) (aB BK191)) : gb198 ≠ gb191)); replace BK191 := zA.mk (blk_below (aB BK191) hb); clear hb hbox hg; obtain ⟨Ao17, co17, eo17⟩ := Kd.zP HO194.out; subst eo17; have hnb18 := NB198_190.out; have hnc18 := NB190_198.out; have hnb19 := NB198_191.out; have hnc19 := NB191_198.out; obtain ⟨hcz20_0, hcz20_1, hfz20_0, hfz20_1⟩ := aC2 BK198; obtain ⟨Ao21, co21, eo21⟩ := Kd.zP HO197.out; subst eo21) | ((with_reducible refine gate_store (t := 60) (p := 3) rfl ?_); refine store_event (t := 60) (p := 3) (v := ?vo_w22) (w1 := ((w16.setCell ⟨gb198, 0, none⟩ (.slice Ao17 t192.length co17)).setCell ⟨gb198, 1, none⟩ (.slice Ao21 t195.length co21))) ?hg ?ho ?hn ?hr ?_; (case ho => rfl); (case hg => rfl); (case hn => rfl); (case hr => first | (go_simp; done) | (go_simp; rfl)); intro w22 hw; have n0_ : zA (Kd.R k48 48 w22 w.heap.size (fun k_ => k_ ≠ gb190 ∧ k_ ≠ gb191) (.slice Ao17 t192.length co17) t192) := ⟨(by rw [hw]; exact (by (with_reducible repeat (first | apply Kd.zF | apply Kd.zG | apply Kd.zH)); exact Kd.zR (Kd.zO (p := ⟨gb198, 1, none⟩) (Kd.zO (p := ⟨gb198, 0, none⟩) (Kd.zS HO194.out BK198.out (by decide)) (fun _ hk => hk.2) (.slice Ao17 t192.length co17)) (fun _ hk => hk.2) (.slice Ao21 t195.length co21)) (fun _ hk => ⟨hk.1.1.2, hk.1.2⟩)))⟩; have n1_ : zA (Kd.R (Kd.int .u8) 53 w22 w.heap.size (fun k_ => k_ ≠ gb190 ∧ k_ ≠ gb191) (.slice Ao21 t195.length co21) t195) := ⟨(by rw [hw]; exact (by (with_reducible repeat (first | apply Kd.zF | apply Kd.zG | apply Kd.zH)); exact Kd.zR (Kd.zO (p := ⟨gb198, 1, none⟩) (Kd.zO (p := ⟨gb198, 0, none⟩) (Kd.zS HO197.out BK198.out (by decide)) (fun _ hk => hk.2) (.slice Ao17 t192.length co17)) (fun _ hk => hk.2) (.slice Ao21 t195.length co21)) (fun _ hk => ⟨hk.1.1.2, hk.1.2⟩)))⟩; have n2_ : zA (w22.heap[gb190]? = some (ob190)) := ⟨(by rw [hw]; exact (by (with_reducible repeat (first | refine zD ?_ _ | refine zC ?_ | refine zB ?_ _)); refine blk_farO ?_ NB190_198.out _; (with_reducible repeat (first | refine zD ?_ _ | refine zC ?_ | refine zB ?_ _)); refine blk_farO ?_ NB190_198.out _; (with_reducible repeat (first | refine zD ?_ _ | refine zC ?_ | refine zB ?_ _)); exact BK190.out))⟩; have n3_ : zA (w22.heap[gb191]? = some (ob191)) := ⟨(by rw [hw]; exact (by (with_reducible repeat (first | refine zD ?_ _ | refine zC ?_ | refine zB ?_ _)); refine blk_farO ?_ NB191_198.out _; (with_reducible repeat (first | refine zD ?_ _ | refine zC ?_ | refine zB ?_ _)); refine blk_farO ?_ NB191_198.out _; (with_reducible repeat (first | refine zD ?_ _ | refine zC ?_ | refine zB ?_ _)); exact BK191.out))⟩; have n4_ : zA (w22.heap[gb198]? = some (.cells #[.slice Ao17 t192.length co17, .slice Ao21 t195.length co21] 60 (0, 0))) := ⟨(by rw [hw]; exact (by (with_reducible repeat (first | refine zD ?_ _ | refine zC ?_ | refine zB ?_ _)); refine blk_put (cs := #[.slice Ao17 t192.length co17, .slice none 0 0]) ?_ 1 _ rfl; (with_reducible repeat (first | refine zD ?_ _ | refine zC ?_ | refine zB ?_ _)); refine blk_put (cs := #[.slice none 0 0, .slice none 0 0]) ?_ 0 _ rfl; (with_reducible repeat (first | refine zD ?_ _ | refine zC ?_ | refine zB ?_ _)); exact BK198.out))⟩; have n5_ : zA (Below w.heap.size w w22) := ⟨(by rw [hw]; exact (aL HB))⟩; clear hw; clear HO194; clear HO197; clear BK190; clear BK191; clear BK198; clear HB; have HO194 := n0_; have HO197 := n1_; have BK190 := n2_; have BK191 := n3_; have BK198 := n4_; have HB := n5_; clear n0_ n1_ n2_ n3_ n4_ n5_) | ((with_reducible refine gate_dst (N := 15) rfl ?_); (try (refine gate_guard (by rfl) ?_; dsimp only)); refine Kd.R_lit k50 _ 50 ?hg (N := 15) ?hd (xs := ([(⟨97, 0, 1⟩ : S50), (⟨98, 1, 1⟩ : S50)] : List (S50))) (inner := [.int .i32 97, .int .i64 0, .int .i64 1, .int .i32 98, .int .i64 1, .int .i64 1]) (ok := fun _ => True) (okp := fun _ => True) ?hr ?hp (fun _ hk => hk) trivial (Below.refl _ _) (Nat.le_refl _) (by simp) ?_; (case hd => rfl); (case hg => rfl); (case hr => first | (go_simp; done) | (go_simp; rfl)); (case hp => exact (Reps.c3 (show Kd.M k50 _ _ _ (⟨97, 0, 1⟩ : S50) [.int .i32 97, .int .i64 0, .int .i64 1] from (k50_mkM _ _ _ (⟨97, 0, 1⟩ : S50) )) (Reps.c3 (show Kd.M k50 _ _ _ (⟨98, 1, 1⟩ : S50) [.int .i32 98, .int .i64 1, .int .i64 1] from (k50_mkM _ _ _ (⟨98, 1, 1⟩ : S50) )) (Reps.none _ _)))); intro v200 w23 ho24 hb hg_ hnew_; clear hg_ hnew_; (first | rw [← Ny199.out] at ho24 | (simp only [Int.reduceToNat] at ho24; rw [← Ny199.out] at ho24)); replace HO194 := zA.mk (Kd.zN (aR HO194) hb); replace HO197 := zA.mk (Kd.zN (aR HO197) hb); have HO201 := zA.mk (Kd.zQ (Kd.R_newB (Kd.R_newB ho24 (g := gb190) (o := ob190) (aB BK190)) (g := gb191) (o := ob191) (aB BK191)) (below_size (aL HB))); replace BK190 := zA.mk (blk_below (aB BK190) hb); replace BK191 := zA.mk (blk_below (aB BK191) hb); replace BK198 := zA.mk (blk_below (aB BK198) hb); replace HB := zA.mk (below_step (aL HB) hb); clear hb ho24) | ((with_reducible refine gate_dst (N := 16) rfl ?_); (try (refine gate_guard (by rfl) ?_; dsimp only)); refine Kd.R_lit (Kd.int .u8) _ 53 ?hg (N := 16) ?hd (xs := ([0, 1, 2] : List Int)) (inner := [.int .u8 0, .int .u8 1, .int .u8 2]) (ok := fun _ => True) (okp := fun _ => True) ?hr ?hp (fun _ hk => hk) trivial (Below.refl _ _) (Nat.le_refl _) (by simp) ?_; (case hd => rfl); (case hg => rfl); (case hr => first | (go_simp; done) | (go_simp; rfl)); (case hp => exact (Reps.one (show Kd.M (Kd.int .u8) _ _ _ 0 [.int .u8 0] from rfl) (Reps.one (show Kd.M (Kd.int .u8) _ _ _ 1 [.int .u8 1] from rfl) (Reps.one (show Kd.M (Kd.int .u8) _ _ _ 2 [.int .u8 2] from rfl) (Reps.none _ _))))); intro v203 w25 ho26 hb hg_ hnew_; clear hg_ hnew_; (first | rw [← Ny202.out] at ho26 | (simp only [Int.reduceToNat] at ho26; rw [← Ny202.out] at ho26)); replace HO194 := zA.mk (Kd.zN (aR HO194) hb); replace HO201 := zA.mk (Kd.zN (aR HO201) hb); have HO204 := zA.mk (Kd.zQ (Kd.R_newB (Kd.R_newB (Kd.R_new' ho26 (Kd.R_lt (aR HO197))) (g := gb190) (o := ob190) (aB BK190)) (g := gb191) (o := ob191) (aB BK191)) (below_size (aL HB))); replace HO197 := zA.mk (Kd.R_elder' (aR HO197) (Kd.R_base ho26) hb); replace BK190 := zA.mk (blk_below (aB BK190) hb); replace BK191 := zA.mk (blk_below (aB BK191) hb); replace BK198 := zA.mk (blk_below (aB BK198) hb); replace HB := zA.mk (below_step (aL HB) hb); clear hb ho26) | ((with_reducible refine gate_dst (N := 17) rfl ?_); (try (refine gate_guard (by rfl) ?_; dsimp only)); refine Kd.R_lit (Kd.int .u8) _ 53 ?hg (N := 17) ?hd (xs := ([0, 0, 2] : List Int)) (inner := [.int .u8 0, .int .u8 0, .int .u8 2]) (ok := fun _ => True) (okp := fun _ => True) ?hr ?hp (fun _ hk => hk) trivial (Below.refl _ _) (Nat.le_refl _) (by simp) ?_; (case hd => rfl); (case hg => rfl); (case hr => first | (go_simp; done) | (go_simp; rfl)); (case hp => exact (Reps.one (show Kd.M (Kd.int .u8) _ _ _ 0 [.int .u8 0] from rfl) (Reps.one (show Kd.M (Kd.int .u8) _ _ _ 0 [.int .u8 0] from rfl) (Reps.one (show Kd.M (Kd.int .u8) _ _ _ 2 [.int .u8 2] from rfl) (Reps.none _ _))))); intro v206 w27 ho28 hb hg_ hnew_; clear hg_ hnew_; (first | rw [← Ny205.out] at ho28 | (simp only [Int.reduceToNat] at ho28; rw [← Ny205.out] at ho28)); replace HO194 := zA.mk (Kd.zN (aR HO194) hb); replace HO201 := zA.mk (Kd.zN (aR HO201) hb); have HO207 := zA.mk (Kd.zQ (Kd.R_newB (Kd.R_newB (Kd.R_new' (Kd.R_new' ho28 (Kd.R_lt (aR HO197))) (Kd.R_lt (aR HO204))) (g := gb190) (o := ob190) (aB BK190)) (g := gb191) (o := ob191) (aB BK191)) (below_size (aL HB))); replace HO197 := zA.mk (Kd.R_elder' (aR HO197) (Kd.R_base ho28) hb); replace HO204 := zA.mk (Kd.R_elder' (aR HO204) (Kd.R_base ho28) hb); replace BK190 := zA.mk (blk_below (aB BK190) hb); replace BK191 := zA.mk (blk_below (aB BK191) hb); replace BK198 := zA.mk (blk_below (aB BK198) hb); replace HB := zA.mk (below_step (aL HB) hb); clear hb ho28) | ((with_reducible refine gate_dst (N := 18) rfl ?_); (try (refine gate_guard (by rfl) ?_; dsimp only)); refine Kd.R_lit Kd.bool _ 4 ?hg (N := 18) ?hd (xs := ([false, true, false] : List Bool)) (inner := [.bool false, .bool true, .bool false]) (ok := fun _ => True) (okp := fun _ => True) ?hr ?hp (fun _ hk => hk) trivial (Below.refl _ _) (Nat.le_refl _) (by simp) ?_; (case hd => rfl); (case hg => rfl); (case hr => first | (go_simp; done) | (go_simp; rfl)); (case hp => exact (Reps.one (show Kd.M Kd.bool _ _ _ false [.bool false] from rfl) (Reps.one (show Kd.M Kd.bool _ _ _ true [.bool true] from rfl) (Reps.one (show Kd.M Kd.bool _ _ _ false [.bool false] from rfl) (Reps.none _ _))))); intro v209 w29 ho30 hb hg_ hnew_; clear hg_ hnew_; (first | rw [← Ny208.out] at ho30 | (simp only [Int.reduceToNat] at ho30; rw [← Ny208.out] at ho30)); replace HO194 := zA.mk (Kd.zN (aR HO194) hb); replace HO197 := zA.mk (Kd.zN (aR HO197) hb); replace HO201 := zA.mk (Kd.zN (aR HO201) hb); replace HO204 := zA.mk (Kd.zN (aR HO204) hb); replace HO207 := zA.mk (Kd.zN (aR HO207) hb); have HO210 := zA.mk (Kd.zQ (Kd.R_newB (Kd.R_newB ho30 (g := gb190) (o := ob190) (aB BK190)) (g := gb191) (o := ob191) (aB BK191)) (below_size (aL HB))); replace BK190 := zA.mk (blk_below (aB BK190) hb); replace BK191 := zA.mk (blk_below (aB BK191) hb); replace BK198 := zA.mk (blk_below (aB BK198) hb); replace HB := zA.mk (below_step (aL HB) hb); clear hb ho30; obtain ⟨Ao31, co31, eo31⟩ := Kd.zP HO201.out; subst eo31; obtain ⟨Ao32, co32, eo32⟩ := Kd.zP HO204.out; subst eo32; obtain ⟨Ao33, co33, eo33⟩ := Kd.zP HO207.out; subst eo33; obtain ⟨Ao34, co34, eo34⟩ := Kd.zP HO210.out; subst eo34) | ((with_reducible refine gate_callee (f := 24) rfl ?_); refine goesL_ (some 20) rfl rfl Try.func24 (by kernel_rfl) rfl #[.slice Ao31 y199.length co31, .slice Ao32 y202.length co32, .slice Ao33 y205.length co33, .slice Ao34 y208.length co34, .pointer (some ⟨gb190, 0, none⟩)] rfl aT ?_; (with_reducible refine (items_Make.calls k _ _ y199 _ _ y202 _ _ y205 _ _ y208 (.pointer (some ⟨gb190, 0, none⟩)) t191 t211 t214 _ ?side1 ?side2 ?side3 ?side4 ?side5 ?side6 ?side7 ?side8 ?side9 A4.out).mono ?_); (case side1 => exact aF HO201); (case side2 => exact (Kd.zM HO201.out).2.1); (case side3 => exact aF HO204); (case side4 => exact (Kd.zM HO204.out).2.1); (case side5 => exact aF HO207); (case side6 => exact (Kd.zM HO207.out).2.1); (case side7 => exact aF HO210); (case side8 => exact (Kd.zM HO210.out).2.1); (case side9 => exact TabO.at HTt191.out (aB BK190) (aB BK191)); rintro e w35 ⟨v212, v215, rfl, ho0, ho1, hb⟩; refine ⟨_, rfl, ?_⟩; replace HO201 := zA.mk (Kd.zN (aR HO201) hb); replace HO210 := zA.mk (Kd.zN (aR HO210) hb); have HO213 := zA.mk (Kd.zQ (Kd.R_newB (Kd.R_newB (Kd.R_new' ho0 (Kd.R_lt (aR HO194))) (g := gb190) (o := ob190) (aB BK190)) (g := gb191) (o := ob191) (aB BK191)) (below_size (aL HB))); replace HO194 := zA.mk (Kd.R_elder' (aR HO194) (Kd.R_base ho0) hb); have HO216 := zA.mk (Kd.zQ (Kd.R_newB (Kd.R_newB (Kd.R_new' (Kd.R_new' (Kd.R_new' ho1 (Kd.R_lt (aR HO197))) (Kd.R_lt (aR HO204))) (Kd.R_lt (aR HO207))) (g := gb190) (o := ob190) (aB BK190)) (g := gb191) (o := ob191) (aB BK191)) (below_size (aL HB))); replace HO197 := zA.mk (Kd.R_elder' (aR HO197) (Kd.R_base ho1) hb); replace HO204 := zA.mk (Kd.R_elder' (aR HO204) (Kd.R_base ho1) hb); replace HO207 := zA.mk (Kd.R_elder' (aR HO207) (Kd.R_base ho1) hb); replace BK190 := zA.mk (blk_below (aB BK190) hb); replace BK191 := zA.mk (blk_below (aB BK191) hb); replace BK198 := zA.mk (blk_below (aB BK198) hb); replace HB := zA.mk (below_step (aL HB) hb); (try clear hb); (try clear hb2); (try clear hk); (try clear hi); (try clear ho0); (try clear ho1)) | ((with_reducible refine gate_dst (N := 4) rfl ?_); (try (refine gate_guard (by rfl) ?_; dsimp only)); refine box_event ?hg (N := 4) ?hd (cs := #[.slice none 0 0, .slice none 0 0]) (t := 60) ?hr ?_; (case hd => rfl); (case hg => rfl); (case hr => first | (go_simp; done) | (go_simp; rfl)); intro gb217 hg w36 hbox hb; replace HO194 := zA.mk (Kd.zN (aR HO194) hb); replace HO197 := zA.mk (Kd.zN (aR HO197) hb); replace HO201 := zA.mk (Kd.zN (aR HO201) hb); replace HO204 := zA.mk (Kd.zN (aR HO204) hb); replace HO207 := zA.mk (Kd.zN (aR HO207) hb); replace HO210 := zA.mk (Kd.zN (aR HO210) hb); replace HO213 := zA.mk (Kd.zN (aR HO213) hb); replace HO216 := zA.mk (Kd.zN (aR HO216) hb); have BK217 := zA.mk (hbox); have GW217 := zA.mk ((by rw [hg]; exact (below_size (aL HB)) : w.heap.size ≤ gb217)); replace HB := zA.mk (below_step (aL HB) hb); have GE217 := GW217; have NB190_217 := zA.mk ((by rw [hg]; exact Nat.ne_of_lt (blk_lt (aB BK190)) : gb190 ≠ gb217)); have NB217_190 := zA.mk ((by rw [hg]; exact Nat.ne_of_gt (blk_lt (g := gb190) (o := ob190) (aB BK190)) : gb217 ≠ gb190)); replace BK190 := zA.mk (blk_below (aB BK190) hb); have NB191_217 := zA.mk ((by rw [hg]; exact Nat.ne_of_lt (blk_lt (aB BK191)) : gb191 ≠ gb217)); have NB217_191 := zA.mk ((by rw [hg]; exact Nat.ne_of_gt (blk_lt (g := gb191) (o := ob191) (aB BK191)) : gb217 ≠ gb191)); replace BK191 := zA.mk (blk_below (aB BK191) hb); have NB198_217 := zA.mk ((by rw [hg]; exact Nat.ne_of_lt (blk_lt (aB BK198)) : gb198 ≠ gb217)); have NB217_198 := zA.mk ((by rw [hg]; exact Nat.ne_of_gt (blk_lt (g := gb198) (o := .cells #[.slice Ao17 t192.length co17, .slice Ao21 t195.length co21] 60 (0, 0)) (aB BK198)) : gb217 ≠ gb198)); replace BK198 := zA.mk (blk_below (aB BK198) hb); clear hb hbox hg; obtain ⟨Ao37, co37, eo37⟩ := Kd.zP HO213.out; subst eo37; have hnb38 := NB217_190.out; have hnc38 := NB190_217.out; have hnb39 := NB217_191.out; have hnc39 := NB191_217.out; have hnb40 := NB217_198.out; have hnc40 := NB198_217.out; obtain ⟨hcz41_0, hcz41_1, hfz41_0, hfz41_1⟩ := aC2 BK217; obtain ⟨Ao42, co42, eo42⟩ := Kd.zP HO216.out; subst eo42) | ((with_reducible refine gate_store (t := 60) (p := 4) rfl ?_); refine store_event (t := 60) (p := 4) (v := ?vo_w43) (w1 := ((w36.setCell ⟨gb217, 0, none⟩ (.slice Ao37 t211.length co37)).setCell ⟨gb217, 1, none⟩ (.slice Ao42 t214.length co42))) ?hg ?ho ?hn ?hr ?_; (case ho => rfl); (case hg => rfl); (case hn => rfl); (case hr => first | (go_simp; done) | (go_simp; rfl)); intro w43 hw; have n0_ : zA (Kd.R k48 48 w43 w.heap.size (fun k_ => some k_ ≠ (.slice Ao37 t211.length co37 : Value).ownBlock ∧ k_ ≠ gb190 ∧ k_ ≠ gb191) (.slice Ao17 t192.length co17) t192) := ⟨(by rw [hw]; exact (by (with_reducible repeat (first | apply Kd.zF | apply Kd.zG | apply Kd.zH)); exact Kd.zR (Kd.zO (p := ⟨gb217, 1, none⟩) (Kd.zO (p := ⟨gb217, 0, none⟩) (Kd.zS HO194.out BK217.out (by decide)) (fun _ hk => hk.2) (.slice Ao37 t211.length co37)) (fun _ hk => hk.2) (.slice Ao42 t214.length co42)) (fun _ hk => ⟨hk.1.2, ⟨hk.1.1.1, hk.1.1.2⟩⟩)))⟩; have n1_ : zA (Kd.R (Kd.int .u8) 53 w43 w.heap.size (fun k_ => some k_ ≠ (.slice Ao32 y202.length co32 : Value).ownBlock ∧ some k_ ≠ (.slice Ao33 y205.length co33 : Value).ownBlock ∧ some k_ ≠ (.slice Ao42 t214.length co42 : Value).ownBlock ∧ k_ ≠ gb190 ∧ k_ ≠ gb191) (.slice Ao21 t195.length co21) t195) := ⟨(by rw [hw]; exact (by (with_reducible repeat (first | apply Kd.zF | apply Kd.zG | apply Kd.zH)); exact Kd.zR (Kd.zO (p := ⟨gb217, 1, none⟩) (Kd.zO (p := ⟨gb217, 0, none⟩) (Kd.zS HO197.out BK217.out (by decide)) (fun _ hk => hk.2) (.slice Ao37 t211.length co37)) (fun _ hk => hk.2) (.slice Ao42 t214.length co42)) (fun _ hk => ⟨hk.1.1.1.2, ⟨hk.1.1.2, ⟨hk.1.2, ⟨hk.1.1.1.1.1, hk.1.1.1.1.2⟩⟩⟩⟩)))⟩; have n2_ : zA (Kd.R k50 50 w43 w.heap.size (fun k_ => k_ ≠ gb190 ∧ k_ ≠ gb191) (.slice Ao31 y199.length co31) y199) := ⟨(by rw [hw]; exact (by (with_reducible repeat (first | apply Kd.zF | apply Kd.zG | apply Kd.zH)); exact Kd.zR (Kd.zO (p := ⟨gb217, 1, none⟩) (Kd.zO (p := ⟨gb217, 0, none⟩) (Kd.zS HO201.out BK217.out (by decide)) (fun _ hk => hk.2) (.slice Ao37 t211.length co37)) (fun _ hk => hk.2) (.slice Ao42 t214.length co42)) (fun _ hk => ⟨hk.1.1.2, hk.1.2⟩)))⟩; have n3_ : zA (Kd.R (Kd.int .u8) 53 w43 w.heap.size (fun k_ => some k_ ≠ (.slice Ao21 t195.length co21 : Value).ownBlock ∧ some k_ ≠ (.slice Ao33 y205.length co33 : Value).ownBlock ∧ some k_ ≠ (.slice Ao42 t214.length co42 : Value).ownBlock ∧ k_ ≠ gb190 ∧ k_ ≠ gb191) (.slice Ao32 y202.length co32) y202) := ⟨(by rw [hw]; exact (by (with_reducible repeat (first | apply Kd.zF | apply Kd.zG | apply Kd.zH)); exact Kd.zR (Kd.zO (p := ⟨gb217, 1, none⟩) (Kd.zO (p := ⟨gb217, 0, none⟩) (Kd.zS HO204.out BK217.out (by decide)) (fun _ hk => hk.2) (.slice Ao37 t211.length co37)) (fun _ hk => hk.2) (.slice Ao42 t214.length co42)) (fun _ hk => ⟨hk.1.1.1.1.1.2, ⟨hk.1.1.2, ⟨hk.1.2, ⟨hk.1.1.1.1.2, hk.1.1.1.2⟩⟩⟩⟩)))⟩; have n4_ : zA (Kd.R (Kd.int .u8) 53 w43 w.heap.size (fun k_ => some k_ ≠ (.slice Ao21 t195.length co21 : Value).ownBlock ∧ some k_ ≠ (.slice Ao32 y202.length co32 : Value).ownBlock ∧ some k_ ≠ (.slice Ao42 t214.length co42 : Value).ownBlock ∧ k_ ≠ gb190 ∧ k_ ≠ gb191) (.slice Ao33 y205.length co33) y205) := ⟨(by rw [hw]; exact (by (with_reducible repeat (first | apply Kd.zF | apply Kd.zG | apply Kd.zH)); exact Kd.zR (Kd.zO (p := ⟨gb217, 1, none⟩) (Kd.zO (p := ⟨gb217, 0, none⟩) (Kd.zS HO207.out BK217.out (by decide)) (fun _ hk => hk.2) (.slice Ao37 t211.length co37)) (fun _ hk => hk.2) (.slice Ao42 t214.length co42)) (fun _ hk => ⟨hk.1.1.1.1.1.2, ⟨hk.1.1.1.1.2, ⟨hk.1.2, ⟨hk.1.1.1.2, hk.1.1.2⟩⟩⟩⟩)))⟩; have n5_ : zA (Kd.R Kd.bool 4 w43 w.heap.size (fun k_ => k_ ≠ gb190 ∧ k_ ≠ gb191) (.slice Ao34 y208.length co34) y208) := ⟨(by rw [hw]; exact (by (with_reducible repeat (first | apply Kd.zF | apply Kd.zG | apply Kd.zH)); exact Kd.zR (Kd.zO (p := ⟨gb217, 1, none⟩) (Kd.zO (p := ⟨gb217, 0, none⟩) (Kd.zS HO210.out BK217.out (by decide)) (fun _ hk => hk.2) (.slice Ao37 t211.length co37)) (fun _ hk => hk.2) (.slice Ao42 t214.length co42)) (fun _ hk => ⟨hk.1.1.2, hk.1.2⟩)))⟩; have n6_ : zA (Kd.R k48 48 w43 w.heap.size (fun k_ => some k_ ≠ (.slice Ao17 t192.length co17 : Value).ownBlock ∧ k_ ≠ gb190 ∧ k_ ≠ gb191) (.slice Ao37 t211.length co37) t211) := ⟨(by rw [hw]; exact (by (with_reducible repeat (first | apply Kd.zF | apply Kd.zG | apply Kd.zH)); exact Kd.zR (Kd.zO (p := ⟨gb217, 1, none⟩) (Kd.zO (p := ⟨gb217, 0, none⟩) (Kd.zS HO213.out BK217.out (by decide)) (fun _ hk => hk.2) (.slice Ao37 t211.length co37)) (fun _ hk => hk.2) (.slice Ao42 t214.length co42)) (fun _ hk => ⟨hk.1.1.1.2, ⟨hk.1.1.2, hk.1.2⟩⟩)))⟩; have n7_ : zA (Kd.R (Kd.int .u8) 53 w43 w.heap.size (fun k_ => some k_ ≠ (.slice Ao21 t195.length co21 : Value).ownBlock ∧ some k_ ≠ (.slice Ao32 y202.length co32 : Value).ownBlock ∧ some k_ ≠ (.slice Ao33 y205.length co33 : Value).ownBlock ∧ k_ ≠ gb190 ∧ k_ ≠ gb191) (.slice Ao42 t214.length co42) t214) := ⟨(by rw [hw]; exact (by (with_reducible repeat (first | apply Kd.zF | apply Kd.zG | apply Kd.zH)); exact Kd.zR (Kd.zO (p := ⟨gb217, 1, none⟩) (Kd.zO (p := ⟨gb217, 0, none⟩) (Kd.zS HO216.out BK217.out (by decide)) (fun _ hk => hk.2) (.slice Ao37 t211.length co37)) (fun _ hk => hk.2) (.slice Ao42 t214.length co42)) (fun _ hk => ⟨hk.1.1.1.1.1.2, ⟨hk.1.1.1.1.2, ⟨hk.1.1.1.2, ⟨hk.1.1.2, hk.1.2⟩⟩⟩⟩)))⟩; have n8_ : zA (w43.heap[gb190]? = some (ob190)) := ⟨(by rw [hw]; exact (by (with_reducible repeat (first | refine zD ?_ _ | refine zC ?_ | refine zB ?_ _)); refine blk_farO ?_ NB190_217.out _; (with_reducible repeat (first | refine zD ?_ _ | refine zC ?_ | refine zB ?_ _)); refine blk_farO ?_ NB190_217.out _; (with_reducible repeat (first | refine zD ?_ _ | refine zC ?_ | refine zB ?_ _)); exact BK190.out))⟩; have n9_ : zA (w43.heap[gb191]? = some (ob191)) := ⟨(by rw [hw]; exact (by (with_reducible repeat (first | refine zD ?_ _ | refine zC ?_ | refine zB ?_ _)); refine blk_farO ?_ NB191_217.out _; (with_reducible repeat (first | refine zD ?_ _ | refine zC ?_ | refine zB ?_ _)); refine blk_farO ?_ NB191_217.out _; (with_reducible repeat (first | refine zD ?_ _ | refine zC ?_ | refine zB ?_ _)); exact BK191.out))⟩; have n10_ : zA (w43.heap[gb198]? = some (.cells #[.slice Ao17 t192.length co17, .slice Ao21 t195.length co21] 60 (0, 0))) := ⟨(by rw [hw]; exact (aB BK198))⟩; have n11_ : zA (w43.heap[gb217]? = some (.cells #[.slice Ao37 t211.length co37, .slice Ao42 t214.length co42] 60 (0, 0))) := ⟨(by rw [hw]; exact (by (with_reducible repeat (first | refine zD ?_ _ | refine zC ?_ | refine zB ?_ _)); refine blk_put (cs := #[.slice Ao37 t211.length co37, .slice none 0 0]) ?_ 1 _ rfl; (with_reducible repeat (first | refine zD ?_ _ | refine zC ?_ | refine zB ?_ _)); refine blk_put (cs := #[.slice none 0 0, .slice none 0 0]) ?_ 0 _ rfl; (with_reducible repeat (first | refine zD ?_ _ | refine zC ?_ | refine zB ?_ _)); exact BK217.out))⟩; have n12_ : zA (Below w.heap.size w w43) := ⟨(by rw [hw]; exact (aL HB))⟩; clear hw; clear HO194; clear HO197; clear HO201; clear HO204; clear HO207; clear HO210; clear HO213; clear HO216; clear BK190; clear BK191; clear BK198; clear BK217; clear HB; have HO194 := n0_; have HO197 := n1_; have HO201 := n2_; have HO204 := n3_; have HO207 := n4_; have HO210 := n5_; have HO213 := n6_; have HO216 := n7_; have BK190 := n8_; have BK191 := n9_; have BK198 := n10_; have BK217 := n11_; have HB := n12_; clear n0_ n1_ n2_ n3_ n4_ n5_ n6_ n7_ n8_ n9_ n10_ n11_ n12_; obtain ⟨hcz44_0, hcz44_1, hfz44_0, hfz44_1⟩ := aC2 BK198; have p218 : 0 ≤ (0 : Int) := (by omega); have q218 : 0 < (t195.length : Int) := aD; obtain ⟨ad218, e218, hx218_0⟩ := Kd.at_int (Kd.zM HO197.out).2.2 0 p218 q218; cases e218; have qi218 : (0 < t195.length) = True := eq_true (by omega); (try rw [show ((0 : Int)).toNat = 0 from rfl] at hx218_0); (try rw [Addr.add_zero'] at hx218_0); replace p218 := eq_true p218; replace q218 := eq_true q218) | (go_at_call 28; (with_reducible refine (items_Check.calls k _ _ t192 _ _ t195 true _ ?side1 ?side2 ?side3 ?side4 A8.out).mono ?_); (case side1 => exact aF HO194); (case side2 => exact (Kd.zM HO194.out).2.1); (case side3 => exact aF HO197); (case side4 => exact (Kd.zM HO197.out).2.1); rintro e w45 ⟨rfl, hb⟩; replace HO194 := zA.mk (Kd.zN (aR HO194) hb); replace HO197 := zA.mk (Kd.zN (aR HO197) hb); replace HO201 := zA.mk (Kd.zN (aR HO201) hb); replace HO204 := zA.mk (Kd.zN (aR HO204) hb); replace HO207 := zA.mk (Kd.zN (aR HO207) hb); replace HO210 := zA.mk (Kd.zN (aR HO210) hb); replace HO213 := zA.mk (Kd.zN (aR HO213) hb); replace HO216 := zA.mk (Kd.zN (aR HO216) hb); replace BK190 := zA.mk (blk_below (aB BK190) hb); replace BK191 := zA.mk (blk_below (aB BK191) hb); replace BK198 := zA.mk (blk_below (aB BK198) hb); replace BK217 := zA.mk (blk_below (aB BK217) hb); replace HB := zA.mk (below_step (aL HB) hb); (try clear hb); (try clear hb2); (try clear hk); (try clear hi); obtain ⟨hcz46_0, hcz46_1, hfz46_0, hfz46_1⟩ := aC2 BK217; have p220 : 0 ≤ (1 : Int) := (by omega); have q220 : 1 < (t214.length : Int) := aD; obtain ⟨ad220, e220, hx220_0⟩ := Kd.at_int (Kd.zM HO216.out).2.2 1 p220 q220; cases e220; (try simp only [show (1 : Int).toNat = 1 from rfl, Nat.reduceMul, Nat.reduceEqDiff, Go.Addr.add, ↓reduceIte] at hx220_0); have qi220 : (1 < t214.length) = True := eq_true (by omega); (try rw [show ((1 : Int)).toNat = 1 from rfl] at hx220_0); replace p220 := eq_true p220; replace q220 := eq_true q220) | (go_at_call 30; (with_reducible refine (items_Parts.calls k _ _ t211 _ _ t214 t221 _ ?side1 ?side2 ?side3 ?side4 A13.out).mono ?_); (case side1 => exact aF HO213); (case side2 => exact (Kd.zM HO213.out).2.1); (case side3 => exact aF HO216); (case side4 => exact (Kd.zM HO216.out).2.1); rintro e w47 ⟨v222, rfl, ho0, hb⟩; replace HO194 := zA.mk (Kd.zN (aR HO194) hb); replace HO197 := zA.mk (Kd.zN (aR HO197) hb); replace HO201 := zA.mk (Kd.zN (aR HO201) hb); replace HO204 := zA.mk (Kd.zN (aR HO204) hb); replace HO207 := zA.mk (Kd.zN (aR HO207) hb); replace HO210 := zA.mk (Kd.zN (aR HO210) hb); replace HO213 := zA.mk (Kd.zN (aR HO213) hb); replace HO216 := zA.mk (Kd.zN (aR HO216) hb); have HO223 := zA.mk (Kd.zQ (Kd.R_newB (Kd.R_newB ho0 (g := gb190) (o := ob190) (aB BK190)) (g := gb191) (o := ob191) (aB BK191)) (below_size (aL HB))); replace BK190 := zA.mk (blk_below (aB BK190) hb); replace BK191 := zA.mk (blk_below (aB BK191) hb); replace BK198 := zA.mk (blk_below (aB BK198) hb); replace BK217 := zA.mk (blk_below (aB BK217) hb); replace HB := zA.mk (below_step (aL HB) hb); (try clear hb); (try clear hb2); (try clear hk); (try clear hi); (try clear ho0); obtain ⟨Ao48, co48, eo48⟩ := Kd.zP HO223.out; subst eo48))
 go_ret
 exact ⟨aX, aL HB⟩
end Go.Proofs.Ytigajcipjklknaa.F
end
