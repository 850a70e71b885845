/- Printed by a program: Lean functions that answer as the Go functions do, and the proofs of it. -/
import Derived.Test.YtigajcipjklknaaXItemsHyphens0
import Derived.Test.YtigajcipjklknaaVItemsHyphens0
section
namespace Go.Proofs.Ytigajcipjklknaa.F
open Go.RowKit Go.Proofs.YtigajcipjklknaaW.PrintWords Go.Proofs.YtigajcipjklknaaW.PrintLast Go.Proofs.YtigajcipjklknaaW.PrintMore
attribute [local go_sem] max2_int min2_int max_two min_two max_three min_three max_four min_four   -- for this text's walks alone
set_option linter.unusedVariables false
set_option linter.unusedSimpArgs false
mutual
def cells_Make.l0 : Nat → List (S50) → List Int → Option (List (Int × Int × Int)) → List (S48) → List Int → List (S50) → Int → Int → Option ((List (S48)) × List Int)
 | 0, _, _, _, _, _, _, _, _ => none
 | k + 1, x0, x1, x2, x8, x9, x13, x14, x15 => if x15 < x14 then (if 0 ≤ x15 then (if x15 < (x13.length : Int) then (if x15 = 0 then (cells_Make.j1 k x0 x1 x2 x8 x9 x15 x13 x14 x15 true ((rd_T50 x13 x15).f0) ((rd_T50 x13 x15).f1) ((rd_T50 x13 x15).f2)) else (if x15 < (x1.length : Int) then (cells_Make.j1 k x0 x1 x2 x8 x9 x15 x13 x14 x15 ((rd x1 x15) != 0) ((rd_T50 x13 x15).f0) ((rd_T50 x13 x15).f1) ((rd_T50 x13 x15).f2)) else (cells_Make.j1 k x0 x1 x2 x8 x9 x15 x13 x14 x15 false ((rd_T50 x13 x15).f0) ((rd_T50 x13 x15).f1) ((rd_T50 x13 x15).f2)))) else (none)) else (none)) else (if x9.length < 17592186044416 then (some (x8, (x9 ++ [(x0.length : Int)]))) else (none))
def cells_Make.j1 : Nat → List (S50) → List Int → Option (List (Int × Int × Int)) → List (S48) → List Int → Int → List (S50) → Int → Int → Bool → Int → Int → Int → Option ((List (S48)) × List Int)
 | 0, _, _, _, _, _, _, _, _, _, _, _, _, _ => none
 | k + 1, x0, x1, x2, x8, x9, x10, x13, x14, x15, x34, x150000, x150001, x150002 => if x34 = true then ((cells_kind.f x150000).bind fun t151 => (if x8.length < 4398046511104 then ((some (x8 ++ [(⟨x150001, 0, 0, t151⟩ : S48)] : List (S48))).bind fun y152 => (if x9.length < 17592186044416 then ((some (x9 ++ [x10] : List Int)).bind fun y155 => (if 0 ≤ (wrap64 ((y152.length : Int) - 1)) then (if (wrap64 ((y152.length : Int) - 1)) < (y152.length : Int) then (if 0 ≤ (wrap64 ((y155.length : Int) - 1)) then (if (wrap64 ((y155.length : Int) - 1)) < (y155.length : Int) then (if (rd y155 (wrap64 ((y155.length : Int) - 1))) = x10 then ((some (y152.set ((wrap64 ((y152.length : Int) - 1)) : Int).toNat (⟨(rd_T48 y152 (wrap64 ((y152.length : Int) - 1))).f0, wrap64 (((rd_T48 y152 (wrap64 ((y152.length : Int) - 1))).f1) + x150002), (rd_T48 y152 (wrap64 ((y152.length : Int) - 1))).f2, (rd_T48 y152 (wrap64 ((y152.length : Int) - 1))).f3⟩ : S48) : List (S48))).bind fun y161 => ((prop_Table_Of.f x2 x150000).bind fun t163 => (cells_Make.l0 k x0 x1 x2 (y161.set ((wrap64 ((y152.length : Int) - 1)) : Int).toNat (⟨(rd_T48 y161 (wrap64 ((y152.length : Int) - 1))).f0, (rd_T48 y161 (wrap64 ((y152.length : Int) - 1))).f1, mx ((rd_T48 y161 (wrap64 ((y152.length : Int) - 1))).f2) (mn t163 2), (rd_T48 y161 (wrap64 ((y152.length : Int) - 1))).f3⟩ : S48)) y155 x13 x14 (wrap64 (x15 + 1))))) else ((some (y152.set ((wrap64 ((y152.length : Int) - 1)) : Int).toNat (⟨(rd_T48 y152 (wrap64 ((y152.length : Int) - 1))).f0, (rd_T48 y152 (wrap64 ((y152.length : Int) - 1))).f1, (rd_T48 y152 (wrap64 ((y152.length : Int) - 1))).f2, 0⟩ : S48) : List (S48))).bind fun y165 => ((some (y165.set ((wrap64 ((y152.length : Int) - 1)) : Int).toNat (⟨(rd_T48 y165 (wrap64 ((y152.length : Int) - 1))).f0, wrap64 (((rd_T48 y165 (wrap64 ((y152.length : Int) - 1))).f1) + x150002), (rd_T48 y165 (wrap64 ((y152.length : Int) - 1))).f2, (rd_T48 y165 (wrap64 ((y152.length : Int) - 1))).f3⟩ : S48) : List (S48))).bind fun y167 => ((prop_Table_Of.f x2 x150000).bind fun t169 => (cells_Make.l0 k x0 x1 x2 (y167.set ((wrap64 ((y152.length : Int) - 1)) : Int).toNat (⟨(rd_T48 y167 (wrap64 ((y152.length : Int) - 1))).f0, (rd_T48 y167 (wrap64 ((y152.length : Int) - 1))).f1, mx ((rd_T48 y167 (wrap64 ((y152.length : Int) - 1))).f2) (mn t169 2), (rd_T48 y167 (wrap64 ((y152.length : Int) - 1))).f3⟩ : S48)) y155 x13 x14 (wrap64 (x15 + 1))))))) else (none)) else (none)) else (none)) else (none))) else (none))) else (none))) else (if 0 ≤ (wrap64 ((x8.length : Int) - 1)) then (if (wrap64 ((x8.length : Int) - 1)) < (x8.length : Int) then (if 0 ≤ (wrap64 ((x9.length : Int) - 1)) then (if (wrap64 ((x9.length : Int) - 1)) < (x9.length : Int) then (if (rd x9 (wrap64 ((x9.length : Int) - 1))) = x10 then ((some (x8.set ((wrap64 ((x8.length : Int) - 1)) : Int).toNat (⟨(rd_T48 x8 (wrap64 ((x8.length : Int) - 1))).f0, wrap64 (((rd_T48 x8 (wrap64 ((x8.length : Int) - 1))).f1) + x150002), (rd_T48 x8 (wrap64 ((x8.length : Int) - 1))).f2, (rd_T48 x8 (wrap64 ((x8.length : Int) - 1))).f3⟩ : S48) : List (S48))).bind fun y174 => ((prop_Table_Of.f x2 x150000).bind fun t176 => (cells_Make.l0 k x0 x1 x2 (y174.set ((wrap64 ((x8.length : Int) - 1)) : Int).toNat (⟨(rd_T48 y174 (wrap64 ((x8.length : Int) - 1))).f0, (rd_T48 y174 (wrap64 ((x8.length : Int) - 1))).f1, mx ((rd_T48 y174 (wrap64 ((x8.length : Int) - 1))).f2) (mn t176 2), (rd_T48 y174 (wrap64 ((x8.length : Int) - 1))).f3⟩ : S48)) x9 x13 x14 (wrap64 (x15 + 1))))) else ((some (x8.set ((wrap64 ((x8.length : Int) - 1)) : Int).toNat (⟨(rd_T48 x8 (wrap64 ((x8.length : Int) - 1))).f0, (rd_T48 x8 (wrap64 ((x8.length : Int) - 1))).f1, (rd_T48 x8 (wrap64 ((x8.length : Int) - 1))).f2, 0⟩ : S48) : List (S48))).bind fun y178 => ((some (y178.set ((wrap64 ((x8.length : Int) - 1)) : Int).toNat (⟨(rd_T48 y178 (wrap64 ((x8.length : Int) - 1))).f0, wrap64 (((rd_T48 y178 (wrap64 ((x8.length : Int) - 1))).f1) + x150002), (rd_T48 y178 (wrap64 ((x8.length : Int) - 1))).f2, (rd_T48 y178 (wrap64 ((x8.length : Int) - 1))).f3⟩ : S48) : List (S48))).bind fun y180 => ((prop_Table_Of.f x2 x150000).bind fun t182 => (cells_Make.l0 k x0 x1 x2 (y180.set ((wrap64 ((x8.length : Int) - 1)) : Int).toNat (⟨(rd_T48 y180 (wrap64 ((x8.length : Int) - 1))).f0, (rd_T48 y180 (wrap64 ((x8.length : Int) - 1))).f1, mx ((rd_T48 y180 (wrap64 ((x8.length : Int) - 1))).f2) (mn t182 2), (rd_T48 y180 (wrap64 ((x8.length : Int) - 1))).f3⟩ : S48)) x9 x13 x14 (wrap64 (x15 + 1))))))) else (none)) else (none)) else (none)) else (none))
end
def cells_Make.f (k : Nat) (l0 : List (S50)) (l1 : List Int) (a2 : Option (List (Int × Int × Int))) : Option ((List (S48)) × List Int) := cells_Make.l0 k l0 l1 a2 ([] : List (S48)) ([] : List Int) l0 (l0.length : Int) 0
theorem cells_Make.mono_l : ∀ k, (∀ y0 y1 y2 y3 y4 y5 y6 y7, LeO (cells_Make.l0 k y0 y1 y2 y3 y4 y5 y6 y7) (cells_Make.l0 (k + 1) y0 y1 y2 y3 y4 y5 y6 y7)) ∧ (∀ y0 y1 y2 y3 y4 y5 y6 y7 y8 y9 y10 y11 y12, LeO (cells_Make.j1 k y0 y1 y2 y3 y4 y5 y6 y7 y8 y9 y10 y11 y12) (cells_Make.j1 (k + 1) y0 y1 y2 y3 y4 y5 y6 y7 y8 y9 y10 y11 y12))
 | 0 => ⟨fun _ _ _ _ _ _ _ _ r h => by simp [cells_Make.l0] at h, fun _ _ _ _ _ _ _ _ _ _ _ _ _ r h => by simp [cells_Make.j1] at h⟩
 | k + 1 => by
  obtain ⟨ih0, ih1⟩ := cells_Make.mono_l k; refine ⟨?_, ?_⟩
  ·intro y0 y1 y2 y3 y4 y5 y6 y7
   unfold cells_Make.l0
   repeat' (with_reducible first | exact ih0 _ _ _ _ _ _ _ _ | exact ih1 _ _ _ _ _ _ _ _ _ _ _ _ _ | exact LeO.refl _ | exact LeO.none _ | refine LeO.ite ?_ ?_ | refine LeO.bind ?_ (fun _ => ?_))
  ·intro y0 y1 y2 y3 y4 y5 y6 y7 y8 y9 y10 y11 y12
   unfold cells_Make.j1
   repeat' (with_reducible first | exact ih0 _ _ _ _ _ _ _ _ | exact ih1 _ _ _ _ _ _ _ _ _ _ _ _ _ | exact LeO.refl _ | exact LeO.none _ | refine LeO.ite ?_ ?_ | refine LeO.bind ?_ (fun _ => ?_))
theorem cells_Make.mono : ∀ a0 a1 a2 k, LeO (cells_Make.f k a0 a1 a2) (cells_Make.f (k + 1) a0 a1 a2) := by
 intro a0 a1 a2 k
 obtain ⟨ih0, ih1⟩ := cells_Make.mono_l k; unfold cells_Make.f
 repeat' (with_reducible first | exact ih0 _ _ _ _ _ _ _ _ | exact ih1 _ _ _ _ _ _ _ _ _ _ _ _ _ | exact LeO.refl _ | exact LeO.none _ | refine LeO.ite ?_ ?_ | refine LeO.bind ?_ (fun _ => ?_))
def cells_Make.T7 : Bool × List (List Nat × List Nat) := (true, [([], []), ([], []), ([1], [1]), ([], []), ([3], [3]), ([4], [4]), ([2, 5], [2, 5]), ([6], [6]), ([0, 7, 5], [0, 7]), ([8, 8, 0, 1, 2, 3, 4, 5, 6, 7, 8], [0, 8])])
def cells_Make.B7 : List Nat := [0, 0, 2, 0, 8, 24, 62, 126, 255, 511]
theorem cells_Make.tab7 : rtab .any (opsOf Try.f17 7) = cells_Make.T7 := by kernel_rfl
theorem cells_Make.bits7 : waitsOk cells_Make.T7.2 cells_Make.B7 = true := by kernel_rfl
def cells_Make.T12 : Bool × List (List Nat × List Nat) := (true, [([], []), ([0], [0]), ([1], [1]), ([2], [2]), ([], []), ([4], [4]), ([3, 5], [3, 5]), ([0, 0, 1, 2, 3, 4, 5, 6], [0]), ([7, 0, 1, 2, 3, 4, 5, 6], [7]), ([8, 6, 0, 1, 2, 3, 4, 5, 6], [6, 8])])
def cells_Make.B12 : List Nat := [0, 1, 3, 7, 0, 16, 63, 127, 255, 511]
theorem cells_Make.tab12 : rtab .any (opsOf Try.f17 12) = cells_Make.T12 := by kernel_rfl
theorem cells_Make.bits12 : waitsOk cells_Make.T12.2 cells_Make.B12 = true := by kernel_rfl
def cells_Make.T13 : Bool × List (List Nat × List Nat) := (true, [([], []), ([], []), ([1], [1]), ([2], [2]), ([3], [3]), ([], []), ([], []), ([6], [6]), ([5, 7], [5, 7]), ([8], [8]), ([4, 9], [4, 9]), ([0, 0, 1, 2, 3, 4, 5, 6, 7, 8, 9, 10], [0]), ([11, 0, 1, 2, 3, 4, 5, 6, 7, 8, 9, 10], [11]), ([12, 10, 8, 0, 1, 2, 3, 4, 5, 6, 7, 8, 9, 10], [10, 12])])
def cells_Make.B13 : List Nat := [0, 0, 2, 6, 14, 0, 0, 64, 224, 480, 1022, 2047, 4095, 8191]
theorem cells_Make.tab13 : rtab .any (opsOf Try.f17 13) = cells_Make.T13 := by kernel_rfl
theorem cells_Make.bits13 : waitsOk cells_Make.T13.2 cells_Make.B13 = true := by kernel_rfl
set_option maxHeartbeats 8000000 in
set_option maxRecDepth 100000 in
theorem cells_Make.calls (k : Nat) (A0 : Option Addr) (c0 : Nat) (l0 : List (S50)) (A1 : Option Addr) (c1 : Nat) (l1 : List Int) (vt2_ : Value) (a2 : Option (List (Int × Int × Int))) (r1 : List (S48)) (r2 : List Int) (w : World) (hr0 : Kd.C k50 w A0 l0.length l0) (hc0 : l0.length ≤ c0) (hr1 : Kd.C (Kd.int .u8) w A1 l1.length l1) (hc1 : l1.length ≤ c1) (hta2 : TabAt w a2 vt2_) (h : cells_Make.f k l0 l1 a2 = some (r1, r2)) :
  Calls Try.prog 17 #[.slice A0 l0.length c0, .slice A1 l1.length c1, vt2_] w fun e w' => ∃ v0_ v1_ : Value, e = .returned (.tuple #[v0_, v1_]) ∧ Kd.R k48 48 w' w.heap.size (fun _ => True) v0_ r1 ∧ Kd.R (Kd.int .i64) 3 w' w.heap.size (fun _ => True) v1_ r2 ∧ Below w.heap.size w w' := by
 have hu50 := Try.underlying50; have hu48 := Try.underlying48; have HR0 := zA.mk hr0; have HC0 := zA.mk hc0; clear hr0 hc0; have HR1 := zA.mk hr1; have HC1 := zA.mk hc1; clear hr1 hc1; have HTa2 := zA.mk hta2; clear hta2; have HB := zA.mk (Below.refl w.heap.size w); have H : (cells_Make.l0 k l0 l1 a2 ([] : List (S48)) ([] : List Int) l0 (l0.length : Int) 0) = some (r1, r2) := h
 clear h; have H' := zA.mk H
 clear H; go_enter Try.func17, Try.ntmps17
 go_wp2
 go_loopg [8, 9, 15] k (fun kq v8 v9 v15 w' => ∃ (x8_1 : List (S48)) (x9_1 : List Int) (x15_1 : Int), v15 = .int .i64 x15_1 ∧ zA (cells_Make.l0 kq l0 l1 a2 x8_1 x9_1 l0 (l0.length : Int) x15_1 = some (r1, r2)) ∧ zA (kq ≤ k) ∧ zA (Kd.R k48 48 w' w.heap.size (fun _ => True) v8 x8_1) ∧ zA (Kd.R (Kd.int .i64) 3 w' w.heap.size (fun _ => True) v9 x9_1) ∧ zA (Below w.heap.size w w'))
 case atStart => exact ⟨(([] : List (S48))), (([] : List Int)), (0), aZ, H', ⟨Nat.le_refl _⟩, ⟨by first | exact Kd.R_nil _ _ _ _ _ | exact Kd.N_nil _ _ _ _ _ | exact Kd.V_nil _ _ _ _ _ | exact Kd.Q_nil _ _ _ _ _ | exact Kd.S_nil _ _ _ _ _⟩, ⟨by first | exact Kd.R_nil _ _ _ _ _ | exact Kd.N_nil _ _ _ _ _ | exact Kd.V_nil _ _ _ _ _ | exact Kd.Q_nil _ _ _ _ _ | exact Kd.S_nil _ _ _ _ _⟩, ⟨aL HB⟩⟩
 clear H'; obtain ⟨x8_1, x9_1, x15_1, rfl, HA, HK1, HO_8, HO_9, HB⟩ := hrel; cases gk with
 | zero => exact absurd HA.out (by simp [cells_Make.l0])
 | succ k1 =>
  have H := HA.out; clear HA; simp only [cells_Make.l0] at H; by_cases c4 : x15_1 < (l0.length : Int)
  rotate_left
  ·rw [if_neg c4] at H
   have c4b0 : decide (x15_1 < (l0.length : Int)) = false := decide_eq_false c4
   clear c4; by_cases c91 : x9_1.length < 17592186044416
   rotate_left
   ·rw [if_neg c91] at H
    exact absurd H (by simp)
   rw [if_pos c91] at H; have LMc91 := zA.mk c91; clear c91; obtain ⟨y145, hy145⟩ : ∃ y_ : List Int, y_ = (x9_1 ++ [(l0.length : Int)]) := ⟨_, rfl⟩; replace H : (some (x8_1, y145)) = some (r1, r2) := by first | (rw [hy145]; with_reducible exact H) | (have H2_ := (Option.bind_some _ _).symm.trans H; rw [hy145]; with_reducible exact H2_) | (have H2_ := (Option.bind_some _ _).symm.trans H; with_reducible exact H2_) | with_reducible exact H | (rw [hy145]; exact H) | exact H
   have Ny145 := zA.mk hy145; clear hy145; simp only [Option.some.injEq, Prod.mk.injEq] at H; obtain ⟨rfl, rfl⟩ := H; go_wp2_with (first | ((with_reducible refine gate_builtin (b := .append) (xs := #[.tmp 88, .tmp 91]) rfl ?_); (try (refine gate_guard (by rfl) ?_; dsimp only)); at_builtin; refine Kd.R_append (Kd.int .i64) (w0 := w) w.heap.size rfl (.tmp 88) (.tmp 91) 35 3 (.int .i64 0) 8 rfl Try.underlying35 info3 rfl (by decide) (by omega) u9 x9_1 (l0.length : Int) [.int .i64 (l0.length : Int)] (fun _ => True) (fun _ => False) rfl rfl ?aP (fun _ hk => hk.elim) ?aF ?aO ?aB ?aS ?aL ?_; (case aP => exact rfl); (case aB => exact (aL HB)); (case aF => exact (fun _ _ => trivial)); (case aO => exact (aR HO_9)); (case aS => exact (below_size (aL HB))); (case aL => have := LMc91.out; omega); intro v146 w92 ho hb hg hat; rw [← Ny145.out] at ho; replace HO_8 := zA.mk (Kd.R_over' (aR HO_8) (Kd.R_typed (aR HO_9)) (by decide) hg); replace HB := zA.mk (hb); have HO147 := zA.mk (ho); clear HO_9; clear ho hb hg hat))
   go_ret2
   exact ⟨_, _, aX, aR HO_8, aR HO147, aL HB⟩
  rw [if_pos c4] at H; have c4b0 : decide (x15_1 < (l0.length : Int)) = true := decide_eq_true c4
  clear c4; by_cases c5 : 0 ≤ x15_1
  rotate_left
  ·rw [if_neg c5] at H
   exact absurd H (by simp)
  rw [if_pos c5] at H; have c5b0 : decide (0 ≤ x15_1) = true := decide_eq_true c5
  clear c5; by_cases c6 : x15_1 < (l0.length : Int)
  rotate_left
  ·rw [if_neg c6] at H
   exact absurd H (by simp)
  rw [if_pos c6] at H; have c6b0 : decide (x15_1 < (l0.length : Int)) = true := decide_eq_true c6
  clear c6; have HC7 := zA.mk H; clear H; have p148 : 0 ≤ (x15_1 : Int) := aD
  have q148 : x15_1 < (l0.length : Int) := aD
  obtain ⟨ad148, e148, hx148_0, hx148_1, hx148_2⟩ := at_T50 HR0.out x15_1 p148 q148; cases e148
  replace hx148_0 := (HB.out.cell (World.block_lt_of_cell? w _ hx148_0)).trans hx148_0; replace hx148_1 := (HB.out.cell (World.block_lt_of_cell? w _ hx148_1)).trans hx148_1; replace hx148_2 := (HB.out.cell (World.block_lt_of_cell? w _ hx148_2)).trans hx148_2; replace p148 := eq_true p148; replace q148 := eq_true q148; go_upto_region 6 with (first | ((with_reducible refine gate_dst (N := 11) rfl ?_); (try (refine gate_guard (by rfl) ?_; dsimp only)); refine box_event ?hg (N := 11) ?hd (cs := #[.int .i32 0, .int .i64 0, .int .i64 0]) (t := 50) ?hr ?_; (case hd => rfl); (case hg => rfl); (case hr => first | (go_simp; done) | (go_simp; rfl)); intro gb149 hg w8 hbox hb; replace HO_8 := zA.mk (Kd.zO (aR HO_8) hb); replace HO_9 := zA.mk (Kd.zO (aR HO_9) hb); have BK149 := zA.mk (hbox); have GW149 := zA.mk ((by rw [hg]; exact (below_size (aL HB)) : w.heap.size ≤ gb149)); replace HB := zA.mk (below_step (aL HB) hb); have GE149 := GW149; clear hb hbox hg; obtain ⟨hcz9_0, hcz9_1, hcz9_2, hfz9_0, hfz9_1, hfz9_2⟩ := aC3 BK149) | ((with_reducible refine gate_store (t := 50) (p := 11) rfl ?_); refine store_event (t := 50) (p := 11) (v := ?vo_w10) (w1 := (((w8.setCell ⟨gb149, 0, none⟩ (.int .i32 ((rd_T50 l0 x15_1).f0))).setCell ⟨gb149, 1, none⟩ (.int .i64 ((rd_T50 l0 x15_1).f1))).setCell ⟨gb149, 2, none⟩ (.int .i64 ((rd_T50 l0 x15_1).f2)))) ?hg ?ho ?hn ?hr ?_; (case ho => rfl); (case hg => rfl); (case hn => rfl); (case hr => first | (go_simp; done) | (go_simp; rfl)); intro w10 hw; have n0_ : zA (Kd.R k48 48 w10 w.heap.size (fun _ => True) u8 x8_1) := ⟨(by rw [hw]; exact (by (with_reducible repeat (first | apply Kd.zG | apply Kd.zH | apply Kd.zI)); exact Kd.zS (Kd.zP (p := ⟨gb149, 2, none⟩) (Kd.zP (p := ⟨gb149, 1, none⟩) (Kd.zP (p := ⟨gb149, 0, none⟩) (Kd.zT HO_8.out BK149.out (by decide)) (fun _ hk => hk.2) (.int .i32 ((rd_T50 l0 x15_1).f0))) (fun _ hk => hk.2) (.int .i64 ((rd_T50 l0 x15_1).f1))) (fun _ hk => hk.2) (.int .i64 ((rd_T50 l0 x15_1).f2))) (fun _ hk => trivial)))⟩; have n1_ : zA (Kd.R (Kd.int .i64) 3 w10 w.heap.size (fun _ => True) u9 x9_1) := ⟨(by rw [hw]; exact (by (with_reducible repeat (first | apply Kd.zG | apply Kd.zH | apply Kd.zI)); exact Kd.zS (Kd.zP (p := ⟨gb149, 2, none⟩) (Kd.zP (p := ⟨gb149, 1, none⟩) (Kd.zP (p := ⟨gb149, 0, none⟩) (Kd.zT HO_9.out BK149.out (by decide)) (fun _ hk => hk.2) (.int .i32 ((rd_T50 l0 x15_1).f0))) (fun _ hk => hk.2) (.int .i64 ((rd_T50 l0 x15_1).f1))) (fun _ hk => hk.2) (.int .i64 ((rd_T50 l0 x15_1).f2))) (fun _ hk => trivial)))⟩; have n2_ : zA (w10.heap[gb149]? = some (.cells #[.int .i32 ((rd_T50 l0 x15_1).f0), .int .i64 ((rd_T50 l0 x15_1).f1), .int .i64 ((rd_T50 l0 x15_1).f2)] 50 (0, 0))) := ⟨(by rw [hw]; exact (by (with_reducible repeat (first | refine zE ?_ _ | refine zD ?_ | refine zB ?_ _)); refine blk_put (cs := #[.int .i32 ((rd_T50 l0 x15_1).f0), .int .i64 ((rd_T50 l0 x15_1).f1), .int .i64 0]) ?_ 2 _ rfl; (with_reducible repeat (first | refine zE ?_ _ | refine zD ?_ | refine zB ?_ _)); refine blk_put (cs := #[.int .i32 ((rd_T50 l0 x15_1).f0), .int .i64 0, .int .i64 0]) ?_ 1 _ rfl; (with_reducible repeat (first | refine zE ?_ _ | refine zD ?_ | refine zB ?_ _)); refine blk_put (cs := #[.int .i32 0, .int .i64 0, .int .i64 0]) ?_ 0 _ rfl; (with_reducible repeat (first | refine zE ?_ _ | refine zD ?_ | refine zB ?_ _)); exact BK149.out))⟩; have n3_ : zA (Below w.heap.size w w10) := ⟨(by rw [hw]; exact (aL HB))⟩; clear hw; clear HO_8; clear HO_9; clear BK149; clear HB; have HO_8 := n0_; have HO_9 := n1_; have BK149 := n2_; have HB := n3_; clear n0_ n1_ n2_ n3_))
  (try simp only [Act.put, sA_, sB_, sC_])
  go_cut [34] (fun v34 wc => ∃ (kq : Nat) (x34_6 : Bool), v34 = .bool x34_6 ∧ zA (cells_Make.j1 kq l0 l1 a2 x8_1 x9_1 x15_1 l0 (l0.length : Int) x15_1 x34_6 ((rd_T50 l0 x15_1).f0) ((rd_T50 l0 x15_1).f1) ((rd_T50 l0 x15_1).f2) = some (r1, r2)) ∧ zA (kq ≤ k1) ∧ zA (Kd.R k48 48 wc w.heap.size (fun _ => True) u8 x8_1) ∧ zA (Kd.R (Kd.int .i64) 3 wc w.heap.size (fun _ => True) u9 x9_1) ∧ zA (wc.heap[gb149]? = some (.cells #[.int .i32 ((rd_T50 l0 x15_1).f0), .int .i64 ((rd_T50 l0 x15_1).f1), .int .i64 ((rd_T50 l0 x15_1).f2)] 50 (0, 0))) ∧ zA (Below w.heap.size w wc))
  case first =>
   have H := HC7.out; clear HC7; by_cases c11 : x15_1 = 0
   ·rw [if_pos c11] at H
    have c11b0 : (x15_1 == 0) = true := beq_iff_eq.mpr c11
    have c11b1 : (x15_1 != 0) = false := bne_eq_false_iff_eq.mpr c11
    clear c11; (first | rw [c11b0] | (simp only [i64_w, i32_w]; rw [c11b0]) | skip)
    have H' := zA.mk H
    clear H; go_wp2
    go_meet
    case rel => exact ⟨_, (true), aZ, H', ⟨by have := HK1.out; first | omega | exact Nat.le_refl _⟩, ⟨aR HO_8⟩, ⟨aR HO_9⟩, ⟨aB BK149⟩, ⟨aL HB⟩⟩
   rw [if_neg c11] at H; have c11b0 : (x15_1 == 0) = false := beq_eq_false_iff_ne.mpr c11
   have c11b1 : (x15_1 != 0) = true := bne_iff_ne.mpr c11
   (first | rw [c11b0] | (simp only [i64_w, i32_w]; rw [c11b0]) | skip)
   by_cases c12 : x15_1 < (l1.length : Int)
   rotate_left
   ·rw [if_neg c12] at H
    have c12b0 : decide (x15_1 < (l1.length : Int)) = false := decide_eq_false c12
    clear c12; have H' := zA.mk H
    clear H; go_wp2
    go_meet
    case rel => exact ⟨_, (false), aZ, H', ⟨by have := HK1.out; first | omega | exact Nat.le_refl _⟩, ⟨aR HO_8⟩, ⟨aR HO_9⟩, ⟨aB BK149⟩, ⟨aL HB⟩⟩
   rw [if_pos c12] at H; have c12b0 : decide (x15_1 < (l1.length : Int)) = true := decide_eq_true c12
   clear c12; have H' := zA.mk H
   clear H; have p150 : 0 ≤ (x15_1 : Int) := aD
   have q150 : x15_1 < (l1.length : Int) := aD
   obtain ⟨ad150, e150, hx150_0⟩ := Kd.at_int HR1.out x15_1 p150 q150; cases e150
   replace hx150_0 := (HB.out.cell (World.block_lt_of_cell? w _ hx150_0)).trans hx150_0; replace p150 := eq_true p150; replace q150 := eq_true q150; go_wp2
   go_meet
   case rel => exact ⟨_, (((rd l1 x15_1) != 0)), aZ, H', ⟨by have := HK1.out; first | omega | exact Nat.le_refl _⟩, ⟨aR HO_8⟩, ⟨aR HO_9⟩, ⟨aB BK149⟩, ⟨aL HB⟩⟩
  clear HC7; obtain ⟨kq, x34_6, rfl, HA, HJ6, HO_8, HO_9, BK149, HB⟩ := hcut; cases kq with
  | zero => exact absurd HA.out (by simp [cells_Make.j1])
  | succ kj6 =>
   have H := HA.out; clear HA; simp only [cells_Make.j1] at H; by_cases c13 : x34_6 = true
   rotate_left
   ·replace c13 := Bool.eq_false_iff.mpr c13
    subst c13; have H1 : (if 0 ≤ (wrap64 ((x8_1.length : Int) - 1)) then (if (wrap64 ((x8_1.length : Int) - 1)) < (x8_1.length : Int) then (if 0 ≤ (wrap64 ((x9_1.length : Int) - 1)) then (if (wrap64 ((x9_1.length : Int) - 1)) < (x9_1.length : Int) then (if (rd x9_1 (wrap64 ((x9_1.length : Int) - 1))) = x15_1 then ((some (x8_1.set ((wrap64 ((x8_1.length : Int) - 1)) : Int).toNat (⟨(rd_T48 x8_1 (wrap64 ((x8_1.length : Int) - 1))).f0, wrap64 (((rd_T48 x8_1 (wrap64 ((x8_1.length : Int) - 1))).f1) + ((rd_T50 l0 x15_1).f2)), (rd_T48 x8_1 (wrap64 ((x8_1.length : Int) - 1))).f2, (rd_T48 x8_1 (wrap64 ((x8_1.length : Int) - 1))).f3⟩ : S48) : List (S48))).bind fun y174 => ((prop_Table_Of.f a2 ((rd_T50 l0 x15_1).f0)).bind fun t176 => (cells_Make.l0 kj6 l0 l1 a2 (y174.set ((wrap64 ((x8_1.length : Int) - 1)) : Int).toNat (⟨(rd_T48 y174 (wrap64 ((x8_1.length : Int) - 1))).f0, (rd_T48 y174 (wrap64 ((x8_1.length : Int) - 1))).f1, mx ((rd_T48 y174 (wrap64 ((x8_1.length : Int) - 1))).f2) (mn t176 2), (rd_T48 y174 (wrap64 ((x8_1.length : Int) - 1))).f3⟩ : S48)) x9_1 l0 (l0.length : Int) (wrap64 (x15_1 + 1))))) else ((some (x8_1.set ((wrap64 ((x8_1.length : Int) - 1)) : Int).toNat (⟨(rd_T48 x8_1 (wrap64 ((x8_1.length : Int) - 1))).f0, (rd_T48 x8_1 (wrap64 ((x8_1.length : Int) - 1))).f1, (rd_T48 x8_1 (wrap64 ((x8_1.length : Int) - 1))).f2, 0⟩ : S48) : List (S48))).bind fun y178 => ((some (y178.set ((wrap64 ((x8_1.length : Int) - 1)) : Int).toNat (⟨(rd_T48 y178 (wrap64 ((x8_1.length : Int) - 1))).f0, wrap64 (((rd_T48 y178 (wrap64 ((x8_1.length : Int) - 1))).f1) + ((rd_T50 l0 x15_1).f2)), (rd_T48 y178 (wrap64 ((x8_1.length : Int) - 1))).f2, (rd_T48 y178 (wrap64 ((x8_1.length : Int) - 1))).f3⟩ : S48) : List (S48))).bind fun y180 => ((prop_Table_Of.f a2 ((rd_T50 l0 x15_1).f0)).bind fun t182 => (cells_Make.l0 kj6 l0 l1 a2 (y180.set ((wrap64 ((x8_1.length : Int) - 1)) : Int).toNat (⟨(rd_T48 y180 (wrap64 ((x8_1.length : Int) - 1))).f0, (rd_T48 y180 (wrap64 ((x8_1.length : Int) - 1))).f1, mx ((rd_T48 y180 (wrap64 ((x8_1.length : Int) - 1))).f2) (mn t182 2), (rd_T48 y180 (wrap64 ((x8_1.length : Int) - 1))).f3⟩ : S48)) x9_1 l0 (l0.length : Int) (wrap64 (x15_1 + 1))))))) else (none)) else (none)) else (none)) else (none)) = some (r1, r2) := by rw [if_neg (show ¬ (false = true) by decide)] at H; exact H
    clear H; have H := H1; clear H1; obtain ⟨ji57, hji57⟩ : ∃ j_ : Int, (wrap64 ((x8_1.length : Int) - 1)) = j_ := ⟨_, rfl⟩; replace H : (if 0 ≤ (ji57) then (if (ji57) < (x8_1.length : Int) then (if 0 ≤ (wrap64 ((x9_1.length : Int) - 1)) then (if (wrap64 ((x9_1.length : Int) - 1)) < (x9_1.length : Int) then (if (rd x9_1 (wrap64 ((x9_1.length : Int) - 1))) = x15_1 then ((some (x8_1.set ((ji57) : Int).toNat (⟨(rd_T48 x8_1 (ji57)).f0, wrap64 (((rd_T48 x8_1 (ji57)).f1) + ((rd_T50 l0 x15_1).f2)), (rd_T48 x8_1 (ji57)).f2, (rd_T48 x8_1 (ji57)).f3⟩ : S48) : List (S48))).bind fun y174 => ((prop_Table_Of.f a2 ((rd_T50 l0 x15_1).f0)).bind fun t176 => (cells_Make.l0 kj6 l0 l1 a2 (y174.set ((ji57) : Int).toNat (⟨(rd_T48 y174 (ji57)).f0, (rd_T48 y174 (ji57)).f1, mx ((rd_T48 y174 (ji57)).f2) (mn t176 2), (rd_T48 y174 (ji57)).f3⟩ : S48)) x9_1 l0 (l0.length : Int) (wrap64 (x15_1 + 1))))) else ((some (x8_1.set ((ji57) : Int).toNat (⟨(rd_T48 x8_1 (ji57)).f0, (rd_T48 x8_1 (ji57)).f1, (rd_T48 x8_1 (ji57)).f2, 0⟩ : S48) : List (S48))).bind fun y178 => ((some (y178.set ((ji57) : Int).toNat (⟨(rd_T48 y178 (ji57)).f0, wrap64 (((rd_T48 y178 (ji57)).f1) + ((rd_T50 l0 x15_1).f2)), (rd_T48 y178 (ji57)).f2, (rd_T48 y178 (ji57)).f3⟩ : S48) : List (S48))).bind fun y180 => ((prop_Table_Of.f a2 ((rd_T50 l0 x15_1).f0)).bind fun t182 => (cells_Make.l0 kj6 l0 l1 a2 (y180.set ((ji57) : Int).toNat (⟨(rd_T48 y180 (ji57)).f0, (rd_T48 y180 (ji57)).f1, mx ((rd_T48 y180 (ji57)).f2) (mn t182 2), (rd_T48 y180 (ji57)).f3⟩ : S48)) x9_1 l0 (l0.length : Int) (wrap64 (x15_1 + 1))))))) else (none)) else (none)) else (none)) else (none)) = some (r1, r2) := by first | (rw [hji57] at H; exact H) | (simp only [hji57] at H ⊢; exact H)
    have hji57w : (IntKind.i64.wrap ((x8_1.length : Int) - 1)) = ji57 := (i64_w _).trans hji57
    by_cases c58 : 0 ≤ (ji57)
    rotate_left
    ·rw [if_neg c58] at H
     exact absurd H (by simp)
    rw [if_pos c58] at H; have c58b0 : decide (0 ≤ (ji57)) = true := decide_eq_true c58
    clear c58; by_cases c59 : (ji57) < (x8_1.length : Int)
    rotate_left
    ·rw [if_neg c59] at H
     exact absurd H (by simp)
    rw [if_pos c59] at H; have c59b0 : decide ((ji57) < (x8_1.length : Int)) = true := decide_eq_true c59
    clear c59; obtain ⟨ji60, hji60⟩ : ∃ j_ : Int, (wrap64 ((x9_1.length : Int) - 1)) = j_ := ⟨_, rfl⟩; replace H : (if 0 ≤ (ji60) then (if (ji60) < (x9_1.length : Int) then (if (rd x9_1 (ji60)) = x15_1 then ((some (x8_1.set ((ji57) : Int).toNat (⟨(rd_T48 x8_1 (ji57)).f0, wrap64 (((rd_T48 x8_1 (ji57)).f1) + ((rd_T50 l0 x15_1).f2)), (rd_T48 x8_1 (ji57)).f2, (rd_T48 x8_1 (ji57)).f3⟩ : S48) : List (S48))).bind fun y174 => ((prop_Table_Of.f a2 ((rd_T50 l0 x15_1).f0)).bind fun t176 => (cells_Make.l0 kj6 l0 l1 a2 (y174.set ((ji57) : Int).toNat (⟨(rd_T48 y174 (ji57)).f0, (rd_T48 y174 (ji57)).f1, mx ((rd_T48 y174 (ji57)).f2) (mn t176 2), (rd_T48 y174 (ji57)).f3⟩ : S48)) x9_1 l0 (l0.length : Int) (wrap64 (x15_1 + 1))))) else ((some (x8_1.set ((ji57) : Int).toNat (⟨(rd_T48 x8_1 (ji57)).f0, (rd_T48 x8_1 (ji57)).f1, (rd_T48 x8_1 (ji57)).f2, 0⟩ : S48) : List (S48))).bind fun y178 => ((some (y178.set ((ji57) : Int).toNat (⟨(rd_T48 y178 (ji57)).f0, wrap64 (((rd_T48 y178 (ji57)).f1) + ((rd_T50 l0 x15_1).f2)), (rd_T48 y178 (ji57)).f2, (rd_T48 y178 (ji57)).f3⟩ : S48) : List (S48))).bind fun y180 => ((prop_Table_Of.f a2 ((rd_T50 l0 x15_1).f0)).bind fun t182 => (cells_Make.l0 kj6 l0 l1 a2 (y180.set ((ji57) : Int).toNat (⟨(rd_T48 y180 (ji57)).f0, (rd_T48 y180 (ji57)).f1, mx ((rd_T48 y180 (ji57)).f2) (mn t182 2), (rd_T48 y180 (ji57)).f3⟩ : S48)) x9_1 l0 (l0.length : Int) (wrap64 (x15_1 + 1))))))) else (none)) else (none)) = some (r1, r2) := by first | (rw [hji60] at H; exact H) | (simp only [hji60] at H ⊢; exact H)
    have hji60w : (IntKind.i64.wrap ((x9_1.length : Int) - 1)) = ji60 := (i64_w _).trans hji60
    by_cases c61 : 0 ≤ (ji60)
    rotate_left
    ·rw [if_neg c61] at H
     exact absurd H (by simp)
    rw [if_pos c61] at H; have c61b0 : decide (0 ≤ (ji60)) = true := decide_eq_true c61
    clear c61; by_cases c62 : (ji60) < (x9_1.length : Int)
    rotate_left
    ·rw [if_neg c62] at H
     exact absurd H (by simp)
    rw [if_pos c62] at H; have c62b0 : decide ((ji60) < (x9_1.length : Int)) = true := decide_eq_true c62
    clear c62; by_cases c63 : (rd x9_1 (ji60)) = x15_1
    ·rw [if_pos c63] at H
     have c63b0 : ((rd x9_1 (ji60)) == x15_1) = true := beq_iff_eq.mpr c63
     have c63b1 : ((rd x9_1 (ji60)) != x15_1) = false := bne_eq_false_iff_eq.mpr c63
     clear c63; obtain ⟨y174, hy174⟩ : ∃ y_ : List (S48), y_ = (x8_1.set ((ji57) : Int).toNat (⟨(rd_T48 x8_1 (ji57)).f0, wrap64 (((rd_T48 x8_1 (ji57)).f1) + ((rd_T50 l0 x15_1).f2)), (rd_T48 x8_1 (ji57)).f2, (rd_T48 x8_1 (ji57)).f3⟩ : S48)) := ⟨_, rfl⟩; replace H : ((prop_Table_Of.f a2 ((rd_T50 l0 x15_1).f0)).bind fun t176 => (cells_Make.l0 kj6 l0 l1 a2 (y174.set ((ji57) : Int).toNat (⟨(rd_T48 y174 (ji57)).f0, (rd_T48 y174 (ji57)).f1, mx ((rd_T48 y174 (ji57)).f2) (mn t176 2), (rd_T48 y174 (ji57)).f3⟩ : S48)) x9_1 l0 (l0.length : Int) (wrap64 (x15_1 + 1)))) = some (r1, r2) := by first | (rw [hy174]; with_reducible exact H) | (have H2_ := (Option.bind_some _ _).symm.trans H; rw [hy174]; with_reducible exact H2_) | (have H2_ := (Option.bind_some _ _).symm.trans H; with_reducible exact H2_) | with_reducible exact H | (rw [hy174]; exact H) | exact H
     have Ny174 := zA.mk hy174; clear hy174; replace H := Option.bind_eq_some_iff.mp H; obtain ⟨t176, A650, H⟩ := H; replace H : (cells_Make.l0 kj6 l0 l1 a2 (y174.set ((ji57) : Int).toNat (⟨(rd_T48 y174 (ji57)).f0, (rd_T48 y174 (ji57)).f1, mx ((rd_T48 y174 (ji57)).f2) (mn t176 2), (rd_T48 y174 (ji57)).f3⟩ : S48)) x9_1 l0 (l0.length : Int) (wrap64 (x15_1 + 1))) = some (r1, r2) := H; have A65 := zA.mk A650; clear A650; obtain ⟨ji66, hji66⟩ : ∃ j_ : Int, (mn t176 2) = j_ := ⟨_, rfl⟩; replace H : (cells_Make.l0 kj6 l0 l1 a2 (y174.set ((ji57) : Int).toNat (⟨(rd_T48 y174 (ji57)).f0, (rd_T48 y174 (ji57)).f1, mx ((rd_T48 y174 (ji57)).f2) (ji66), (rd_T48 y174 (ji57)).f3⟩ : S48)) x9_1 l0 (l0.length : Int) (wrap64 (x15_1 + 1))) = some (r1, r2) := by first | (rw [hji66] at H; exact H) | (simp only [hji66] at H ⊢; exact H)
     (try rw [hji66] at A65)
     (try (have hji66h : ji66 ≤ 2 := by (rw [← hji66]; unfold mn; (repeat' split) <;> omega)))
     (try (have hji66g : ji66 ≤ 64 := by omega))
     have hji66_ : (if 2 < t176 then 2 else t176) = ji66 := hji66
     obtain ⟨ji67, hji67⟩ : ∃ j_ : Int, (mx ((rd_T48 y174 (ji57)).f2) (ji66)) = j_ := ⟨_, rfl⟩; replace H : (cells_Make.l0 kj6 l0 l1 a2 (y174.set ((ji57) : Int).toNat (⟨(rd_T48 y174 (ji57)).f0, (rd_T48 y174 (ji57)).f1, ji67, (rd_T48 y174 (ji57)).f3⟩ : S48)) x9_1 l0 (l0.length : Int) (wrap64 (x15_1 + 1))) = some (r1, r2) := by first | (rw [hji67] at H; exact H) | (simp only [hji67] at H ⊢; exact H)
     (try rw [hji67] at A65)
     have hji67_ : (if ((rd_T48 y174 (ji57)).f2) < (ji66) then (ji66) else ((rd_T48 y174 (ji57)).f2)) = ji67 := hji67
     obtain ⟨y177, hy177⟩ : ∃ y_ : List (S48), y_ = (y174.set ((ji57) : Int).toNat (⟨(rd_T48 y174 (ji57)).f0, (rd_T48 y174 (ji57)).f1, ji67, (rd_T48 y174 (ji57)).f3⟩ : S48)) := ⟨_, rfl⟩; replace H : (cells_Make.l0 kj6 l0 l1 a2 y177 x9_1 l0 (l0.length : Int) (wrap64 (x15_1 + 1))) = some (r1, r2) := by first | (rw [hy177]; with_reducible exact H) | (have H2_ := (Option.bind_some _ _).symm.trans H; rw [hy177]; with_reducible exact H2_) | (have H2_ := (Option.bind_some _ _).symm.trans H; with_reducible exact H2_) | with_reducible exact H | (rw [hy177]; exact H) | exact H
     have Ny177 := zA.mk hy177; clear hy177; have H' := zA.mk H
     clear H; obtain ⟨Ao69, co69, eo69⟩ := Kd.zQ HO_8.out; subst eo69; have p171 : 0 ≤ ((ji57) : Int) := aD
     have q171 : (ji57) < (x8_1.length : Int) := aD
     obtain ⟨ad171, e171, hx171_0, hx171_1, hx171_2, hx171_3⟩ := at_T48 (Kd.zN HO_8.out).2.2 (ji57) p171 q171; cases e171
     replace p171 := eq_true p171; replace q171 := eq_true q171; obtain ⟨Ao70, co70, eo70⟩ := Kd.zQ HO_9.out; subst eo70; have p172 : 0 ≤ ((ji60) : Int) := aD
     have q172 : (ji60) < (x9_1.length : Int) := aD
     obtain ⟨ad172, e172, hx172_0⟩ := Kd.at_int (Kd.zN HO_9.out).2.2 (ji60) p172 q172; cases e172
     replace p172 := eq_true p172; replace q172 := eq_true q172; try go_wp2
     replace HO_8 := zA.mk (Kd.zI HO_8.out); replace HO_9 := zA.mk (Kd.zI HO_9.out); replace BK149 := zA.mk (zD BK149.out); replace HB := zA.mk (below_drew1 HB.out); have p173 : 0 ≤ ((ji57) : Int) := aD
     have q173 : (ji57) < (x8_1.length : Int) := aD
     obtain ⟨ad173, e173, hx173_0, hx173_1, hx173_2, hx173_3⟩ := at_T48 (Kd.zN HO_8.out).2.2 (ji57) p173 q173; obtain rfl : ad171 = ad173 := (by injection e173)
     replace p173 := eq_true p173; replace q173 := eq_true q173; have p64 : 0 ≤ ((ji57) : Int) := aD
     have q64 : ((ji57) : Int) < ((x8_1.length : Int) : Int) := aD
     obtain ⟨go64, co64, eo64, gb64, gl64, cl64, HG64⟩ := Kd.R_form HO_8.out (by omega)
     (first | cases eo64 | (injection eo64 with ea_ en_ ec_; (first | subst ea_ | (injection ea_ with ea_; subst ea_)); subst ec_; clear en_))
     have GB64 := zA.mk gb64; have GG64 := zA.mk HG64; clear gb64 gl64 HG64; (first | simp only [add_plain] at hx171_0 | skip)
     (first | simp only [add_plain] at hx171_1 | skip)
     (first | simp only [add_plain] at hx171_2 | skip)
     (first | simp only [add_plain] at hx171_3 | skip)
     (first | simp only [add_plain] at hx173_0 | skip)
     (first | simp only [add_plain] at hx173_1 | skip)
     (first | simp only [add_plain] at hx173_2 | skip)
     (first | simp only [add_plain] at hx173_3 | skip)
     obtain ⟨ce64, hcl64, hM64, hcc64, hfr64⟩ := Kd.R_elem HO_8.out z48 ((ji57) : Int) p64 q64; obtain rfl := k48_openM hM64
     have hx64_0 : World.cell? _ ⟨go64, ((ji57) : Int).toNat * 4, none⟩ = some (.int .i64 ((rd_T48 x8_1 (ji57)).f0)) := hcc64 0 _ rfl
     have hx64_1 : World.cell? _ ⟨go64, ((ji57) : Int).toNat * 4 + 1, none⟩ = some (.int .i64 ((rd_T48 x8_1 (ji57)).f1)) := hcc64 1 _ rfl
     have hx64_2 : World.cell? _ ⟨go64, ((ji57) : Int).toNat * 4 + 2, none⟩ = some (.int .i64 ((rd_T48 x8_1 (ji57)).f2)) := hcc64 2 _ rfl
     have hx64_3 : World.cell? _ ⟨go64, ((ji57) : Int).toNat * 4 + 3, none⟩ = some (.int .u8 ((rd_T48 x8_1 (ji57)).f3)) := hcc64 3 _ rfl
     have hf64_0 : World.frozen? _ ⟨go64, ((ji57) : Int).toNat * 4, none⟩ = false := hfr64 0
     have hf64_1 : World.frozen? _ ⟨go64, ((ji57) : Int).toNat * 4 + 1, none⟩ = false := hfr64 1
     have hf64_2 : World.frozen? _ ⟨go64, ((ji57) : Int).toNat * 4 + 2, none⟩ = false := hfr64 2
     have hf64_3 : World.frozen? _ ⟨go64, ((ji57) : Int).toNat * 4 + 3, none⟩ = false := hfr64 3
     (try clear hcl64); (try clear hcc64); (try clear hfr64); (try clear hM64)
     replace p64 := eq_true p64; replace q64 := eq_true q64; obtain ⟨ce72, hcl72, hM72, hcc72, hfr72⟩ := Kd.R_elem HO_8.out z48 ((ji57) : Int) (aD) (by have h_ : ((ji57) : Int) < ((x8_1.length : Int) : Int) := aD; first | exact h_ | (have e_ := (Kd.zN HO_8.out).1; omega) | simpa using h_)
     obtain rfl := k48_openM hM72
     have HP72 := (Kd.R_seg HO_8.out ((ji57) : Int) (aD) (by have h_ : ((ji57) : Int) < ((x8_1.length : Int) : Int) := aD; first | exact h_ | (have e_ := (Kd.zN HO_8.out).1; omega) | simpa using h_) (seg := [.int .i64 (wrap64 (((rd_T48 x8_1 (ji57)).f1) + ((rd_T50 l0 x15_1).f2)))]) (j := 1) hcl72 hcc72 (show 2 ≤ 4 from by decide) (x' := (⟨(rd_T48 x8_1 (ji57)).f0, wrap64 (((rd_T48 x8_1 (ji57)).f1) + ((rd_T50 l0 x15_1).f2)), (rd_T48 x8_1 (ji57)).f2, (rd_T48 x8_1 (ji57)).f3⟩ : S48)) (k48_mkM _ _ _ (⟨(rd_T48 x8_1 (ji57)).f0, wrap64 (((rd_T48 x8_1 (ji57)).f1) + ((rd_T50 l0 x15_1).f2)), (rd_T48 x8_1 (ji57)).f2, (rd_T48 x8_1 (ji57)).f3⟩ : S48) ) (fun _ hk => hk)).1
     rw [← Ny174.out] at HP72; have HQ72 := zA.mk HP72; clear hcl72 hcc72 hfr72 hM72 HP72; refine start_ (n := 10) (S := fun w' => w'.cell? ⟨gb149, 0, none⟩ = some (.int .i32 ((rd_T50 l0 x15_1).f0)) ∧ w'.cell? ⟨gb149, 1, none⟩ = some (.int .i64 ((rd_T50 l0 x15_1).f1)) ∧ w'.cell? ⟨gb149, 2, none⟩ = some (.int .i64 ((rd_T50 l0 x15_1).f2)) ∧ w'.cell? ⟨go64, (((ji57)).toNat * 4), none⟩ = some (.int .i64 ((rd_T48 x8_1 (ji57)).f0)) ∧ w'.cell? ⟨go64, (((ji57)).toNat * 4) + 1, none⟩ = some (.int .i64 ((rd_T48 x8_1 (ji57)).f1)) ∧ w'.cell? ⟨go64, (((ji57)).toNat * 4) + 2, none⟩ = some (.int .i64 ((rd_T48 x8_1 (ji57)).f2)) ∧ w'.cell? ⟨go64, (((ji57)).toNat * 4) + 3, none⟩ = some (.int .u8 ((rd_T48 x8_1 (ji57)).f3))) (ds := [9]) #[false, false, false, false, false, false, false, false, false, false] (by kernel_rfl) rfl rfl ⟨(zC BK149.out 0).trans rfl, (zC BK149.out 1).trans rfl, (zC BK149.out 2).trans rfl, hx173_0, hx173_1, hx173_2, hx173_3⟩ (fun hHeld => ?_); refine with_tabW cells_Make.tab12 cells_Make.bits12 (fun HT_ HW_ => ?_)
     generalize wc.drew = w71 at HO_8 HO_9 BK149 HB GG64 HQ72 hf64_0 hf64_1 hf64_2 hf64_3 hx171_0 hx171_1 hx171_2 hx171_3 hx173_0 hx173_1 hx173_2 hx173_3 hx64_0 hx64_1 hx64_2 hx64_3 hHeld ⊢
     refine aP 0 (some 64) (tf_ 1 10) HT_ ?_
     refine aP 1 (some 65) (tf_ 2 10) HT_ ?_
     refine aP 2 (some 66) (tf_ 3 10) HT_ ?_
     refine aP 4 (some 68) (tb_ 23 10) HT_ ?_
     refine take_ (i := 3) (N := some 67) (v := ?_) (a' := ?_) (tf_ 5 10) rfl rfl (take_ofW HT_.out HW_.out (by kernel_rfl)) (fun _ _ _ h => h) (Or.inl ⟨by rfl, ?_⟩) hHeld ?_ ?_
     rotate_left
     ·rintro w' ⟨s0, s1, s2, s3, s4, s5, s6⟩
      go_simp
      with_reducible rfl
     rotate_left
     ·simp only [Act.put, sA_, sB_, sC_, i64_w, i32_w]
      rfl
     refine take_ (i := 5) (N := some 69) (v := ?_) (a' := ?_) (tf_ 6 10) rfl rfl (take_ofW HT_.out HW_.out (by kernel_rfl)) (fun _ _ _ h => h) (Or.inl ⟨by rfl, ?_⟩) hHeld ?_ ?_
     rotate_left
     ·rintro w' ⟨s0, s1, s2, s3, s4, s5, s6⟩
      go_simp
      with_reducible rfl
     rotate_left
     ·simp only [Act.put, sA_, sB_, sC_, i64_w, i32_w]
      rfl
     refine aP 6 (some 70) (tf_ 7 10) HT_ ?_
     refine aP 7 (some 71) (tf_ 8 10) HT_ ?_
     refine aP 8 (some 72) (tf_ 9 10) HT_ ?_
     refine last_ (i := 9) (N := none) (tb_ 1023 10) rfl rfl (one_of HT_.out (by kernel_rfl)) (by decide) (fun K hK => ?_)
     refine skip_ (w1 := ?_) (by rfl) rfl ?_ ?_
     rotate_left
     ·go_simp
      rfl
     refine hK.out _ _ ?_
     clear hK K; refine done_ (done_of HT_.out (by kernel_rfl)) ?_
     try go_wp2
     have n0_ : zA (Kd.R k48 48 (w71.setCell ⟨go64, ((ji57) : Int).toNat * 4 + 1, none⟩ (.int .i64 (wrap64 (((rd_T48 x8_1 (ji57)).f1) + ((rd_T50 l0 x15_1).f2))))) w.heap.size (fun _ => True) (.slice (some ⟨go64, 0, none⟩) x8_1.length co69) y174) := ⟨aR HQ72⟩
     have n1_ : zA (Kd.R (Kd.int .i64) 3 (w71.setCell ⟨go64, ((ji57) : Int).toNat * 4 + 1, none⟩ (.int .i64 (wrap64 (((rd_T48 x8_1 (ji57)).f1) + ((rd_T50 l0 x15_1).f2))))) w.heap.size (fun _ => True) (.slice (some ad172) x9_1.length co70) x9_1) := ⟨by (with_reducible repeat (first | apply Kd.zG | apply Kd.zH | apply Kd.zI)); exact Kd.zS (Kd.zP (p := ⟨go64, ((ji57) : Int).toNat * 4 + 1, none⟩) (Kd.zT HO_9.out GG64.out (by decide)) (fun _ hk => hk.2) (.int .i64 (wrap64 (((rd_T48 x8_1 (ji57)).f1) + ((rd_T50 l0 x15_1).f2))))) (fun _ hk => trivial)⟩
     have n2_ : zA ((w71.setCell ⟨go64, ((ji57) : Int).toNat * 4 + 1, none⟩ (.int .i64 (wrap64 (((rd_T48 x8_1 (ji57)).f1) + ((rd_T50 l0 x15_1).f2))))).heap[gb149]? = some (.cells #[.int .i32 ((rd_T50 l0 x15_1).f0), .int .i64 ((rd_T50 l0 x15_1).f1), .int .i64 ((rd_T50 l0 x15_1).f2)] 50 (0, 0))) := ⟨by (with_reducible repeat (first | refine zE ?_ _ | refine zD ?_ | refine zB ?_ _)); refine blk_far ?_ (by have h_ := Kd.R_ne HO_8.out BK149.out (by decide); intro e_; exact h_ (by rw [e_]; rfl)) _; (with_reducible repeat (first | refine zE ?_ _ | refine zD ?_ | refine zB ?_ _)); exact BK149.out⟩
     have n3_ : zA (Below w.heap.size w (w71.setCell ⟨go64, ((ji57) : Int).toNat * 4 + 1, none⟩ (.int .i64 (wrap64 (((rd_T48 x8_1 (ji57)).f1) + ((rd_T50 l0 x15_1).f2)))))) := ⟨aL HB⟩
     (try clear HO_8)
     (try clear HO_9)
     (try clear BK149)
     (try clear HB)
     generalize (w71.setCell ⟨go64, ((ji57) : Int).toNat * 4 + 1, none⟩ (.int .i64 (wrap64 (((rd_T48 x8_1 (ji57)).f1) + ((rd_T50 l0 x15_1).f2))))) = w73 at n0_ n1_ n2_ n3_ ⊢
     have HO_8 := n0_; have HO_9 := n1_; have BK149 := n2_; have HB := n3_; clear n0_ n1_ n2_ n3_; replace HO_8 := zA.mk (Kd.zI HO_8.out); replace HO_9 := zA.mk (Kd.zI HO_9.out); replace BK149 := zA.mk (zD BK149.out); replace HB := zA.mk (below_drew1 HB.out); have p175 : 0 ≤ ((ji57) : Int) := aD
     have q175 : (ji57) < (y174.length : Int) := (by have h_ : ((ji57) : Int) < ((x8_1.length : Int) : Int) := aD; first | (have e_ := (Kd.zN HO_8.out).1; omega) | simpa only [Ny174.out, List.length_set] using h_)
     have ql175 : (((ji57) : Int) < ((x8_1.length : Int) : Int)) = True := eq_true (aD)
     obtain ⟨ad175, e175, hx175_0, hx175_1, hx175_2, hx175_3⟩ := at_T48 (Kd.zN HO_8.out).2.2 (ji57) p175 q175; obtain rfl : (⟨go64, 0, none⟩ : Addr) = ad175 := (by injection e175)
     (first | simp only [add_plain] at hx175_0 | simp only [add_at] at hx175_0 | simp only [Addr.add, Nat.zero_add] at hx175_0 | skip)
     (first | simp only [add_plain] at hx175_1 | simp only [add_at] at hx175_1 | simp only [Addr.add, Nat.zero_add] at hx175_1 | skip)
     (first | simp only [add_plain] at hx175_2 | simp only [add_at] at hx175_2 | simp only [Addr.add, Nat.zero_add] at hx175_2 | skip)
     (first | simp only [add_plain] at hx175_3 | simp only [add_at] at hx175_3 | simp only [Addr.add, Nat.zero_add] at hx175_3 | skip)
     replace p175 := eq_true p175; replace q175 := eq_true q175; refine start_ (n := 14) (S := fun w' => w'.cell? ⟨gb149, 0, none⟩ = some (.int .i32 ((rd_T50 l0 x15_1).f0)) ∧ w'.cell? ⟨gb149, 1, none⟩ = some (.int .i64 ((rd_T50 l0 x15_1).f1)) ∧ w'.cell? ⟨gb149, 2, none⟩ = some (.int .i64 ((rd_T50 l0 x15_1).f2)) ∧ w'.cell? ⟨go64, ((ji57)).toNat * 4, none⟩ = some (.int .i64 ((rd_T48 y174 (ji57)).f0)) ∧ w'.cell? ⟨go64, ((ji57)).toNat * 4 + 1, none⟩ = some (.int .i64 ((rd_T48 y174 (ji57)).f1)) ∧ w'.cell? ⟨go64, ((ji57)).toNat * 4 + 2, none⟩ = some (.int .i64 ((rd_T48 y174 (ji57)).f2)) ∧ w'.cell? ⟨go64, ((ji57)).toNat * 4 + 3, none⟩ = some (.int .u8 ((rd_T48 y174 (ji57)).f3))) (ds := [13]) #[false, false, false, false, false, false, false, false, false, false, false, false, false, false] (by kernel_rfl) rfl rfl ⟨(zC BK149.out 0).trans rfl, (zC BK149.out 1).trans rfl, (zC BK149.out 2).trans rfl, hx175_0, hx175_1, hx175_2, hx175_3⟩ (fun hHeld => ?_); refine with_tabW cells_Make.tab13 cells_Make.bits13 (fun HT_ HW_ => ?_)
     generalize w73.drew = w74 at HO_8 HO_9 BK149 HB HQ72 hx175_0 hx175_1 hx175_2 hx175_3 hHeld ⊢
     refine aP 0 (some 73) (tf_ 1 14) HT_ ?_
     refine aP 1 (some 74) (tf_ 2 14) HT_ ?_
     refine aP 2 (some 75) (tf_ 3 14) HT_ ?_
     refine aP 3 (some 76) (tf_ 4 14) HT_ ?_
     refine aP 5 (some 78) (tb_ 47 14) HT_ ?_
     refine aP 6 (some 79) (tb_ 111 14) HT_ ?_
     refine take_ (i := 4) (N := some 77) (v := ?_) (a' := ?_) (tf_ 7 14) rfl rfl (take_ofW HT_.out HW_.out (by kernel_rfl)) (fun _ _ _ h => h) (Or.inl ⟨by rfl, ?_⟩) hHeld ?_ ?_
     rotate_left
     ·rintro w' ⟨s0, s1, s2, s3, s4, s5, s6⟩
      go_simp
      with_reducible rfl
     rotate_left
     ·simp only [Act.put, sA_, sB_, sC_, i64_w, i32_w]
      rfl
     refine take_ (i := 7) (N := some 80) (v := ?_) (a' := ?_) (tf_ 8 14) rfl rfl (take_ofW HT_.out HW_.out (by kernel_rfl)) (fun _ _ _ h => h) (Or.inl ⟨by rfl, ?_⟩) hHeld ?_ ?_
     rotate_left
     ·rintro w' ⟨s0, s1, s2, s3, s4, s5, s6⟩
      go_simp
      with_reducible rfl
     rotate_left
     ·simp only [Act.put, sA_, sB_, sC_, i64_w, i32_w]
      rfl
     refine one_ (i := 8) (N := some 81) (tb_ 511 14) rfl rfl (one_of HT_.out (by kernel_rfl)) (by decide) (fun K hK => ?_)
     refine goes_ Try.func22 (by kernel_rfl) rfl #[vt2_, .int .i32 ((rd_T50 l0 x15_1).f0)] (by rfl) rfl rfl aT ?_
     with_reducible refine (prop_Table_Of.calls vt2_ a2 ((rd_T50 l0 x15_1).f0) t176 _ ?side1 A65.out).mono ?_
     (case side1 => exact TabAt.below HTa2.out (aL HB))
     rintro e w' ⟨rfl, ⟨nd, rfl⟩⟩
     refine ⟨_, rfl, ?_⟩
     have p68 : 0 ≤ ((ji57) : Int) := aD
     have q68 : ((ji57) : Int) < ((x8_1.length : Int) : Int) := aD
     obtain ⟨ce68, hcl68, hM68, hcc68, hfr68⟩ := Kd.R_elem HO_8.out z48 ((ji57) : Int) p68 q68; obtain rfl := k48_openM hM68
     have hx68_0 : World.cell? _ ⟨go64, ((ji57) : Int).toNat * 4, none⟩ = some (.int .i64 ((rd_T48 y174 (ji57)).f0)) := hcc68 0 _ rfl
     have hx68_1 : World.cell? _ ⟨go64, ((ji57) : Int).toNat * 4 + 1, none⟩ = some (.int .i64 ((rd_T48 y174 (ji57)).f1)) := hcc68 1 _ rfl
     have hx68_2 : World.cell? _ ⟨go64, ((ji57) : Int).toNat * 4 + 2, none⟩ = some (.int .i64 ((rd_T48 y174 (ji57)).f2)) := hcc68 2 _ rfl
     have hx68_3 : World.cell? _ ⟨go64, ((ji57) : Int).toNat * 4 + 3, none⟩ = some (.int .u8 ((rd_T48 y174 (ji57)).f3)) := hcc68 3 _ rfl
     have hf68_0 : World.frozen? _ ⟨go64, ((ji57) : Int).toNat * 4, none⟩ = false := hfr68 0
     have hf68_1 : World.frozen? _ ⟨go64, ((ji57) : Int).toNat * 4 + 1, none⟩ = false := hfr68 1
     have hf68_2 : World.frozen? _ ⟨go64, ((ji57) : Int).toNat * 4 + 2, none⟩ = false := hfr68 2
     have hf68_3 : World.frozen? _ ⟨go64, ((ji57) : Int).toNat * 4 + 3, none⟩ = false := hfr68 3
     (try clear hcl68); (try clear hcc68); (try clear hfr68); (try clear hM68)
     replace p68 := eq_true p68; replace q68 := eq_true q68; obtain ⟨cx75, gx75⟩ := Kd.R_typed HO_8.out _ rfl; have GG75_ := zA.mk gx75; clear gx75; obtain ⟨ce75, hcl75, hM75, hcc75, hfr75⟩ := Kd.R_elem HO_8.out z48 ((ji57) : Int) (aD) (by have h_ : ((ji57) : Int) < ((x8_1.length : Int) : Int) := aD; first | exact h_ | (have e_ := (Kd.zN HO_8.out).1; omega) | simpa using h_)
     obtain rfl := k48_openM hM75
     have HP75 := (Kd.R_seg HO_8.out ((ji57) : Int) (aD) (by have h_ : ((ji57) : Int) < ((x8_1.length : Int) : Int) := aD; first | exact h_ | (have e_ := (Kd.zN HO_8.out).1; omega) | simpa using h_) (seg := [.int .i64 ji67]) (j := 2) hcl75 hcc75 (show 3 ≤ 4 from by decide) (x' := (⟨(rd_T48 y174 (ji57)).f0, (rd_T48 y174 (ji57)).f1, ji67, (rd_T48 y174 (ji57)).f3⟩ : S48)) (k48_mkM _ _ _ (⟨(rd_T48 y174 (ji57)).f0, (rd_T48 y174 (ji57)).f1, ji67, (rd_T48 y174 (ji57)).f3⟩ : S48) ) (fun _ hk => hk)).1
     rw [← Ny177.out] at HP75; have HQ75 := zA.mk HP75; clear hcl75 hcc75 hfr75 hM75 HP75; refine hK.out _ _ ⟨(zC BK149.out 0).trans rfl, (zC BK149.out 1).trans rfl, (zC BK149.out 2).trans rfl, hHeld.2.2.2.1, hHeld.2.2.2.2.1, hHeld.2.2.2.2.2.1, hHeld.2.2.2.2.2.2⟩ (fun hHeld => ?_)
     clear hK K; refine norm_ (a' := ?_) ?_ ?_
     rotate_left
     ·show Act.put _ (some 81) _ = _
      simp only [Act.put, sA_, sB_, sC_, i64_w, i32_w]; rfl
     refine aP 9 (some 82) (tf_ 10 14) HT_ ?_
     refine aP 10 (some 83) (tf_ 11 14) HT_ ?_
     refine aP 11 (some 84) (tf_ 12 14) HT_ ?_
     refine aP 12 (some 85) (tf_ 13 14) HT_ ?_
     refine last_ (i := 13) (N := none) (tb_ 16383 14) rfl rfl (one_of HT_.out (by kernel_rfl)) (by decide) (fun K hK => ?_)
     refine skip_ (w1 := ?_) (by rfl) rfl ?_ ?_
     rotate_left
     ·go_simp
      rfl
     refine hK.out _ _ ?_
     clear hK K; refine done_ (done_of HT_.out (by kernel_rfl)) ?_
     try go_wp2
     go_roundg kj6
     case measure => have := HK1.out; have := HJ6.out; omega
     case rel => exact ⟨(y177), (x9_1), (wrap64 (x15_1 + 1)), aZ, H', ⟨by have := HK1.out; have := HJ6.out; omega⟩, ⟨aR HQ75⟩, ⟨by (with_reducible repeat (first | apply Kd.zG | apply Kd.zH | apply Kd.zI)); exact Kd.zS (Kd.zP (p := ⟨go64, ((ji57) : Int).toNat * 4 + 2, none⟩) (Kd.zT HO_9.out GG75_.out (by decide)) (fun _ hk => hk.2) (.int .i64 ji67)) (fun _ hk => trivial)⟩, ⟨aL HB⟩⟩
    rw [if_neg c63] at H; have c63b0 : ((rd x9_1 (ji60)) == x15_1) = false := beq_eq_false_iff_ne.mpr c63
    have c63b1 : ((rd x9_1 (ji60)) != x15_1) = true := bne_iff_ne.mpr c63
    obtain ⟨y178, hy178⟩ : ∃ y_ : List (S48), y_ = (x8_1.set ((ji57) : Int).toNat (⟨(rd_T48 x8_1 (ji57)).f0, (rd_T48 x8_1 (ji57)).f1, (rd_T48 x8_1 (ji57)).f2, 0⟩ : S48)) := ⟨_, rfl⟩; replace H : ((some (y178.set ((ji57) : Int).toNat (⟨(rd_T48 y178 (ji57)).f0, wrap64 (((rd_T48 y178 (ji57)).f1) + ((rd_T50 l0 x15_1).f2)), (rd_T48 y178 (ji57)).f2, (rd_T48 y178 (ji57)).f3⟩ : S48) : List (S48))).bind fun y180 => ((prop_Table_Of.f a2 ((rd_T50 l0 x15_1).f0)).bind fun t182 => (cells_Make.l0 kj6 l0 l1 a2 (y180.set ((ji57) : Int).toNat (⟨(rd_T48 y180 (ji57)).f0, (rd_T48 y180 (ji57)).f1, mx ((rd_T48 y180 (ji57)).f2) (mn t182 2), (rd_T48 y180 (ji57)).f3⟩ : S48)) x9_1 l0 (l0.length : Int) (wrap64 (x15_1 + 1))))) = some (r1, r2) := by first | (rw [hy178]; with_reducible exact H) | (have H2_ := (Option.bind_some _ _).symm.trans H; rw [hy178]; with_reducible exact H2_) | (have H2_ := (Option.bind_some _ _).symm.trans H; with_reducible exact H2_) | with_reducible exact H | (rw [hy178]; exact H) | exact H
    have Ny178 := zA.mk hy178; clear hy178; obtain ⟨y180, hy180⟩ : ∃ y_ : List (S48), y_ = (y178.set ((ji57) : Int).toNat (⟨(rd_T48 y178 (ji57)).f0, wrap64 (((rd_T48 y178 (ji57)).f1) + ((rd_T50 l0 x15_1).f2)), (rd_T48 y178 (ji57)).f2, (rd_T48 y178 (ji57)).f3⟩ : S48)) := ⟨_, rfl⟩; replace H : ((prop_Table_Of.f a2 ((rd_T50 l0 x15_1).f0)).bind fun t182 => (cells_Make.l0 kj6 l0 l1 a2 (y180.set ((ji57) : Int).toNat (⟨(rd_T48 y180 (ji57)).f0, (rd_T48 y180 (ji57)).f1, mx ((rd_T48 y180 (ji57)).f2) (mn t182 2), (rd_T48 y180 (ji57)).f3⟩ : S48)) x9_1 l0 (l0.length : Int) (wrap64 (x15_1 + 1)))) = some (r1, r2) := by first | (rw [hy180]; with_reducible exact H) | (have H2_ := (Option.bind_some _ _).symm.trans H; rw [hy180]; with_reducible exact H2_) | (have H2_ := (Option.bind_some _ _).symm.trans H; with_reducible exact H2_) | with_reducible exact H | (rw [hy180]; exact H) | exact H
    have Ny180 := zA.mk hy180; clear hy180; replace H := Option.bind_eq_some_iff.mp H; obtain ⟨t182, A780, H⟩ := H; replace H : (cells_Make.l0 kj6 l0 l1 a2 (y180.set ((ji57) : Int).toNat (⟨(rd_T48 y180 (ji57)).f0, (rd_T48 y180 (ji57)).f1, mx ((rd_T48 y180 (ji57)).f2) (mn t182 2), (rd_T48 y180 (ji57)).f3⟩ : S48)) x9_1 l0 (l0.length : Int) (wrap64 (x15_1 + 1))) = some (r1, r2) := H; have A78 := zA.mk A780; clear A780; obtain ⟨ji79, hji79⟩ : ∃ j_ : Int, (mn t182 2) = j_ := ⟨_, rfl⟩; replace H : (cells_Make.l0 kj6 l0 l1 a2 (y180.set ((ji57) : Int).toNat (⟨(rd_T48 y180 (ji57)).f0, (rd_T48 y180 (ji57)).f1, mx ((rd_T48 y180 (ji57)).f2) (ji79), (rd_T48 y180 (ji57)).f3⟩ : S48)) x9_1 l0 (l0.length : Int) (wrap64 (x15_1 + 1))) = some (r1, r2) := by first | (rw [hji79] at H; exact H) | (simp only [hji79] at H ⊢; exact H)
    (try rw [hji79] at A78)
    (try (have hji79h : ji79 ≤ 2 := by (rw [← hji79]; unfold mn; (repeat' split) <;> omega)))
    (try (have hji79g : ji79 ≤ 64 := by omega))
    have hji79_ : (if 2 < t182 then 2 else t182) = ji79 := hji79
    obtain ⟨ji80, hji80⟩ : ∃ j_ : Int, (mx ((rd_T48 y180 (ji57)).f2) (ji79)) = j_ := ⟨_, rfl⟩; replace H : (cells_Make.l0 kj6 l0 l1 a2 (y180.set ((ji57) : Int).toNat (⟨(rd_T48 y180 (ji57)).f0, (rd_T48 y180 (ji57)).f1, ji80, (rd_T48 y180 (ji57)).f3⟩ : S48)) x9_1 l0 (l0.length : Int) (wrap64 (x15_1 + 1))) = some (r1, r2) := by first | (rw [hji80] at H; exact H) | (simp only [hji80] at H ⊢; exact H)
    (try rw [hji80] at A78)
    have hji80_ : (if ((rd_T48 y180 (ji57)).f2) < (ji79) then (ji79) else ((rd_T48 y180 (ji57)).f2)) = ji80 := hji80
    obtain ⟨y183, hy183⟩ : ∃ y_ : List (S48), y_ = (y180.set ((ji57) : Int).toNat (⟨(rd_T48 y180 (ji57)).f0, (rd_T48 y180 (ji57)).f1, ji80, (rd_T48 y180 (ji57)).f3⟩ : S48)) := ⟨_, rfl⟩; replace H : (cells_Make.l0 kj6 l0 l1 a2 y183 x9_1 l0 (l0.length : Int) (wrap64 (x15_1 + 1))) = some (r1, r2) := by first | (rw [hy183]; with_reducible exact H) | (have H2_ := (Option.bind_some _ _).symm.trans H; rw [hy183]; with_reducible exact H2_) | (have H2_ := (Option.bind_some _ _).symm.trans H; with_reducible exact H2_) | with_reducible exact H | (rw [hy183]; exact H) | exact H
    have Ny183 := zA.mk hy183; clear hy183; have H' := zA.mk H
    clear H; obtain ⟨Ao82, co82, eo82⟩ := Kd.zQ HO_8.out; subst eo82; have p171 : 0 ≤ ((ji57) : Int) := aD
    have q171 : (ji57) < (x8_1.length : Int) := aD
    obtain ⟨ad171, e171, hx171_0, hx171_1, hx171_2, hx171_3⟩ := at_T48 (Kd.zN HO_8.out).2.2 (ji57) p171 q171; cases e171
    replace p171 := eq_true p171; replace q171 := eq_true q171; obtain ⟨Ao83, co83, eo83⟩ := Kd.zQ HO_9.out; subst eo83; have p172 : 0 ≤ ((ji60) : Int) := aD
    have q172 : (ji60) < (x9_1.length : Int) := aD
    obtain ⟨ad172, e172, hx172_0⟩ := Kd.at_int (Kd.zN HO_9.out).2.2 (ji60) p172 q172; cases e172
    replace p172 := eq_true p172; replace q172 := eq_true q172; have p76 : 0 ≤ ((ji57) : Int) := aD
    have q76 : ((ji57) : Int) < ((x8_1.length : Int) : Int) := aD
    obtain ⟨go76, co76, eo76, gb76, gl76, cl76, HG76⟩ := Kd.R_form HO_8.out (by omega)
    (first | cases eo76 | (injection eo76 with ea_ en_ ec_; (first | subst ea_ | (injection ea_ with ea_; subst ea_)); subst ec_; clear en_))
    have GB76 := zA.mk gb76; have GG76 := zA.mk HG76; clear gb76 gl76 HG76; (first | simp only [add_plain] at hx171_0 | skip)
    (first | simp only [add_plain] at hx171_1 | skip)
    (first | simp only [add_plain] at hx171_2 | skip)
    (first | simp only [add_plain] at hx171_3 | skip)
    obtain ⟨ce76, hcl76, hM76, hcc76, hfr76⟩ := Kd.R_elem HO_8.out z48 ((ji57) : Int) p76 q76; obtain rfl := k48_openM hM76
    have hx76_0 : wc.cell? ⟨go76, ((ji57) : Int).toNat * 4, none⟩ = some (.int .i64 ((rd_T48 x8_1 (ji57)).f0)) := hcc76 0 _ rfl
    have hx76_1 : wc.cell? ⟨go76, ((ji57) : Int).toNat * 4 + 1, none⟩ = some (.int .i64 ((rd_T48 x8_1 (ji57)).f1)) := hcc76 1 _ rfl
    have hx76_2 : wc.cell? ⟨go76, ((ji57) : Int).toNat * 4 + 2, none⟩ = some (.int .i64 ((rd_T48 x8_1 (ji57)).f2)) := hcc76 2 _ rfl
    have hx76_3 : wc.cell? ⟨go76, ((ji57) : Int).toNat * 4 + 3, none⟩ = some (.int .u8 ((rd_T48 x8_1 (ji57)).f3)) := hcc76 3 _ rfl
    have hf76_0 : wc.frozen? ⟨go76, ((ji57) : Int).toNat * 4, none⟩ = false := hfr76 0
    have hf76_1 : wc.frozen? ⟨go76, ((ji57) : Int).toNat * 4 + 1, none⟩ = false := hfr76 1
    have hf76_2 : wc.frozen? ⟨go76, ((ji57) : Int).toNat * 4 + 2, none⟩ = false := hfr76 2
    have hf76_3 : wc.frozen? ⟨go76, ((ji57) : Int).toNat * 4 + 3, none⟩ = false := hfr76 3
    (try clear hcl76); (try clear hcc76); (try clear hfr76); (try clear hM76)
    replace p76 := eq_true p76; replace q76 := eq_true q76; have HX84 := zA.mk (show Kd.R k48 48 wc w.heap.size (fun _ => True) (.slice (some ⟨go76, 0, none⟩) x8_1.length co82) x8_1 from (aR HO_8))
    obtain ⟨ce84, hcl84, hM84, hcc84, hfr84⟩ := Kd.R_elem HX84.out z48 ((ji57) : Int) (aD) (by have h_ : ((ji57) : Int) < ((x8_1.length : Int) : Int) := aD; first | exact h_ | (have e_ := (Kd.zN HO_8.out).1; omega) | simpa using h_)
    obtain rfl := k48_openM hM84
    have HP84 := Kd.R_seg HX84.out ((ji57) : Int) (aD) (by have h_ : ((ji57) : Int) < ((x8_1.length : Int) : Int) := aD; first | exact h_ | (have e_ := (Kd.zN HO_8.out).1; omega) | simpa using h_) (seg := [.int .u8 0]) (j := 3) hcl84 hcc84 (show 4 ≤ 4 from by decide) (x' := (⟨(rd_T48 x8_1 (ji57)).f0, (rd_T48 x8_1 (ji57)).f1, (rd_T48 x8_1 (ji57)).f2, 0⟩ : S48)) (k48_mkM _ _ _ (⟨(rd_T48 x8_1 (ji57)).f0, (rd_T48 x8_1 (ji57)).f1, (rd_T48 x8_1 (ji57)).f2, 0⟩ : S48) ) (fun _ hk => hk)
    have hx84_3 := hcc84 3 _ rfl; (try simp only [show (k48).sz = 4 from rfl, Nat.mul_one, Nat.add_zero] at hx84_3)
    have hf84_3 := hfr84 3; (try simp only [show (k48).sz = 4 from rfl, Nat.mul_one, Nat.add_zero] at hf84_3)
    (try clear hcl84); (try clear hcc84); (try clear hfr84); (try clear hM84)
    try go_wp2_with (first | ((with_reducible refine gate_store (t := 46) (p := 63) rfl ?_); refine store_event (t := 46) (p := 63) (v := ?vo_w85) (w1 := (wc.setCell ⟨go76, ((ji57) : Int).toNat * 4 + 3, none⟩ (.int .u8 0))) ?hg ?ho ?hn ?hr ?_; (case ho => rfl); (case hg => rfl); (case hn => rfl); (case hr => first | (go_simp; done) | (go_simp; rfl)); intro w85 hw; have hg : wc.grownBy w85 (some go76) := (by rw [hw]; exact HP84.2); have hp_ : Kd.R k48 48 w85 w.heap.size (fun _ => True) (.slice (some ⟨go76, 0, none⟩) x8_1.length co82) y178 := (by rw [hw, Ny178.out]; exact HP84.1); clear HP84; replace HO_9 := zA.mk (Kd.R_over' (v := (.slice (some ⟨go76, 0, none⟩) x8_1.length co82)) (aR HO_9) (Kd.R_typed HO_8.out) (by decide) hg); replace BK149 := zA.mk (blk_grown (g := gb149) (o := .cells #[.int .i32 ((rd_T50 l0 x15_1).f0), .int .i64 ((rd_T50 l0 x15_1).f1), .int .i64 ((rd_T50 l0 x15_1).f2)] 50 (0, 0)) (aB BK149) hg (Kd.R_ne HO_8.out BK149.out (by decide))); replace HO_8 := zA.mk (hp_); replace HB := zA.mk ((by rw [hw]; exact below_set (HB.out) GB76.out : Below w.heap.size w w85)); clear hg hw hp_))
    replace HO_8 := zA.mk (Kd.zI HO_8.out); replace HO_9 := zA.mk (Kd.zI HO_9.out); replace BK149 := zA.mk (zD BK149.out); replace HB := zA.mk (below_drew1 HB.out); have p179 : 0 ≤ ((ji57) : Int) := aD
    have q179 : (ji57) < (y178.length : Int) := (by have h_ : ((ji57) : Int) < ((x8_1.length : Int) : Int) := aD; first | (have e_ := (Kd.zN HO_8.out).1; omega) | simpa only [Ny178.out, List.length_set] using h_)
    have ql179 : (((ji57) : Int) < ((x8_1.length : Int) : Int)) = True := eq_true (aD)
    obtain ⟨ad179, e179, hx179_0, hx179_1, hx179_2, hx179_3⟩ := at_T48 (Kd.zN HO_8.out).2.2 (ji57) p179 q179; obtain rfl : (⟨go76, 0, none⟩ : Addr) = ad179 := (by injection e179)
    (first | simp only [add_plain] at hx179_0 | simp only [add_at] at hx179_0 | simp only [Addr.add, Nat.zero_add] at hx179_0 | skip)
    (first | simp only [add_plain] at hx179_1 | simp only [add_at] at hx179_1 | simp only [Addr.add, Nat.zero_add] at hx179_1 | skip)
    (first | simp only [add_plain] at hx179_2 | simp only [add_at] at hx179_2 | simp only [Addr.add, Nat.zero_add] at hx179_2 | skip)
    (first | simp only [add_plain] at hx179_3 | simp only [add_at] at hx179_3 | simp only [Addr.add, Nat.zero_add] at hx179_3 | skip)
    replace p179 := eq_true p179; replace q179 := eq_true q179; have p77 : 0 ≤ ((ji57) : Int) := aD
    have q77 : ((ji57) : Int) < ((x8_1.length : Int) : Int) := aD
    obtain ⟨ce77, hcl77, hM77, hcc77, hfr77⟩ := Kd.R_elem HO_8.out z48 ((ji57) : Int) p77 q77; obtain rfl := k48_openM hM77
    have hx77_0 : World.cell? _ ⟨go76, ((ji57) : Int).toNat * 4, none⟩ = some (.int .i64 ((rd_T48 y178 (ji57)).f0)) := hcc77 0 _ rfl
    have hx77_1 : World.cell? _ ⟨go76, ((ji57) : Int).toNat * 4 + 1, none⟩ = some (.int .i64 ((rd_T48 y178 (ji57)).f1)) := hcc77 1 _ rfl
    have hx77_2 : World.cell? _ ⟨go76, ((ji57) : Int).toNat * 4 + 2, none⟩ = some (.int .i64 ((rd_T48 y178 (ji57)).f2)) := hcc77 2 _ rfl
    have hx77_3 : World.cell? _ ⟨go76, ((ji57) : Int).toNat * 4 + 3, none⟩ = some (.int .u8 ((rd_T48 y178 (ji57)).f3)) := hcc77 3 _ rfl
    have hf77_0 : World.frozen? _ ⟨go76, ((ji57) : Int).toNat * 4, none⟩ = false := hfr77 0
    have hf77_1 : World.frozen? _ ⟨go76, ((ji57) : Int).toNat * 4 + 1, none⟩ = false := hfr77 1
    have hf77_2 : World.frozen? _ ⟨go76, ((ji57) : Int).toNat * 4 + 2, none⟩ = false := hfr77 2
    have hf77_3 : World.frozen? _ ⟨go76, ((ji57) : Int).toNat * 4 + 3, none⟩ = false := hfr77 3
    (try clear hcl77); (try clear hcc77); (try clear hfr77); (try clear hM77)
    replace p77 := eq_true p77; replace q77 := eq_true q77; obtain ⟨cx87, gx87⟩ := Kd.R_typed HO_8.out _ rfl; have GG87_ := zA.mk gx87; clear gx87; obtain ⟨ce87, hcl87, hM87, hcc87, hfr87⟩ := Kd.R_elem HO_8.out z48 ((ji57) : Int) (aD) (by have h_ : ((ji57) : Int) < ((x8_1.length : Int) : Int) := aD; first | exact h_ | (have e_ := (Kd.zN HO_8.out).1; omega) | simpa using h_)
    obtain rfl := k48_openM hM87
    have HP87 := (Kd.R_seg HO_8.out ((ji57) : Int) (aD) (by have h_ : ((ji57) : Int) < ((x8_1.length : Int) : Int) := aD; first | exact h_ | (have e_ := (Kd.zN HO_8.out).1; omega) | simpa using h_) (seg := [.int .i64 (wrap64 (((rd_T48 y178 (ji57)).f1) + ((rd_T50 l0 x15_1).f2)))]) (j := 1) hcl87 hcc87 (show 2 ≤ 4 from by decide) (x' := (⟨(rd_T48 y178 (ji57)).f0, wrap64 (((rd_T48 y178 (ji57)).f1) + ((rd_T50 l0 x15_1).f2)), (rd_T48 y178 (ji57)).f2, (rd_T48 y178 (ji57)).f3⟩ : S48)) (k48_mkM _ _ _ (⟨(rd_T48 y178 (ji57)).f0, wrap64 (((rd_T48 y178 (ji57)).f1) + ((rd_T50 l0 x15_1).f2)), (rd_T48 y178 (ji57)).f2, (rd_T48 y178 (ji57)).f3⟩ : S48) ) (fun _ hk => hk)).1
    rw [← Ny180.out] at HP87; have HQ87 := zA.mk HP87; clear hcl87 hcc87 hfr87 hM87 HP87; refine start_ (n := 10) (S := fun w' => w'.cell? ⟨gb149, 0, none⟩ = some (.int .i32 ((rd_T50 l0 x15_1).f0)) ∧ w'.cell? ⟨gb149, 1, none⟩ = some (.int .i64 ((rd_T50 l0 x15_1).f1)) ∧ w'.cell? ⟨gb149, 2, none⟩ = some (.int .i64 ((rd_T50 l0 x15_1).f2)) ∧ w'.cell? ⟨go76, ((ji57)).toNat * 4, none⟩ = some (.int .i64 ((rd_T48 y178 (ji57)).f0)) ∧ w'.cell? ⟨go76, ((ji57)).toNat * 4 + 1, none⟩ = some (.int .i64 ((rd_T48 y178 (ji57)).f1)) ∧ w'.cell? ⟨go76, ((ji57)).toNat * 4 + 2, none⟩ = some (.int .i64 ((rd_T48 y178 (ji57)).f2)) ∧ w'.cell? ⟨go76, ((ji57)).toNat * 4 + 3, none⟩ = some (.int .u8 ((rd_T48 y178 (ji57)).f3))) (ds := [9]) #[false, false, false, false, false, false, false, false, false, false] (by kernel_rfl) rfl rfl ⟨(zC BK149.out 0).trans rfl, (zC BK149.out 1).trans rfl, (zC BK149.out 2).trans rfl, hx179_0, hx179_1, hx179_2, hx179_3⟩ (fun hHeld => ?_); refine with_tabW cells_Make.tab12 cells_Make.bits12 (fun HT_ HW_ => ?_)
    generalize w85.drew = w86 at HO_8 HO_9 BK149 HB GG87_ HQ87 hf77_0 hf77_1 hf77_2 hf77_3 hx179_0 hx179_1 hx179_2 hx179_3 hx77_0 hx77_1 hx77_2 hx77_3 hHeld ⊢
    refine aP 0 (some 64) (tf_ 1 10) HT_ ?_
    refine aP 1 (some 65) (tf_ 2 10) HT_ ?_
    refine aP 2 (some 66) (tf_ 3 10) HT_ ?_
    refine aP 4 (some 68) (tb_ 23 10) HT_ ?_
    refine take_ (i := 3) (N := some 67) (v := ?_) (a' := ?_) (tf_ 5 10) rfl rfl (take_ofW HT_.out HW_.out (by kernel_rfl)) (fun _ _ _ h => h) (Or.inl ⟨by rfl, ?_⟩) hHeld ?_ ?_
    rotate_left
    ·rintro w' ⟨s0, s1, s2, s3, s4, s5, s6⟩
     go_simp
     with_reducible rfl
    rotate_left
    ·simp only [Act.put, sA_, sB_, sC_, i64_w, i32_w]
     rfl
    refine take_ (i := 5) (N := some 69) (v := ?_) (a' := ?_) (tf_ 6 10) rfl rfl (take_ofW HT_.out HW_.out (by kernel_rfl)) (fun _ _ _ h => h) (Or.inl ⟨by rfl, ?_⟩) hHeld ?_ ?_
    rotate_left
    ·rintro w' ⟨s0, s1, s2, s3, s4, s5, s6⟩
     go_simp
     with_reducible rfl
    rotate_left
    ·simp only [Act.put, sA_, sB_, sC_, i64_w, i32_w]
     rfl
    refine aP 6 (some 70) (tf_ 7 10) HT_ ?_
    refine aP 7 (some 71) (tf_ 8 10) HT_ ?_
    refine aP 8 (some 72) (tf_ 9 10) HT_ ?_
    refine last_ (i := 9) (N := none) (tb_ 1023 10) rfl rfl (one_of HT_.out (by kernel_rfl)) (by decide) (fun K hK => ?_)
    refine skip_ (w1 := ?_) (by rfl) rfl ?_ ?_
    rotate_left
    ·go_simp
     rfl
    refine hK.out _ _ ?_
    clear hK K; refine done_ (done_of HT_.out (by kernel_rfl)) ?_
    try go_wp2
    have n0_ : zA (Kd.R k48 48 (w86.setCell ⟨go76, ((ji57) : Int).toNat * 4 + 1, none⟩ (.int .i64 (wrap64 (((rd_T48 y178 (ji57)).f1) + ((rd_T50 l0 x15_1).f2))))) w.heap.size (fun _ => True) (.slice (some ⟨go76, 0, none⟩) x8_1.length co82) y180) := ⟨aR HQ87⟩
    have n1_ : zA (Kd.R (Kd.int .i64) 3 (w86.setCell ⟨go76, ((ji57) : Int).toNat * 4 + 1, none⟩ (.int .i64 (wrap64 (((rd_T48 y178 (ji57)).f1) + ((rd_T50 l0 x15_1).f2))))) w.heap.size (fun _ => True) (.slice (some ad172) x9_1.length co83) x9_1) := ⟨by (with_reducible repeat (first | apply Kd.zG | apply Kd.zH | apply Kd.zI)); exact Kd.zS (Kd.zP (p := ⟨go76, ((ji57) : Int).toNat * 4 + 1, none⟩) (Kd.zT HO_9.out GG87_.out (by decide)) (fun _ hk => hk.2) (.int .i64 (wrap64 (((rd_T48 y178 (ji57)).f1) + ((rd_T50 l0 x15_1).f2))))) (fun _ hk => trivial)⟩
    have n2_ : zA ((w86.setCell ⟨go76, ((ji57) : Int).toNat * 4 + 1, none⟩ (.int .i64 (wrap64 (((rd_T48 y178 (ji57)).f1) + ((rd_T50 l0 x15_1).f2))))).heap[gb149]? = some (.cells #[.int .i32 ((rd_T50 l0 x15_1).f0), .int .i64 ((rd_T50 l0 x15_1).f1), .int .i64 ((rd_T50 l0 x15_1).f2)] 50 (0, 0))) := ⟨by (with_reducible repeat (first | refine zE ?_ _ | refine zD ?_ | refine zB ?_ _)); refine blk_far ?_ (by have h_ := Kd.R_ne HO_8.out BK149.out (by decide); intro e_; exact h_ (by rw [e_]; rfl)) _; (with_reducible repeat (first | refine zE ?_ _ | refine zD ?_ | refine zB ?_ _)); exact BK149.out⟩
    have n3_ : zA (Below w.heap.size w (w86.setCell ⟨go76, ((ji57) : Int).toNat * 4 + 1, none⟩ (.int .i64 (wrap64 (((rd_T48 y178 (ji57)).f1) + ((rd_T50 l0 x15_1).f2)))))) := ⟨aL HB⟩
    (try clear HO_8)
    (try clear HO_9)
    (try clear BK149)
    (try clear HB)
    generalize (w86.setCell ⟨go76, ((ji57) : Int).toNat * 4 + 1, none⟩ (.int .i64 (wrap64 (((rd_T48 y178 (ji57)).f1) + ((rd_T50 l0 x15_1).f2))))) = w88 at n0_ n1_ n2_ n3_ ⊢
    have HO_8 := n0_; have HO_9 := n1_; have BK149 := n2_; have HB := n3_; clear n0_ n1_ n2_ n3_; replace HO_8 := zA.mk (Kd.zI HO_8.out); replace HO_9 := zA.mk (Kd.zI HO_9.out); replace BK149 := zA.mk (zD BK149.out); replace HB := zA.mk (below_drew1 HB.out); have p181 : 0 ≤ ((ji57) : Int) := aD
    have q181 : (ji57) < (y180.length : Int) := (by have h_ : ((ji57) : Int) < ((x8_1.length : Int) : Int) := aD; first | (have e_ := (Kd.zN HO_8.out).1; omega) | simpa only [Ny178.out, Ny180.out, List.length_set] using h_)
    have ql181 : (((ji57) : Int) < ((x8_1.length : Int) : Int)) = True := eq_true (aD)
    obtain ⟨ad181, e181, hx181_0, hx181_1, hx181_2, hx181_3⟩ := at_T48 (Kd.zN HO_8.out).2.2 (ji57) p181 q181; obtain rfl : (⟨go76, 0, none⟩ : Addr) = ad181 := (by injection e181)
    (first | simp only [add_plain] at hx181_0 | simp only [add_at] at hx181_0 | simp only [Addr.add, Nat.zero_add] at hx181_0 | skip)
    (first | simp only [add_plain] at hx181_1 | simp only [add_at] at hx181_1 | simp only [Addr.add, Nat.zero_add] at hx181_1 | skip)
    (first | simp only [add_plain] at hx181_2 | simp only [add_at] at hx181_2 | simp only [Addr.add, Nat.zero_add] at hx181_2 | skip)
    (first | simp only [add_plain] at hx181_3 | simp only [add_at] at hx181_3 | simp only [Addr.add, Nat.zero_add] at hx181_3 | skip)
    replace p181 := eq_true p181; replace q181 := eq_true q181; refine start_ (n := 14) (S := fun w' => w'.cell? ⟨gb149, 0, none⟩ = some (.int .i32 ((rd_T50 l0 x15_1).f0)) ∧ w'.cell? ⟨gb149, 1, none⟩ = some (.int .i64 ((rd_T50 l0 x15_1).f1)) ∧ w'.cell? ⟨gb149, 2, none⟩ = some (.int .i64 ((rd_T50 l0 x15_1).f2)) ∧ w'.cell? ⟨go76, ((ji57)).toNat * 4, none⟩ = some (.int .i64 ((rd_T48 y180 (ji57)).f0)) ∧ w'.cell? ⟨go76, ((ji57)).toNat * 4 + 1, none⟩ = some (.int .i64 ((rd_T48 y180 (ji57)).f1)) ∧ w'.cell? ⟨go76, ((ji57)).toNat * 4 + 2, none⟩ = some (.int .i64 ((rd_T48 y180 (ji57)).f2)) ∧ w'.cell? ⟨go76, ((ji57)).toNat * 4 + 3, none⟩ = some (.int .u8 ((rd_T48 y180 (ji57)).f3))) (ds := [13]) #[false, false, false, false, false, false, false, false, false, false, false, false, false, false] (by kernel_rfl) rfl rfl ⟨(zC BK149.out 0).trans rfl, (zC BK149.out 1).trans rfl, (zC BK149.out 2).trans rfl, hx181_0, hx181_1, hx181_2, hx181_3⟩ (fun hHeld => ?_); refine with_tabW cells_Make.tab13 cells_Make.bits13 (fun HT_ HW_ => ?_)
    generalize w88.drew = w89 at HO_8 HO_9 BK149 HB HQ87 hx181_0 hx181_1 hx181_2 hx181_3 hHeld ⊢
    refine aP 0 (some 73) (tf_ 1 14) HT_ ?_
    refine aP 1 (some 74) (tf_ 2 14) HT_ ?_
    refine aP 2 (some 75) (tf_ 3 14) HT_ ?_
    refine aP 3 (some 76) (tf_ 4 14) HT_ ?_
    refine aP 5 (some 78) (tb_ 47 14) HT_ ?_
    refine aP 6 (some 79) (tb_ 111 14) HT_ ?_
    refine take_ (i := 4) (N := some 77) (v := ?_) (a' := ?_) (tf_ 7 14) rfl rfl (take_ofW HT_.out HW_.out (by kernel_rfl)) (fun _ _ _ h => h) (Or.inl ⟨by rfl, ?_⟩) hHeld ?_ ?_
    rotate_left
    ·rintro w' ⟨s0, s1, s2, s3, s4, s5, s6⟩
     go_simp
     with_reducible rfl
    rotate_left
    ·simp only [Act.put, sA_, sB_, sC_, i64_w, i32_w]
     rfl
    refine take_ (i := 7) (N := some 80) (v := ?_) (a' := ?_) (tf_ 8 14) rfl rfl (take_ofW HT_.out HW_.out (by kernel_rfl)) (fun _ _ _ h => h) (Or.inl ⟨by rfl, ?_⟩) hHeld ?_ ?_
    rotate_left
    ·rintro w' ⟨s0, s1, s2, s3, s4, s5, s6⟩
     go_simp
     with_reducible rfl
    rotate_left
    ·simp only [Act.put, sA_, sB_, sC_, i64_w, i32_w]
     rfl
    refine one_ (i := 8) (N := some 81) (tb_ 511 14) rfl rfl (one_of HT_.out (by kernel_rfl)) (by decide) (fun K hK => ?_)
    refine goes_ Try.func22 (by kernel_rfl) rfl #[vt2_, .int .i32 ((rd_T50 l0 x15_1).f0)] (by rfl) rfl rfl aT ?_
    with_reducible refine (prop_Table_Of.calls vt2_ a2 ((rd_T50 l0 x15_1).f0) t182 _ ?side1 A78.out).mono ?_
    (case side1 => exact TabAt.below HTa2.out (aL HB))
    rintro e w' ⟨rfl, ⟨nd, rfl⟩⟩
    refine ⟨_, rfl, ?_⟩
    have p81 : 0 ≤ ((ji57) : Int) := aD
    have q81 : ((ji57) : Int) < ((x8_1.length : Int) : Int) := aD
    obtain ⟨ce81, hcl81, hM81, hcc81, hfr81⟩ := Kd.R_elem HO_8.out z48 ((ji57) : Int) p81 q81; obtain rfl := k48_openM hM81
    have hx81_0 : World.cell? _ ⟨go76, ((ji57) : Int).toNat * 4, none⟩ = some (.int .i64 ((rd_T48 y180 (ji57)).f0)) := hcc81 0 _ rfl
    have hx81_1 : World.cell? _ ⟨go76, ((ji57) : Int).toNat * 4 + 1, none⟩ = some (.int .i64 ((rd_T48 y180 (ji57)).f1)) := hcc81 1 _ rfl
    have hx81_2 : World.cell? _ ⟨go76, ((ji57) : Int).toNat * 4 + 2, none⟩ = some (.int .i64 ((rd_T48 y180 (ji57)).f2)) := hcc81 2 _ rfl
    have hx81_3 : World.cell? _ ⟨go76, ((ji57) : Int).toNat * 4 + 3, none⟩ = some (.int .u8 ((rd_T48 y180 (ji57)).f3)) := hcc81 3 _ rfl
    have hf81_0 : World.frozen? _ ⟨go76, ((ji57) : Int).toNat * 4, none⟩ = false := hfr81 0
    have hf81_1 : World.frozen? _ ⟨go76, ((ji57) : Int).toNat * 4 + 1, none⟩ = false := hfr81 1
    have hf81_2 : World.frozen? _ ⟨go76, ((ji57) : Int).toNat * 4 + 2, none⟩ = false := hfr81 2
    have hf81_3 : World.frozen? _ ⟨go76, ((ji57) : Int).toNat * 4 + 3, none⟩ = false := hfr81 3
    (try clear hcl81); (try clear hcc81); (try clear hfr81); (try clear hM81)
    replace p81 := eq_true p81; replace q81 := eq_true q81; obtain ⟨cx90, gx90⟩ := Kd.R_typed HO_8.out _ rfl; have GG90_ := zA.mk gx90; clear gx90; obtain ⟨ce90, hcl90, hM90, hcc90, hfr90⟩ := Kd.R_elem HO_8.out z48 ((ji57) : Int) (aD) (by have h_ : ((ji57) : Int) < ((x8_1.length : Int) : Int) := aD; first | exact h_ | (have e_ := (Kd.zN HO_8.out).1; omega) | simpa using h_)
    obtain rfl := k48_openM hM90
    have HP90 := (Kd.R_seg HO_8.out ((ji57) : Int) (aD) (by have h_ : ((ji57) : Int) < ((x8_1.length : Int) : Int) := aD; first | exact h_ | (have e_ := (Kd.zN HO_8.out).1; omega) | simpa using h_) (seg := [.int .i64 ji80]) (j := 2) hcl90 hcc90 (show 3 ≤ 4 from by decide) (x' := (⟨(rd_T48 y180 (ji57)).f0, (rd_T48 y180 (ji57)).f1, ji80, (rd_T48 y180 (ji57)).f3⟩ : S48)) (k48_mkM _ _ _ (⟨(rd_T48 y180 (ji57)).f0, (rd_T48 y180 (ji57)).f1, ji80, (rd_T48 y180 (ji57)).f3⟩ : S48) ) (fun _ hk => hk)).1
    rw [← Ny183.out] at HP90; have HQ90 := zA.mk HP90; clear hcl90 hcc90 hfr90 hM90 HP90; refine hK.out _ _ ⟨(zC BK149.out 0).trans rfl, (zC BK149.out 1).trans rfl, (zC BK149.out 2).trans rfl, hHeld.2.2.2.1, hHeld.2.2.2.2.1, hHeld.2.2.2.2.2.1, hHeld.2.2.2.2.2.2⟩ (fun hHeld => ?_)
    clear hK K; refine norm_ (a' := ?_) ?_ ?_
    rotate_left
    ·show Act.put _ (some 81) _ = _
     simp only [Act.put, sA_, sB_, sC_, i64_w, i32_w]; rfl
    refine aP 9 (some 82) (tf_ 10 14) HT_ ?_
    refine aP 10 (some 83) (tf_ 11 14) HT_ ?_
    refine aP 11 (some 84) (tf_ 12 14) HT_ ?_
    refine aP 12 (some 85) (tf_ 13 14) HT_ ?_
    refine last_ (i := 13) (N := none) (tb_ 16383 14) rfl rfl (one_of HT_.out (by kernel_rfl)) (by decide) (fun K hK => ?_)
    refine skip_ (w1 := ?_) (by rfl) rfl ?_ ?_
    rotate_left
    ·go_simp
     rfl
    refine hK.out _ _ ?_
    clear hK K; refine done_ (done_of HT_.out (by kernel_rfl)) ?_
    try go_wp2
    go_roundg kj6
    case measure => have := HK1.out; have := HJ6.out; omega
    case rel => exact ⟨(y183), (x9_1), (wrap64 (x15_1 + 1)), aZ, H', ⟨by have := HK1.out; have := HJ6.out; omega⟩, ⟨aR HQ90⟩, ⟨by (with_reducible repeat (first | apply Kd.zG | apply Kd.zH | apply Kd.zI)); exact Kd.zS (Kd.zP (p := ⟨go76, ((ji57) : Int).toNat * 4 + 2, none⟩) (Kd.zT HO_9.out GG90_.out (by decide)) (fun _ hk => hk.2) (.int .i64 ji80)) (fun _ hk => trivial)⟩, ⟨aL HB⟩⟩
   subst c13; have H1 : ((cells_kind.f ((rd_T50 l0 x15_1).f0)).bind fun t151 => (if x8_1.length < 4398046511104 then ((some (x8_1 ++ [(⟨((rd_T50 l0 x15_1).f1), 0, 0, t151⟩ : S48)] : List (S48))).bind fun y152 => (if x9_1.length < 17592186044416 then ((some (x9_1 ++ [x15_1] : List Int)).bind fun y155 => (if 0 ≤ (wrap64 ((y152.length : Int) - 1)) then (if (wrap64 ((y152.length : Int) - 1)) < (y152.length : Int) then (if 0 ≤ (wrap64 ((y155.length : Int) - 1)) then (if (wrap64 ((y155.length : Int) - 1)) < (y155.length : Int) then (if (rd y155 (wrap64 ((y155.length : Int) - 1))) = x15_1 then ((some (y152.set ((wrap64 ((y152.length : Int) - 1)) : Int).toNat (⟨(rd_T48 y152 (wrap64 ((y152.length : Int) - 1))).f0, wrap64 (((rd_T48 y152 (wrap64 ((y152.length : Int) - 1))).f1) + ((rd_T50 l0 x15_1).f2)), (rd_T48 y152 (wrap64 ((y152.length : Int) - 1))).f2, (rd_T48 y152 (wrap64 ((y152.length : Int) - 1))).f3⟩ : S48) : List (S48))).bind fun y161 => ((prop_Table_Of.f a2 ((rd_T50 l0 x15_1).f0)).bind fun t163 => (cells_Make.l0 kj6 l0 l1 a2 (y161.set ((wrap64 ((y152.length : Int) - 1)) : Int).toNat (⟨(rd_T48 y161 (wrap64 ((y152.length : Int) - 1))).f0, (rd_T48 y161 (wrap64 ((y152.length : Int) - 1))).f1, mx ((rd_T48 y161 (wrap64 ((y152.length : Int) - 1))).f2) (mn t163 2), (rd_T48 y161 (wrap64 ((y152.length : Int) - 1))).f3⟩ : S48)) y155 l0 (l0.length : Int) (wrap64 (x15_1 + 1))))) else ((some (y152.set ((wrap64 ((y152.length : Int) - 1)) : Int).toNat (⟨(rd_T48 y152 (wrap64 ((y152.length : Int) - 1))).f0, (rd_T48 y152 (wrap64 ((y152.length : Int) - 1))).f1, (rd_T48 y152 (wrap64 ((y152.length : Int) - 1))).f2, 0⟩ : S48) : List (S48))).bind fun y165 => ((some (y165.set ((wrap64 ((y152.length : Int) - 1)) : Int).toNat (⟨(rd_T48 y165 (wrap64 ((y152.length : Int) - 1))).f0, wrap64 (((rd_T48 y165 (wrap64 ((y152.length : Int) - 1))).f1) + ((rd_T50 l0 x15_1).f2)), (rd_T48 y165 (wrap64 ((y152.length : Int) - 1))).f2, (rd_T48 y165 (wrap64 ((y152.length : Int) - 1))).f3⟩ : S48) : List (S48))).bind fun y167 => ((prop_Table_Of.f a2 ((rd_T50 l0 x15_1).f0)).bind fun t169 => (cells_Make.l0 kj6 l0 l1 a2 (y167.set ((wrap64 ((y152.length : Int) - 1)) : Int).toNat (⟨(rd_T48 y167 (wrap64 ((y152.length : Int) - 1))).f0, (rd_T48 y167 (wrap64 ((y152.length : Int) - 1))).f1, mx ((rd_T48 y167 (wrap64 ((y152.length : Int) - 1))).f2) (mn t169 2), (rd_T48 y167 (wrap64 ((y152.length : Int) - 1))).f3⟩ : S48)) y155 l0 (l0.length : Int) (wrap64 (x15_1 + 1))))))) else (none)) else (none)) else (none)) else (none))) else (none))) else (none))) = some (r1, r2) := by rw [if_pos rfl] at H; exact H
   clear H; have H := H1; clear H1; replace H := Option.bind_eq_some_iff.mp H; obtain ⟨t151, A140, H⟩ := H; replace H : (if x8_1.length < 4398046511104 then ((some (x8_1 ++ [(⟨((rd_T50 l0 x15_1).f1), 0, 0, t151⟩ : S48)] : List (S48))).bind fun y152 => (if x9_1.length < 17592186044416 then ((some (x9_1 ++ [x15_1] : List Int)).bind fun y155 => (if 0 ≤ (wrap64 ((y152.length : Int) - 1)) then (if (wrap64 ((y152.length : Int) - 1)) < (y152.length : Int) then (if 0 ≤ (wrap64 ((y155.length : Int) - 1)) then (if (wrap64 ((y155.length : Int) - 1)) < (y155.length : Int) then (if (rd y155 (wrap64 ((y155.length : Int) - 1))) = x15_1 then ((some (y152.set ((wrap64 ((y152.length : Int) - 1)) : Int).toNat (⟨(rd_T48 y152 (wrap64 ((y152.length : Int) - 1))).f0, wrap64 (((rd_T48 y152 (wrap64 ((y152.length : Int) - 1))).f1) + ((rd_T50 l0 x15_1).f2)), (rd_T48 y152 (wrap64 ((y152.length : Int) - 1))).f2, (rd_T48 y152 (wrap64 ((y152.length : Int) - 1))).f3⟩ : S48) : List (S48))).bind fun y161 => ((prop_Table_Of.f a2 ((rd_T50 l0 x15_1).f0)).bind fun t163 => (cells_Make.l0 kj6 l0 l1 a2 (y161.set ((wrap64 ((y152.length : Int) - 1)) : Int).toNat (⟨(rd_T48 y161 (wrap64 ((y152.length : Int) - 1))).f0, (rd_T48 y161 (wrap64 ((y152.length : Int) - 1))).f1, mx ((rd_T48 y161 (wrap64 ((y152.length : Int) - 1))).f2) (mn t163 2), (rd_T48 y161 (wrap64 ((y152.length : Int) - 1))).f3⟩ : S48)) y155 l0 (l0.length : Int) (wrap64 (x15_1 + 1))))) else ((some (y152.set ((wrap64 ((y152.length : Int) - 1)) : Int).toNat (⟨(rd_T48 y152 (wrap64 ((y152.length : Int) - 1))).f0, (rd_T48 y152 (wrap64 ((y152.length : Int) - 1))).f1, (rd_T48 y152 (wrap64 ((y152.length : Int) - 1))).f2, 0⟩ : S48) : List (S48))).bind fun y165 => ((some (y165.set ((wrap64 ((y152.length : Int) - 1)) : Int).toNat (⟨(rd_T48 y165 (wrap64 ((y152.length : Int) - 1))).f0, wrap64 (((rd_T48 y165 (wrap64 ((y152.length : Int) - 1))).f1) + ((rd_T50 l0 x15_1).f2)), (rd_T48 y165 (wrap64 ((y152.length : Int) - 1))).f2, (rd_T48 y165 (wrap64 ((y152.length : Int) - 1))).f3⟩ : S48) : List (S48))).bind fun y167 => ((prop_Table_Of.f a2 ((rd_T50 l0 x15_1).f0)).bind fun t169 => (cells_Make.l0 kj6 l0 l1 a2 (y167.set ((wrap64 ((y152.length : Int) - 1)) : Int).toNat (⟨(rd_T48 y167 (wrap64 ((y152.length : Int) - 1))).f0, (rd_T48 y167 (wrap64 ((y152.length : Int) - 1))).f1, mx ((rd_T48 y167 (wrap64 ((y152.length : Int) - 1))).f2) (mn t169 2), (rd_T48 y167 (wrap64 ((y152.length : Int) - 1))).f3⟩ : S48)) y155 l0 (l0.length : Int) (wrap64 (x15_1 + 1))))))) else (none)) else (none)) else (none)) else (none))) else (none))) else (none)) = some (r1, r2) := H
   have A14 := zA.mk A140; clear A140; by_cases c15 : x8_1.length < 4398046511104
   rotate_left
   ·rw [if_neg c15] at H
    exact absurd H (by simp)
   rw [if_pos c15] at H; have LMc15 := zA.mk c15; clear c15; obtain ⟨y152, hy152⟩ : ∃ y_ : List (S48), y_ = (x8_1 ++ [(⟨((rd_T50 l0 x15_1).f1), 0, 0, t151⟩ : S48)]) := ⟨_, rfl⟩; replace H : (if x9_1.length < 17592186044416 then ((some (x9_1 ++ [x15_1] : List Int)).bind fun y155 => (if 0 ≤ (wrap64 ((y152.length : Int) - 1)) then (if (wrap64 ((y152.length : Int) - 1)) < (y152.length : Int) then (if 0 ≤ (wrap64 ((y155.length : Int) - 1)) then (if (wrap64 ((y155.length : Int) - 1)) < (y155.length : Int) then (if (rd y155 (wrap64 ((y155.length : Int) - 1))) = x15_1 then ((some (y152.set ((wrap64 ((y152.length : Int) - 1)) : Int).toNat (⟨(rd_T48 y152 (wrap64 ((y152.length : Int) - 1))).f0, wrap64 (((rd_T48 y152 (wrap64 ((y152.length : Int) - 1))).f1) + ((rd_T50 l0 x15_1).f2)), (rd_T48 y152 (wrap64 ((y152.length : Int) - 1))).f2, (rd_T48 y152 (wrap64 ((y152.length : Int) - 1))).f3⟩ : S48) : List (S48))).bind fun y161 => ((prop_Table_Of.f a2 ((rd_T50 l0 x15_1).f0)).bind fun t163 => (cells_Make.l0 kj6 l0 l1 a2 (y161.set ((wrap64 ((y152.length : Int) - 1)) : Int).toNat (⟨(rd_T48 y161 (wrap64 ((y152.length : Int) - 1))).f0, (rd_T48 y161 (wrap64 ((y152.length : Int) - 1))).f1, mx ((rd_T48 y161 (wrap64 ((y152.length : Int) - 1))).f2) (mn t163 2), (rd_T48 y161 (wrap64 ((y152.length : Int) - 1))).f3⟩ : S48)) y155 l0 (l0.length : Int) (wrap64 (x15_1 + 1))))) else ((some (y152.set ((wrap64 ((y152.length : Int) - 1)) : Int).toNat (⟨(rd_T48 y152 (wrap64 ((y152.length : Int) - 1))).f0, (rd_T48 y152 (wrap64 ((y152.length : Int) - 1))).f1, (rd_T48 y152 (wrap64 ((y152.length : Int) - 1))).f2, 0⟩ : S48) : List (S48))).bind fun y165 => ((some (y165.set ((wrap64 ((y152.length : Int) - 1)) : Int).toNat (⟨(rd_T48 y165 (wrap64 ((y152.length : Int) - 1))).f0, wrap64 (((rd_T48 y165 (wrap64 ((y152.length : Int) - 1))).f1) + ((rd_T50 l0 x15_1).f2)), (rd_T48 y165 (wrap64 ((y152.length : Int) - 1))).f2, (rd_T48 y165 (wrap64 ((y152.length : Int) - 1))).f3⟩ : S48) : List (S48))).bind fun y167 => ((prop_Table_Of.f a2 ((rd_T50 l0 x15_1).f0)).bind fun t169 => (cells_Make.l0 kj6 l0 l1 a2 (y167.set ((wrap64 ((y152.length : Int) - 1)) : Int).toNat (⟨(rd_T48 y167 (wrap64 ((y152.length : Int) - 1))).f0, (rd_T48 y167 (wrap64 ((y152.length : Int) - 1))).f1, mx ((rd_T48 y167 (wrap64 ((y152.length : Int) - 1))).f2) (mn t169 2), (rd_T48 y167 (wrap64 ((y152.length : Int) - 1))).f3⟩ : S48)) y155 l0 (l0.length : Int) (wrap64 (x15_1 + 1))))))) else (none)) else (none)) else (none)) else (none))) else (none)) = some (r1, r2) := by first | (rw [hy152]; with_reducible exact H) | (have H2_ := (Option.bind_some _ _).symm.trans H; rw [hy152]; with_reducible exact H2_) | (have H2_ := (Option.bind_some _ _).symm.trans H; with_reducible exact H2_) | with_reducible exact H | (rw [hy152]; exact H) | exact H
   have Ny152 := zA.mk hy152; clear hy152; by_cases c16 : x9_1.length < 17592186044416
   rotate_left
   ·rw [if_neg c16] at H
    exact absurd H (by simp)
   rw [if_pos c16] at H; have LMc16 := zA.mk c16; clear c16; obtain ⟨y155, hy155⟩ : ∃ y_ : List Int, y_ = (x9_1 ++ [x15_1]) := ⟨_, rfl⟩; replace H : (if 0 ≤ (wrap64 ((y152.length : Int) - 1)) then (if (wrap64 ((y152.length : Int) - 1)) < (y152.length : Int) then (if 0 ≤ (wrap64 ((y155.length : Int) - 1)) then (if (wrap64 ((y155.length : Int) - 1)) < (y155.length : Int) then (if (rd y155 (wrap64 ((y155.length : Int) - 1))) = x15_1 then ((some (y152.set ((wrap64 ((y152.length : Int) - 1)) : Int).toNat (⟨(rd_T48 y152 (wrap64 ((y152.length : Int) - 1))).f0, wrap64 (((rd_T48 y152 (wrap64 ((y152.length : Int) - 1))).f1) + ((rd_T50 l0 x15_1).f2)), (rd_T48 y152 (wrap64 ((y152.length : Int) - 1))).f2, (rd_T48 y152 (wrap64 ((y152.length : Int) - 1))).f3⟩ : S48) : List (S48))).bind fun y161 => ((prop_Table_Of.f a2 ((rd_T50 l0 x15_1).f0)).bind fun t163 => (cells_Make.l0 kj6 l0 l1 a2 (y161.set ((wrap64 ((y152.length : Int) - 1)) : Int).toNat (⟨(rd_T48 y161 (wrap64 ((y152.length : Int) - 1))).f0, (rd_T48 y161 (wrap64 ((y152.length : Int) - 1))).f1, mx ((rd_T48 y161 (wrap64 ((y152.length : Int) - 1))).f2) (mn t163 2), (rd_T48 y161 (wrap64 ((y152.length : Int) - 1))).f3⟩ : S48)) y155 l0 (l0.length : Int) (wrap64 (x15_1 + 1))))) else ((some (y152.set ((wrap64 ((y152.length : Int) - 1)) : Int).toNat (⟨(rd_T48 y152 (wrap64 ((y152.length : Int) - 1))).f0, (rd_T48 y152 (wrap64 ((y152.length : Int) - 1))).f1, (rd_T48 y152 (wrap64 ((y152.length : Int) - 1))).f2, 0⟩ : S48) : List (S48))).bind fun y165 => ((some (y165.set ((wrap64 ((y152.length : Int) - 1)) : Int).toNat (⟨(rd_T48 y165 (wrap64 ((y152.length : Int) - 1))).f0, wrap64 (((rd_T48 y165 (wrap64 ((y152.length : Int) - 1))).f1) + ((rd_T50 l0 x15_1).f2)), (rd_T48 y165 (wrap64 ((y152.length : Int) - 1))).f2, (rd_T48 y165 (wrap64 ((y152.length : Int) - 1))).f3⟩ : S48) : List (S48))).bind fun y167 => ((prop_Table_Of.f a2 ((rd_T50 l0 x15_1).f0)).bind fun t169 => (cells_Make.l0 kj6 l0 l1 a2 (y167.set ((wrap64 ((y152.length : Int) - 1)) : Int).toNat (⟨(rd_T48 y167 (wrap64 ((y152.length : Int) - 1))).f0, (rd_T48 y167 (wrap64 ((y152.length : Int) - 1))).f1, mx ((rd_T48 y167 (wrap64 ((y152.length : Int) - 1))).f2) (mn t169 2), (rd_T48 y167 (wrap64 ((y152.length : Int) - 1))).f3⟩ : S48)) y155 l0 (l0.length : Int) (wrap64 (x15_1 + 1))))))) else (none)) else (none)) else (none)) else (none)) = some (r1, r2) := by first | (rw [hy155]; with_reducible exact H) | (have H2_ := (Option.bind_some _ _).symm.trans H; rw [hy155]; with_reducible exact H2_) | (have H2_ := (Option.bind_some _ _).symm.trans H; with_reducible exact H2_) | with_reducible exact H | (rw [hy155]; exact H) | exact H
   have Ny155 := zA.mk hy155; clear hy155; obtain ⟨ji17, hji17⟩ : ∃ j_ : Int, (wrap64 ((y152.length : Int) - 1)) = j_ := ⟨_, rfl⟩; replace H : (if 0 ≤ (ji17) then (if (ji17) < (y152.length : Int) then (if 0 ≤ (wrap64 ((y155.length : Int) - 1)) then (if (wrap64 ((y155.length : Int) - 1)) < (y155.length : Int) then (if (rd y155 (wrap64 ((y155.length : Int) - 1))) = x15_1 then ((some (y152.set ((ji17) : Int).toNat (⟨(rd_T48 y152 (ji17)).f0, wrap64 (((rd_T48 y152 (ji17)).f1) + ((rd_T50 l0 x15_1).f2)), (rd_T48 y152 (ji17)).f2, (rd_T48 y152 (ji17)).f3⟩ : S48) : List (S48))).bind fun y161 => ((prop_Table_Of.f a2 ((rd_T50 l0 x15_1).f0)).bind fun t163 => (cells_Make.l0 kj6 l0 l1 a2 (y161.set ((ji17) : Int).toNat (⟨(rd_T48 y161 (ji17)).f0, (rd_T48 y161 (ji17)).f1, mx ((rd_T48 y161 (ji17)).f2) (mn t163 2), (rd_T48 y161 (ji17)).f3⟩ : S48)) y155 l0 (l0.length : Int) (wrap64 (x15_1 + 1))))) else ((some (y152.set ((ji17) : Int).toNat (⟨(rd_T48 y152 (ji17)).f0, (rd_T48 y152 (ji17)).f1, (rd_T48 y152 (ji17)).f2, 0⟩ : S48) : List (S48))).bind fun y165 => ((some (y165.set ((ji17) : Int).toNat (⟨(rd_T48 y165 (ji17)).f0, wrap64 (((rd_T48 y165 (ji17)).f1) + ((rd_T50 l0 x15_1).f2)), (rd_T48 y165 (ji17)).f2, (rd_T48 y165 (ji17)).f3⟩ : S48) : List (S48))).bind fun y167 => ((prop_Table_Of.f a2 ((rd_T50 l0 x15_1).f0)).bind fun t169 => (cells_Make.l0 kj6 l0 l1 a2 (y167.set ((ji17) : Int).toNat (⟨(rd_T48 y167 (ji17)).f0, (rd_T48 y167 (ji17)).f1, mx ((rd_T48 y167 (ji17)).f2) (mn t169 2), (rd_T48 y167 (ji17)).f3⟩ : S48)) y155 l0 (l0.length : Int) (wrap64 (x15_1 + 1))))))) else (none)) else (none)) else (none)) else (none)) = some (r1, r2) := by first | (rw [hji17] at H; exact H) | (simp only [hji17] at H ⊢; exact H)
   (try rw [hji17] at A14)
   have hji17w : (IntKind.i64.wrap ((y152.length : Int) - 1)) = ji17 := (i64_w _).trans hji17
   by_cases c18 : 0 ≤ (ji17)
   rotate_left
   ·rw [if_neg c18] at H
    exact absurd H (by simp)
   rw [if_pos c18] at H; have c18b0 : decide (0 ≤ (ji17)) = true := decide_eq_true c18
   clear c18; by_cases c19 : (ji17) < (y152.length : Int)
   rotate_left
   ·rw [if_neg c19] at H
    exact absurd H (by simp)
   rw [if_pos c19] at H; have c19b0 : decide ((ji17) < (y152.length : Int)) = true := decide_eq_true c19
   clear c19; obtain ⟨ji20, hji20⟩ : ∃ j_ : Int, (wrap64 ((y155.length : Int) - 1)) = j_ := ⟨_, rfl⟩; replace H : (if 0 ≤ (ji20) then (if (ji20) < (y155.length : Int) then (if (rd y155 (ji20)) = x15_1 then ((some (y152.set ((ji17) : Int).toNat (⟨(rd_T48 y152 (ji17)).f0, wrap64 (((rd_T48 y152 (ji17)).f1) + ((rd_T50 l0 x15_1).f2)), (rd_T48 y152 (ji17)).f2, (rd_T48 y152 (ji17)).f3⟩ : S48) : List (S48))).bind fun y161 => ((prop_Table_Of.f a2 ((rd_T50 l0 x15_1).f0)).bind fun t163 => (cells_Make.l0 kj6 l0 l1 a2 (y161.set ((ji17) : Int).toNat (⟨(rd_T48 y161 (ji17)).f0, (rd_T48 y161 (ji17)).f1, mx ((rd_T48 y161 (ji17)).f2) (mn t163 2), (rd_T48 y161 (ji17)).f3⟩ : S48)) y155 l0 (l0.length : Int) (wrap64 (x15_1 + 1))))) else ((some (y152.set ((ji17) : Int).toNat (⟨(rd_T48 y152 (ji17)).f0, (rd_T48 y152 (ji17)).f1, (rd_T48 y152 (ji17)).f2, 0⟩ : S48) : List (S48))).bind fun y165 => ((some (y165.set ((ji17) : Int).toNat (⟨(rd_T48 y165 (ji17)).f0, wrap64 (((rd_T48 y165 (ji17)).f1) + ((rd_T50 l0 x15_1).f2)), (rd_T48 y165 (ji17)).f2, (rd_T48 y165 (ji17)).f3⟩ : S48) : List (S48))).bind fun y167 => ((prop_Table_Of.f a2 ((rd_T50 l0 x15_1).f0)).bind fun t169 => (cells_Make.l0 kj6 l0 l1 a2 (y167.set ((ji17) : Int).toNat (⟨(rd_T48 y167 (ji17)).f0, (rd_T48 y167 (ji17)).f1, mx ((rd_T48 y167 (ji17)).f2) (mn t169 2), (rd_T48 y167 (ji17)).f3⟩ : S48)) y155 l0 (l0.length : Int) (wrap64 (x15_1 + 1))))))) else (none)) else (none)) = some (r1, r2) := by first | (rw [hji20] at H; exact H) | (simp only [hji20] at H ⊢; exact H)
   (try rw [hji20] at A14)
   have hji20w : (IntKind.i64.wrap ((y155.length : Int) - 1)) = ji20 := (i64_w _).trans hji20
   by_cases c21 : 0 ≤ (ji20)
   rotate_left
   ·rw [if_neg c21] at H
    exact absurd H (by simp)
   rw [if_pos c21] at H; have c21b0 : decide (0 ≤ (ji20)) = true := decide_eq_true c21
   clear c21; by_cases c22 : (ji20) < (y155.length : Int)
   rotate_left
   ·rw [if_neg c22] at H
    exact absurd H (by simp)
   rw [if_pos c22] at H; have c22b0 : decide ((ji20) < (y155.length : Int)) = true := decide_eq_true c22
   clear c22; by_cases c23 : (rd y155 (ji20)) = x15_1
   ·rw [if_pos c23] at H
    have c23b0 : ((rd y155 (ji20)) == x15_1) = true := beq_iff_eq.mpr c23
    have c23b1 : ((rd y155 (ji20)) != x15_1) = false := bne_eq_false_iff_eq.mpr c23
    clear c23; obtain ⟨y161, hy161⟩ : ∃ y_ : List (S48), y_ = (y152.set ((ji17) : Int).toNat (⟨(rd_T48 y152 (ji17)).f0, wrap64 (((rd_T48 y152 (ji17)).f1) + ((rd_T50 l0 x15_1).f2)), (rd_T48 y152 (ji17)).f2, (rd_T48 y152 (ji17)).f3⟩ : S48)) := ⟨_, rfl⟩; replace H : ((prop_Table_Of.f a2 ((rd_T50 l0 x15_1).f0)).bind fun t163 => (cells_Make.l0 kj6 l0 l1 a2 (y161.set ((ji17) : Int).toNat (⟨(rd_T48 y161 (ji17)).f0, (rd_T48 y161 (ji17)).f1, mx ((rd_T48 y161 (ji17)).f2) (mn t163 2), (rd_T48 y161 (ji17)).f3⟩ : S48)) y155 l0 (l0.length : Int) (wrap64 (x15_1 + 1)))) = some (r1, r2) := by first | (rw [hy161]; with_reducible exact H) | (have H2_ := (Option.bind_some _ _).symm.trans H; rw [hy161]; with_reducible exact H2_) | (have H2_ := (Option.bind_some _ _).symm.trans H; with_reducible exact H2_) | with_reducible exact H | (rw [hy161]; exact H) | exact H
    have Ny161 := zA.mk hy161; clear hy161; replace H := Option.bind_eq_some_iff.mp H; obtain ⟨t163, A250, H⟩ := H; replace H : (cells_Make.l0 kj6 l0 l1 a2 (y161.set ((ji17) : Int).toNat (⟨(rd_T48 y161 (ji17)).f0, (rd_T48 y161 (ji17)).f1, mx ((rd_T48 y161 (ji17)).f2) (mn t163 2), (rd_T48 y161 (ji17)).f3⟩ : S48)) y155 l0 (l0.length : Int) (wrap64 (x15_1 + 1))) = some (r1, r2) := H; have A25 := zA.mk A250; clear A250; obtain ⟨ji26, hji26⟩ : ∃ j_ : Int, (mn t163 2) = j_ := ⟨_, rfl⟩; replace H : (cells_Make.l0 kj6 l0 l1 a2 (y161.set ((ji17) : Int).toNat (⟨(rd_T48 y161 (ji17)).f0, (rd_T48 y161 (ji17)).f1, mx ((rd_T48 y161 (ji17)).f2) (ji26), (rd_T48 y161 (ji17)).f3⟩ : S48)) y155 l0 (l0.length : Int) (wrap64 (x15_1 + 1))) = some (r1, r2) := by first | (rw [hji26] at H; exact H) | (simp only [hji26] at H ⊢; exact H)
    (try rw [hji26] at A14)
    (try rw [hji26] at A25)
    (try (have hji26h : ji26 ≤ 2 := by (rw [← hji26]; unfold mn; (repeat' split) <;> omega)))
    (try (have hji26g : ji26 ≤ 64 := by omega))
    have hji26_ : (if 2 < t163 then 2 else t163) = ji26 := hji26
    obtain ⟨ji27, hji27⟩ : ∃ j_ : Int, (mx ((rd_T48 y161 (ji17)).f2) (ji26)) = j_ := ⟨_, rfl⟩; replace H : (cells_Make.l0 kj6 l0 l1 a2 (y161.set ((ji17) : Int).toNat (⟨(rd_T48 y161 (ji17)).f0, (rd_T48 y161 (ji17)).f1, ji27, (rd_T48 y161 (ji17)).f3⟩ : S48)) y155 l0 (l0.length : Int) (wrap64 (x15_1 + 1))) = some (r1, r2) := by first | (rw [hji27] at H; exact H) | (simp only [hji27] at H ⊢; exact H)
    (try rw [hji27] at A14)
    (try rw [hji27] at A25)
    have hji27_ : (if ((rd_T48 y161 (ji17)).f2) < (ji26) then (ji26) else ((rd_T48 y161 (ji17)).f2)) = ji27 := hji27
    obtain ⟨y164, hy164⟩ : ∃ y_ : List (S48), y_ = (y161.set ((ji17) : Int).toNat (⟨(rd_T48 y161 (ji17)).f0, (rd_T48 y161 (ji17)).f1, ji27, (rd_T48 y161 (ji17)).f3⟩ : S48)) := ⟨_, rfl⟩; replace H : (cells_Make.l0 kj6 l0 l1 a2 y164 y155 l0 (l0.length : Int) (wrap64 (x15_1 + 1))) = some (r1, r2) := by first | (rw [hy164]; with_reducible exact H) | (have H2_ := (Option.bind_some _ _).symm.trans H; rw [hy164]; with_reducible exact H2_) | (have H2_ := (Option.bind_some _ _).symm.trans H; with_reducible exact H2_) | with_reducible exact H | (rw [hy164]; exact H) | exact H
    have Ny164 := zA.mk hy164; clear hy164; have H' := zA.mk H
    clear H; try go_wp2
    replace HO_8 := zA.mk (Kd.zI HO_8.out); replace HO_9 := zA.mk (Kd.zI HO_9.out); replace BK149 := zA.mk (zD BK149.out); replace HB := zA.mk (below_drew1 HB.out); refine start_ (n := 10) (S := fun w' => w'.cell? ⟨gb149, 0, none⟩ = some (.int .i32 ((rd_T50 l0 x15_1).f0)) ∧ w'.cell? ⟨gb149, 1, none⟩ = some (.int .i64 ((rd_T50 l0 x15_1).f1)) ∧ w'.cell? ⟨gb149, 2, none⟩ = some (.int .i64 ((rd_T50 l0 x15_1).f2))) (ds := []) #[false, false, false, false, false, false, false, false, false, false] (by kernel_rfl) rfl rfl ⟨(zC BK149.out 0).trans rfl, (zC BK149.out 1).trans rfl, (zC BK149.out 2).trans rfl⟩ (fun hHeld => ?_); refine with_tabW cells_Make.tab7 cells_Make.bits7 (fun HT_ HW_ => ?_)
    generalize wc.drew = w29 at HO_8 HO_9 BK149 HB hHeld ⊢
    refine aP 0 (some 35) (tf_ 1 10) HT_ ?_
    refine aP 1 (some 36) (tf_ 2 10) HT_ ?_
    refine aP 3 (some 38) (tb_ 11 10) HT_ ?_
    refine take_ (i := 2) (N := some 37) (v := ?_) (a' := ?_) (tf_ 4 10) rfl rfl (take_ofW HT_.out HW_.out (by kernel_rfl)) (fun _ _ _ h => h) (Or.inl ⟨by rfl, ?_⟩) hHeld ?_ ?_
    rotate_left
    ·rintro w' ⟨s0, s1, s2⟩
     go_simp
     with_reducible rfl
    rotate_left
    ·simp only [Act.put, sA_, sB_, sC_, i64_w, i32_w]
     rfl
    refine take_ (i := 4) (N := some 39) (v := ?_) (a' := ?_) (tf_ 5 10) rfl rfl (take_ofW HT_.out HW_.out (by kernel_rfl)) (fun _ _ _ h => h) (Or.inl ⟨by rfl, ?_⟩) hHeld ?_ ?_
    rotate_left
    ·rintro w' ⟨s0, s1, s2⟩
     go_simp
     with_reducible rfl
    rotate_left
    ·simp only [Act.put, sA_, sB_, sC_, i64_w, i32_w]
     rfl
    refine one_ (i := 5) (N := some 40) (tb_ 63 10) rfl rfl (one_of HT_.out (by kernel_rfl)) (by decide) (fun K hK => ?_)
    refine goes_ Try.func36 (by kernel_rfl) rfl #[.int .i32 ((rd_T50 l0 x15_1).f0)] (by rfl) rfl rfl aT ?_
    with_reducible refine (cells_kind.calls ((rd_T50 l0 x15_1).f0) t151 _ A14.out).mono ?_
    rintro e w' ⟨rfl, ⟨nd, rfl⟩⟩
    refine ⟨_, rfl, ?_⟩
    refine hK.out _ _ ⟨(zC BK149.out 0).trans rfl, (zC BK149.out 1).trans rfl, (zC BK149.out 2).trans rfl⟩ (fun hHeld => ?_)
    clear hK K; refine norm_ (a' := ?_) ?_ ?_
    rotate_left
    ·show Act.put _ (some 40) _ = _
     simp only [Act.put, sA_, sB_, sC_, i64_w, i32_w]; rfl
    refine aP 6 (some 41) (tf_ 7 10) HT_ ?_
    refine one_ (i := 7) (N := some 42) (tb_ 255 10) rfl rfl (one_of HT_.out (by kernel_rfl)) (by decide) (fun K hK => ?_)
    refine value_ (w1 := ?_) (v := ?_) (by rfl) rfl ?_ ?_
    rotate_left 2
    ·go_simp
     constructor
     ·rfl
     rfl
    refine hK.out _ _ ⟨(zC (zB BK149.out _) 0).trans rfl, (zC (zB BK149.out _) 1).trans rfl, (zC (zB BK149.out _) 2).trans rfl⟩ (fun hHeld => ?_)
    clear hK K; refine norm_ (a' := ?_) ?_ ?_
    rotate_left
    ·show Act.put _ (some 42) _ = _
     simp only [Act.put, sA_, sB_, sC_, i64_w, i32_w]; rfl
    refine one_ (i := 8) (N := some 43) (tb_ 511 10) rfl rfl (one_of HT_.out (by kernel_rfl)) (by decide) (fun K hK => ?_)
    refine Kd.R_append_step k48 (w0 := w) w.heap.size (by rfl) (.tmp 35) (.tmp 42) 34 48 (.agg #[(.int .i64 0), (.int .i64 0), (.int .i64 0), (.int .u8 0)]) 32 rfl Try.underlying34 info48 rfl (by decide) (by omega) u8 x8_1 (⟨((rd_T50 l0 x15_1).f1), 0, 0, t151⟩ : S48) [.int .i64 ((rd_T50 l0 x15_1).f1), .int .i64 0, .int .i64 0, .int .u8 t151] (fun _ => True) (fun _ => False) rfl rfl ?aP (fun _ hk => hk.elim) ?aF ?aO ?aB ?aS ?aL ?_
    (case aP => exact k48_mkM _ _ _ (⟨((rd_T50 l0 x15_1).f1), 0, 0, t151⟩ : S48))
    (case aB => exact (aL HB))
    (case aF => exact (fun _ _ => trivial))
    (case aO => exact (aR HO_8))
    (case aS => exact (below_size (aL HB)))
    (case aL => have := LMc15.out; omega)
    intro v153 w30 ho hb hg hat
    rw [← Ny152.out] at ho; replace HO_9 := zA.mk (Kd.R_over' (aR HO_9) (Kd.R_typed (aR HO_8)) (by decide) hg)
    replace BK149 := zA.mk (blk_grown (g := gb149) (o := .cells #[.int .i32 ((rd_T50 l0 x15_1).f0), .int .i64 ((rd_T50 l0 x15_1).f1), .int .i64 ((rd_T50 l0 x15_1).f2)] 50 (0, 0)) (aB BK149) hg (Kd.R_ne HO_8.out BK149.out (by decide)))
    replace HB := zA.mk (hb); have HO154 := zA.mk (ho); clear HO_8; clear ho hb hg hat; refine hK.out _ _ ⟨(zC BK149.out 0).trans rfl, (zC BK149.out 1).trans rfl, (zC BK149.out 2).trans rfl⟩ (fun hHeld => ?_)
    clear hK K; refine norm_ (a' := ?_) ?_ ?_
    rotate_left
    ·show Act.put _ (some 43) _ = _
     simp only [Act.put, sA_, sB_, sC_, i64_w, i32_w]; rfl
    refine aP 9 (some 8) (tb_ 1023 10) HT_ ?_
    refine done_ (done_of HT_.out (by kernel_rfl)) ?_
    try go_wp2_with (first | ((with_reducible refine gate_builtin (b := .append) (xs := #[.tmp 44, .tmp 46]) rfl ?_); (try (refine gate_guard (by rfl) ?_; dsimp only)); at_builtin; refine Kd.R_append (Kd.int .i64) (w0 := w) w.heap.size rfl (.tmp 44) (.tmp 46) 35 3 (.int .i64 0) 8 rfl Try.underlying35 info3 rfl (by decide) (by omega) u9 x9_1 x15_1 [.int .i64 x15_1] (fun _ => True) (fun _ => False) rfl rfl ?aP (fun _ hk => hk.elim) ?aF ?aO ?aB ?aS ?aL ?_; (case aP => exact rfl); (case aB => exact (aL HB)); (case aF => exact (fun _ _ => trivial)); (case aO => exact (aR HO_9)); (case aS => exact (below_size (aL HB))); (case aL => have := LMc16.out; omega); intro v156 w31 ho hb hg hat; rw [← Ny155.out] at ho; replace BK149 := zA.mk (blk_grown (g := gb149) (o := .cells #[.int .i32 ((rd_T50 l0 x15_1).f0), .int .i64 ((rd_T50 l0 x15_1).f1), .int .i64 ((rd_T50 l0 x15_1).f2)] 50 (0, 0)) (aB BK149) hg (Kd.R_ne HO_9.out BK149.out (by decide))); replace HO154 := zA.mk (Kd.R_over' (aR HO154) (Kd.R_typed (aR HO_9)) (by decide) hg); replace HB := zA.mk (hb); have HO157 := zA.mk (ho); clear HO_9; clear ho hb hg hat; obtain ⟨Ao32, co32, eo32⟩ := Kd.zQ HO154.out; subst eo32; have p158 : 0 ≤ ((ji17) : Int) := aD; have q158 : (ji17) < (y152.length : Int) := aD; obtain ⟨ad158, e158, hx158_0, hx158_1, hx158_2, hx158_3⟩ := at_T48 (Kd.zN HO154.out).2.2 (ji17) p158 q158; cases e158; replace p158 := eq_true p158; replace q158 := eq_true q158; obtain ⟨Ao33, co33, eo33⟩ := Kd.zQ HO157.out; subst eo33; have p159 : 0 ≤ ((ji20) : Int) := aD; have q159 : (ji20) < (y155.length : Int) := aD; obtain ⟨ad159, e159, hx159_0⟩ := Kd.at_int (Kd.zN HO157.out).2.2 (ji20) p159 q159; cases e159; replace p159 := eq_true p159; replace q159 := eq_true q159))
    replace HO154 := zA.mk (Kd.zI HO154.out); replace HO157 := zA.mk (Kd.zI HO157.out); replace BK149 := zA.mk (zD BK149.out); replace HB := zA.mk (below_drew1 HB.out); have p160 : 0 ≤ ((ji17) : Int) := aD
    have q160 : (ji17) < (y152.length : Int) := aD
    obtain ⟨ad160, e160, hx160_0, hx160_1, hx160_2, hx160_3⟩ := at_T48 (Kd.zN HO154.out).2.2 (ji17) p160 q160; obtain rfl : ad158 = ad160 := (by injection e160)
    replace p160 := eq_true p160; replace q160 := eq_true q160; have p24 : 0 ≤ ((ji17) : Int) := aD
    have q24 : ((ji17) : Int) < ((y152.length : Int) : Int) := aD
    obtain ⟨go24, co24, eo24, gb24, gl24, cl24, HG24⟩ := Kd.R_form HO154.out (by omega)
    (first | cases eo24 | (injection eo24 with ea_ en_ ec_; (first | subst ea_ | (injection ea_ with ea_; subst ea_)); subst ec_; clear en_))
    have GB24 := zA.mk gb24; have GG24 := zA.mk HG24; clear gb24 gl24 HG24; (first | simp only [add_plain] at hx158_0 | skip)
    (first | simp only [add_plain] at hx158_1 | skip)
    (first | simp only [add_plain] at hx158_2 | skip)
    (first | simp only [add_plain] at hx158_3 | skip)
    (first | simp only [add_plain] at hx160_0 | skip)
    (first | simp only [add_plain] at hx160_1 | skip)
    (first | simp only [add_plain] at hx160_2 | skip)
    (first | simp only [add_plain] at hx160_3 | skip)
    obtain ⟨ce24, hcl24, hM24, hcc24, hfr24⟩ := Kd.R_elem HO154.out z48 ((ji17) : Int) p24 q24; obtain rfl := k48_openM hM24
    have hx24_0 : World.cell? _ ⟨go24, ((ji17) : Int).toNat * 4, none⟩ = some (.int .i64 ((rd_T48 y152 (ji17)).f0)) := hcc24 0 _ rfl
    have hx24_1 : World.cell? _ ⟨go24, ((ji17) : Int).toNat * 4 + 1, none⟩ = some (.int .i64 ((rd_T48 y152 (ji17)).f1)) := hcc24 1 _ rfl
    have hx24_2 : World.cell? _ ⟨go24, ((ji17) : Int).toNat * 4 + 2, none⟩ = some (.int .i64 ((rd_T48 y152 (ji17)).f2)) := hcc24 2 _ rfl
    have hx24_3 : World.cell? _ ⟨go24, ((ji17) : Int).toNat * 4 + 3, none⟩ = some (.int .u8 ((rd_T48 y152 (ji17)).f3)) := hcc24 3 _ rfl
    have hf24_0 : World.frozen? _ ⟨go24, ((ji17) : Int).toNat * 4, none⟩ = false := hfr24 0
    have hf24_1 : World.frozen? _ ⟨go24, ((ji17) : Int).toNat * 4 + 1, none⟩ = false := hfr24 1
    have hf24_2 : World.frozen? _ ⟨go24, ((ji17) : Int).toNat * 4 + 2, none⟩ = false := hfr24 2
    have hf24_3 : World.frozen? _ ⟨go24, ((ji17) : Int).toNat * 4 + 3, none⟩ = false := hfr24 3
    (try clear hcl24); (try clear hcc24); (try clear hfr24); (try clear hM24)
    replace p24 := eq_true p24; replace q24 := eq_true q24; obtain ⟨ce35, hcl35, hM35, hcc35, hfr35⟩ := Kd.R_elem HO154.out z48 ((ji17) : Int) (aD) (by have h_ : ((ji17) : Int) < ((y152.length : Int) : Int) := aD; first | exact h_ | (have e_ := (Kd.zN HO154.out).1; omega) | simpa using h_)
    obtain rfl := k48_openM hM35
    have HP35 := (Kd.R_seg HO154.out ((ji17) : Int) (aD) (by have h_ : ((ji17) : Int) < ((y152.length : Int) : Int) := aD; first | exact h_ | (have e_ := (Kd.zN HO154.out).1; omega) | simpa using h_) (seg := [.int .i64 (wrap64 (((rd_T48 y152 (ji17)).f1) + ((rd_T50 l0 x15_1).f2)))]) (j := 1) hcl35 hcc35 (show 2 ≤ 4 from by decide) (x' := (⟨(rd_T48 y152 (ji17)).f0, wrap64 (((rd_T48 y152 (ji17)).f1) + ((rd_T50 l0 x15_1).f2)), (rd_T48 y152 (ji17)).f2, (rd_T48 y152 (ji17)).f3⟩ : S48)) (k48_mkM _ _ _ (⟨(rd_T48 y152 (ji17)).f0, wrap64 (((rd_T48 y152 (ji17)).f1) + ((rd_T50 l0 x15_1).f2)), (rd_T48 y152 (ji17)).f2, (rd_T48 y152 (ji17)).f3⟩ : S48) ) (fun _ hk => hk)).1
    rw [← Ny161.out] at HP35; have HQ35 := zA.mk HP35; clear hcl35 hcc35 hfr35 hM35 HP35; refine start_ (n := 10) (S := fun w' => w'.cell? ⟨gb149, 0, none⟩ = some (.int .i32 ((rd_T50 l0 x15_1).f0)) ∧ w'.cell? ⟨gb149, 1, none⟩ = some (.int .i64 ((rd_T50 l0 x15_1).f1)) ∧ w'.cell? ⟨gb149, 2, none⟩ = some (.int .i64 ((rd_T50 l0 x15_1).f2)) ∧ w'.cell? ⟨go24, (((ji17)).toNat * 4), none⟩ = some (.int .i64 ((rd_T48 y152 (ji17)).f0)) ∧ w'.cell? ⟨go24, (((ji17)).toNat * 4) + 1, none⟩ = some (.int .i64 ((rd_T48 y152 (ji17)).f1)) ∧ w'.cell? ⟨go24, (((ji17)).toNat * 4) + 2, none⟩ = some (.int .i64 ((rd_T48 y152 (ji17)).f2)) ∧ w'.cell? ⟨go24, (((ji17)).toNat * 4) + 3, none⟩ = some (.int .u8 ((rd_T48 y152 (ji17)).f3))) (ds := [9]) #[false, false, false, false, false, false, false, false, false, false] (by kernel_rfl) rfl rfl ⟨(zC BK149.out 0).trans rfl, (zC BK149.out 1).trans rfl, (zC BK149.out 2).trans rfl, hx160_0, hx160_1, hx160_2, hx160_3⟩ (fun hHeld => ?_); refine with_tabW cells_Make.tab12 cells_Make.bits12 (fun HT_ HW_ => ?_)
    generalize w31.drew = w34 at HO154 HO157 BK149 HB GG24 HQ35 hf24_0 hf24_1 hf24_2 hf24_3 hx158_0 hx158_1 hx158_2 hx158_3 hx160_0 hx160_1 hx160_2 hx160_3 hx24_0 hx24_1 hx24_2 hx24_3 hHeld ⊢
    refine aP 0 (some 64) (tf_ 1 10) HT_ ?_
    refine aP 1 (some 65) (tf_ 2 10) HT_ ?_
    refine aP 2 (some 66) (tf_ 3 10) HT_ ?_
    refine aP 4 (some 68) (tb_ 23 10) HT_ ?_
    refine take_ (i := 3) (N := some 67) (v := ?_) (a' := ?_) (tf_ 5 10) rfl rfl (take_ofW HT_.out HW_.out (by kernel_rfl)) (fun _ _ _ h => h) (Or.inl ⟨by rfl, ?_⟩) hHeld ?_ ?_
    rotate_left
    ·rintro w' ⟨s0, s1, s2, s3, s4, s5, s6⟩
     go_simp
     with_reducible rfl
    rotate_left
    ·simp only [Act.put, sA_, sB_, sC_, i64_w, i32_w]
     rfl
    refine take_ (i := 5) (N := some 69) (v := ?_) (a' := ?_) (tf_ 6 10) rfl rfl (take_ofW HT_.out HW_.out (by kernel_rfl)) (fun _ _ _ h => h) (Or.inl ⟨by rfl, ?_⟩) hHeld ?_ ?_
    rotate_left
    ·rintro w' ⟨s0, s1, s2, s3, s4, s5, s6⟩
     go_simp
     with_reducible rfl
    rotate_left
    ·simp only [Act.put, sA_, sB_, sC_, i64_w, i32_w]
     rfl
    refine aP 6 (some 70) (tf_ 7 10) HT_ ?_
    refine aP 7 (some 71) (tf_ 8 10) HT_ ?_
    refine aP 8 (some 72) (tf_ 9 10) HT_ ?_
    refine last_ (i := 9) (N := none) (tb_ 1023 10) rfl rfl (one_of HT_.out (by kernel_rfl)) (by decide) (fun K hK => ?_)
    refine skip_ (w1 := ?_) (by rfl) rfl ?_ ?_
    rotate_left
    ·go_simp
     rfl
    refine hK.out _ _ ?_
    clear hK K; refine done_ (done_of HT_.out (by kernel_rfl)) ?_
    try go_wp2
    have n0_ : zA (Kd.R k48 48 (w34.setCell ⟨go24, ((ji17) : Int).toNat * 4 + 1, none⟩ (.int .i64 (wrap64 (((rd_T48 y152 (ji17)).f1) + ((rd_T50 l0 x15_1).f2))))) w.heap.size (fun _ => True) (.slice (some ⟨go24, 0, none⟩) y152.length co32) y161) := ⟨aR HQ35⟩
    have n1_ : zA (Kd.R (Kd.int .i64) 3 (w34.setCell ⟨go24, ((ji17) : Int).toNat * 4 + 1, none⟩ (.int .i64 (wrap64 (((rd_T48 y152 (ji17)).f1) + ((rd_T50 l0 x15_1).f2))))) w.heap.size (fun _ => True) (.slice (some ad159) y155.length co33) y155) := ⟨by (with_reducible repeat (first | apply Kd.zG | apply Kd.zH | apply Kd.zI)); exact Kd.zS (Kd.zP (p := ⟨go24, ((ji17) : Int).toNat * 4 + 1, none⟩) (Kd.zT HO157.out GG24.out (by decide)) (fun _ hk => hk.2) (.int .i64 (wrap64 (((rd_T48 y152 (ji17)).f1) + ((rd_T50 l0 x15_1).f2))))) (fun _ hk => trivial)⟩
    have n2_ : zA ((w34.setCell ⟨go24, ((ji17) : Int).toNat * 4 + 1, none⟩ (.int .i64 (wrap64 (((rd_T48 y152 (ji17)).f1) + ((rd_T50 l0 x15_1).f2))))).heap[gb149]? = some (.cells #[.int .i32 ((rd_T50 l0 x15_1).f0), .int .i64 ((rd_T50 l0 x15_1).f1), .int .i64 ((rd_T50 l0 x15_1).f2)] 50 (0, 0))) := ⟨by (with_reducible repeat (first | refine zE ?_ _ | refine zD ?_ | refine zB ?_ _)); refine blk_far ?_ (by have h_ := Kd.R_ne HO154.out BK149.out (by decide); intro e_; exact h_ (by rw [e_]; rfl)) _; (with_reducible repeat (first | refine zE ?_ _ | refine zD ?_ | refine zB ?_ _)); exact BK149.out⟩
    have n3_ : zA (Below w.heap.size w (w34.setCell ⟨go24, ((ji17) : Int).toNat * 4 + 1, none⟩ (.int .i64 (wrap64 (((rd_T48 y152 (ji17)).f1) + ((rd_T50 l0 x15_1).f2)))))) := ⟨aL HB⟩
    (try clear HO154)
    (try clear HO157)
    (try clear BK149)
    (try clear HB)
    generalize (w34.setCell ⟨go24, ((ji17) : Int).toNat * 4 + 1, none⟩ (.int .i64 (wrap64 (((rd_T48 y152 (ji17)).f1) + ((rd_T50 l0 x15_1).f2))))) = w36 at n0_ n1_ n2_ n3_ ⊢
    have HO154 := n0_; have HO157 := n1_; have BK149 := n2_; have HB := n3_; clear n0_ n1_ n2_ n3_; replace HO154 := zA.mk (Kd.zI HO154.out); replace HO157 := zA.mk (Kd.zI HO157.out); replace BK149 := zA.mk (zD BK149.out); replace HB := zA.mk (below_drew1 HB.out); have p162 : 0 ≤ ((ji17) : Int) := aD
    have q162 : (ji17) < (y161.length : Int) := (by have h_ : ((ji17) : Int) < ((y152.length : Int) : Int) := aD; first | (have e_ := (Kd.zN HO154.out).1; omega) | simpa only [Ny161.out, List.length_set] using h_)
    have ql162 : (((ji17) : Int) < ((y152.length : Int) : Int)) = True := eq_true (aD)
    obtain ⟨ad162, e162, hx162_0, hx162_1, hx162_2, hx162_3⟩ := at_T48 (Kd.zN HO154.out).2.2 (ji17) p162 q162; obtain rfl : (⟨go24, 0, none⟩ : Addr) = ad162 := (by injection e162)
    (first | simp only [add_plain] at hx162_0 | simp only [add_at] at hx162_0 | simp only [Addr.add, Nat.zero_add] at hx162_0 | skip)
    (first | simp only [add_plain] at hx162_1 | simp only [add_at] at hx162_1 | simp only [Addr.add, Nat.zero_add] at hx162_1 | skip)
    (first | simp only [add_plain] at hx162_2 | simp only [add_at] at hx162_2 | simp only [Addr.add, Nat.zero_add] at hx162_2 | skip)
    (first | simp only [add_plain] at hx162_3 | simp only [add_at] at hx162_3 | simp only [Addr.add, Nat.zero_add] at hx162_3 | skip)
    replace p162 := eq_true p162; replace q162 := eq_true q162; refine start_ (n := 14) (S := fun w' => w'.cell? ⟨gb149, 0, none⟩ = some (.int .i32 ((rd_T50 l0 x15_1).f0)) ∧ w'.cell? ⟨gb149, 1, none⟩ = some (.int .i64 ((rd_T50 l0 x15_1).f1)) ∧ w'.cell? ⟨gb149, 2, none⟩ = some (.int .i64 ((rd_T50 l0 x15_1).f2)) ∧ w'.cell? ⟨go24, ((ji17)).toNat * 4, none⟩ = some (.int .i64 ((rd_T48 y161 (ji17)).f0)) ∧ w'.cell? ⟨go24, ((ji17)).toNat * 4 + 1, none⟩ = some (.int .i64 ((rd_T48 y161 (ji17)).f1)) ∧ w'.cell? ⟨go24, ((ji17)).toNat * 4 + 2, none⟩ = some (.int .i64 ((rd_T48 y161 (ji17)).f2)) ∧ w'.cell? ⟨go24, ((ji17)).toNat * 4 + 3, none⟩ = some (.int .u8 ((rd_T48 y161 (ji17)).f3))) (ds := [13]) #[false, false, false, false, false, false, false, false, false, false, false, false, false, false] (by kernel_rfl) rfl rfl ⟨(zC BK149.out 0).trans rfl, (zC BK149.out 1).trans rfl, (zC BK149.out 2).trans rfl, hx162_0, hx162_1, hx162_2, hx162_3⟩ (fun hHeld => ?_); refine with_tabW cells_Make.tab13 cells_Make.bits13 (fun HT_ HW_ => ?_)
    generalize w36.drew = w37 at HO154 HO157 BK149 HB HQ35 hx162_0 hx162_1 hx162_2 hx162_3 hHeld ⊢
    refine aP 0 (some 73) (tf_ 1 14) HT_ ?_
    refine aP 1 (some 74) (tf_ 2 14) HT_ ?_
    refine aP 2 (some 75) (tf_ 3 14) HT_ ?_
    refine aP 3 (some 76) (tf_ 4 14) HT_ ?_
    refine aP 5 (some 78) (tb_ 47 14) HT_ ?_
    refine aP 6 (some 79) (tb_ 111 14) HT_ ?_
    refine take_ (i := 4) (N := some 77) (v := ?_) (a' := ?_) (tf_ 7 14) rfl rfl (take_ofW HT_.out HW_.out (by kernel_rfl)) (fun _ _ _ h => h) (Or.inl ⟨by rfl, ?_⟩) hHeld ?_ ?_
    rotate_left
    ·rintro w' ⟨s0, s1, s2, s3, s4, s5, s6⟩
     go_simp
     with_reducible rfl
    rotate_left
    ·simp only [Act.put, sA_, sB_, sC_, i64_w, i32_w]
     rfl
    refine take_ (i := 7) (N := some 80) (v := ?_) (a' := ?_) (tf_ 8 14) rfl rfl (take_ofW HT_.out HW_.out (by kernel_rfl)) (fun _ _ _ h => h) (Or.inl ⟨by rfl, ?_⟩) hHeld ?_ ?_
    rotate_left
    ·rintro w' ⟨s0, s1, s2, s3, s4, s5, s6⟩
     go_simp
     with_reducible rfl
    rotate_left
    ·simp only [Act.put, sA_, sB_, sC_, i64_w, i32_w]
     rfl
    refine one_ (i := 8) (N := some 81) (tb_ 511 14) rfl rfl (one_of HT_.out (by kernel_rfl)) (by decide) (fun K hK => ?_)
    refine goes_ Try.func22 (by kernel_rfl) rfl #[vt2_, .int .i32 ((rd_T50 l0 x15_1).f0)] (by rfl) rfl rfl aT ?_
    with_reducible refine (prop_Table_Of.calls vt2_ a2 ((rd_T50 l0 x15_1).f0) t163 _ ?side1 A25.out).mono ?_
    (case side1 => exact TabAt.below HTa2.out (aL HB))
    rintro e w' ⟨rfl, ⟨nd, rfl⟩⟩
    refine ⟨_, rfl, ?_⟩
    have p28 : 0 ≤ ((ji17) : Int) := aD
    have q28 : ((ji17) : Int) < ((y152.length : Int) : Int) := aD
    obtain ⟨ce28, hcl28, hM28, hcc28, hfr28⟩ := Kd.R_elem HO154.out z48 ((ji17) : Int) p28 q28; obtain rfl := k48_openM hM28
    have hx28_0 : World.cell? _ ⟨go24, ((ji17) : Int).toNat * 4, none⟩ = some (.int .i64 ((rd_T48 y161 (ji17)).f0)) := hcc28 0 _ rfl
    have hx28_1 : World.cell? _ ⟨go24, ((ji17) : Int).toNat * 4 + 1, none⟩ = some (.int .i64 ((rd_T48 y161 (ji17)).f1)) := hcc28 1 _ rfl
    have hx28_2 : World.cell? _ ⟨go24, ((ji17) : Int).toNat * 4 + 2, none⟩ = some (.int .i64 ((rd_T48 y161 (ji17)).f2)) := hcc28 2 _ rfl
    have hx28_3 : World.cell? _ ⟨go24, ((ji17) : Int).toNat * 4 + 3, none⟩ = some (.int .u8 ((rd_T48 y161 (ji17)).f3)) := hcc28 3 _ rfl
    have hf28_0 : World.frozen? _ ⟨go24, ((ji17) : Int).toNat * 4, none⟩ = false := hfr28 0
    have hf28_1 : World.frozen? _ ⟨go24, ((ji17) : Int).toNat * 4 + 1, none⟩ = false := hfr28 1
    have hf28_2 : World.frozen? _ ⟨go24, ((ji17) : Int).toNat * 4 + 2, none⟩ = false := hfr28 2
    have hf28_3 : World.frozen? _ ⟨go24, ((ji17) : Int).toNat * 4 + 3, none⟩ = false := hfr28 3
    (try clear hcl28); (try clear hcc28); (try clear hfr28); (try clear hM28)
    replace p28 := eq_true p28; replace q28 := eq_true q28; obtain ⟨cx38, gx38⟩ := Kd.R_typed HO154.out _ rfl; have GG38_ := zA.mk gx38; clear gx38; obtain ⟨ce38, hcl38, hM38, hcc38, hfr38⟩ := Kd.R_elem HO154.out z48 ((ji17) : Int) (aD) (by have h_ : ((ji17) : Int) < ((y152.length : Int) : Int) := aD; first | exact h_ | (have e_ := (Kd.zN HO154.out).1; omega) | simpa using h_)
    obtain rfl := k48_openM hM38
    have HP38 := (Kd.R_seg HO154.out ((ji17) : Int) (aD) (by have h_ : ((ji17) : Int) < ((y152.length : Int) : Int) := aD; first | exact h_ | (have e_ := (Kd.zN HO154.out).1; omega) | simpa using h_) (seg := [.int .i64 ji27]) (j := 2) hcl38 hcc38 (show 3 ≤ 4 from by decide) (x' := (⟨(rd_T48 y161 (ji17)).f0, (rd_T48 y161 (ji17)).f1, ji27, (rd_T48 y161 (ji17)).f3⟩ : S48)) (k48_mkM _ _ _ (⟨(rd_T48 y161 (ji17)).f0, (rd_T48 y161 (ji17)).f1, ji27, (rd_T48 y161 (ji17)).f3⟩ : S48) ) (fun _ hk => hk)).1
    rw [← Ny164.out] at HP38; have HQ38 := zA.mk HP38; clear hcl38 hcc38 hfr38 hM38 HP38; refine hK.out _ _ ⟨(zC BK149.out 0).trans rfl, (zC BK149.out 1).trans rfl, (zC BK149.out 2).trans rfl, hHeld.2.2.2.1, hHeld.2.2.2.2.1, hHeld.2.2.2.2.2.1, hHeld.2.2.2.2.2.2⟩ (fun hHeld => ?_)
    clear hK K; refine norm_ (a' := ?_) ?_ ?_
    rotate_left
    ·show Act.put _ (some 81) _ = _
     simp only [Act.put, sA_, sB_, sC_, i64_w, i32_w]; rfl
    refine aP 9 (some 82) (tf_ 10 14) HT_ ?_
    refine aP 10 (some 83) (tf_ 11 14) HT_ ?_
    refine aP 11 (some 84) (tf_ 12 14) HT_ ?_
    refine aP 12 (some 85) (tf_ 13 14) HT_ ?_
    refine last_ (i := 13) (N := none) (tb_ 16383 14) rfl rfl (one_of HT_.out (by kernel_rfl)) (by decide) (fun K hK => ?_)
    refine skip_ (w1 := ?_) (by rfl) rfl ?_ ?_
    rotate_left
    ·go_simp
     rfl
    refine hK.out _ _ ?_
    clear hK K; refine done_ (done_of HT_.out (by kernel_rfl)) ?_
    try go_wp2
    go_roundg kj6
    case measure => have := HK1.out; have := HJ6.out; omega
    case rel => exact ⟨(y164), (y155), (wrap64 (x15_1 + 1)), aZ, H', ⟨by have := HK1.out; have := HJ6.out; omega⟩, ⟨aR HQ38⟩, ⟨by (with_reducible repeat (first | apply Kd.zG | apply Kd.zH | apply Kd.zI)); exact Kd.zS (Kd.zP (p := ⟨go24, ((ji17) : Int).toNat * 4 + 2, none⟩) (Kd.zT HO157.out GG38_.out (by decide)) (fun _ hk => hk.2) (.int .i64 ji27)) (fun _ hk => trivial)⟩, ⟨aL HB⟩⟩
   rw [if_neg c23] at H; have c23b0 : ((rd y155 (ji20)) == x15_1) = false := beq_eq_false_iff_ne.mpr c23
   have c23b1 : ((rd y155 (ji20)) != x15_1) = true := bne_iff_ne.mpr c23
   obtain ⟨y165, hy165⟩ : ∃ y_ : List (S48), y_ = (y152.set ((ji17) : Int).toNat (⟨(rd_T48 y152 (ji17)).f0, (rd_T48 y152 (ji17)).f1, (rd_T48 y152 (ji17)).f2, 0⟩ : S48)) := ⟨_, rfl⟩; replace H : ((some (y165.set ((ji17) : Int).toNat (⟨(rd_T48 y165 (ji17)).f0, wrap64 (((rd_T48 y165 (ji17)).f1) + ((rd_T50 l0 x15_1).f2)), (rd_T48 y165 (ji17)).f2, (rd_T48 y165 (ji17)).f3⟩ : S48) : List (S48))).bind fun y167 => ((prop_Table_Of.f a2 ((rd_T50 l0 x15_1).f0)).bind fun t169 => (cells_Make.l0 kj6 l0 l1 a2 (y167.set ((ji17) : Int).toNat (⟨(rd_T48 y167 (ji17)).f0, (rd_T48 y167 (ji17)).f1, mx ((rd_T48 y167 (ji17)).f2) (mn t169 2), (rd_T48 y167 (ji17)).f3⟩ : S48)) y155 l0 (l0.length : Int) (wrap64 (x15_1 + 1))))) = some (r1, r2) := by first | (rw [hy165]; with_reducible exact H) | (have H2_ := (Option.bind_some _ _).symm.trans H; rw [hy165]; with_reducible exact H2_) | (have H2_ := (Option.bind_some _ _).symm.trans H; with_reducible exact H2_) | with_reducible exact H | (rw [hy165]; exact H) | exact H
   have Ny165 := zA.mk hy165; clear hy165; obtain ⟨y167, hy167⟩ : ∃ y_ : List (S48), y_ = (y165.set ((ji17) : Int).toNat (⟨(rd_T48 y165 (ji17)).f0, wrap64 (((rd_T48 y165 (ji17)).f1) + ((rd_T50 l0 x15_1).f2)), (rd_T48 y165 (ji17)).f2, (rd_T48 y165 (ji17)).f3⟩ : S48)) := ⟨_, rfl⟩; replace H : ((prop_Table_Of.f a2 ((rd_T50 l0 x15_1).f0)).bind fun t169 => (cells_Make.l0 kj6 l0 l1 a2 (y167.set ((ji17) : Int).toNat (⟨(rd_T48 y167 (ji17)).f0, (rd_T48 y167 (ji17)).f1, mx ((rd_T48 y167 (ji17)).f2) (mn t169 2), (rd_T48 y167 (ji17)).f3⟩ : S48)) y155 l0 (l0.length : Int) (wrap64 (x15_1 + 1)))) = some (r1, r2) := by first | (rw [hy167]; with_reducible exact H) | (have H2_ := (Option.bind_some _ _).symm.trans H; rw [hy167]; with_reducible exact H2_) | (have H2_ := (Option.bind_some _ _).symm.trans H; with_reducible exact H2_) | with_reducible exact H | (rw [hy167]; exact H) | exact H
   have Ny167 := zA.mk hy167; clear hy167; replace H := Option.bind_eq_some_iff.mp H; obtain ⟨t169, A410, H⟩ := H; replace H : (cells_Make.l0 kj6 l0 l1 a2 (y167.set ((ji17) : Int).toNat (⟨(rd_T48 y167 (ji17)).f0, (rd_T48 y167 (ji17)).f1, mx ((rd_T48 y167 (ji17)).f2) (mn t169 2), (rd_T48 y167 (ji17)).f3⟩ : S48)) y155 l0 (l0.length : Int) (wrap64 (x15_1 + 1))) = some (r1, r2) := H; have A41 := zA.mk A410; clear A410; obtain ⟨ji42, hji42⟩ : ∃ j_ : Int, (mn t169 2) = j_ := ⟨_, rfl⟩; replace H : (cells_Make.l0 kj6 l0 l1 a2 (y167.set ((ji17) : Int).toNat (⟨(rd_T48 y167 (ji17)).f0, (rd_T48 y167 (ji17)).f1, mx ((rd_T48 y167 (ji17)).f2) (ji42), (rd_T48 y167 (ji17)).f3⟩ : S48)) y155 l0 (l0.length : Int) (wrap64 (x15_1 + 1))) = some (r1, r2) := by first | (rw [hji42] at H; exact H) | (simp only [hji42] at H ⊢; exact H)
   (try rw [hji42] at A14)
   (try rw [hji42] at A41)
   (try (have hji42h : ji42 ≤ 2 := by (rw [← hji42]; unfold mn; (repeat' split) <;> omega)))
   (try (have hji42g : ji42 ≤ 64 := by omega))
   have hji42_ : (if 2 < t169 then 2 else t169) = ji42 := hji42
   obtain ⟨ji43, hji43⟩ : ∃ j_ : Int, (mx ((rd_T48 y167 (ji17)).f2) (ji42)) = j_ := ⟨_, rfl⟩; replace H : (cells_Make.l0 kj6 l0 l1 a2 (y167.set ((ji17) : Int).toNat (⟨(rd_T48 y167 (ji17)).f0, (rd_T48 y167 (ji17)).f1, ji43, (rd_T48 y167 (ji17)).f3⟩ : S48)) y155 l0 (l0.length : Int) (wrap64 (x15_1 + 1))) = some (r1, r2) := by first | (rw [hji43] at H; exact H) | (simp only [hji43] at H ⊢; exact H)
   (try rw [hji43] at A14)
   (try rw [hji43] at A41)
   have hji43_ : (if ((rd_T48 y167 (ji17)).f2) < (ji42) then (ji42) else ((rd_T48 y167 (ji17)).f2)) = ji43 := hji43
   obtain ⟨y170, hy170⟩ : ∃ y_ : List (S48), y_ = (y167.set ((ji17) : Int).toNat (⟨(rd_T48 y167 (ji17)).f0, (rd_T48 y167 (ji17)).f1, ji43, (rd_T48 y167 (ji17)).f3⟩ : S48)) := ⟨_, rfl⟩; replace H : (cells_Make.l0 kj6 l0 l1 a2 y170 y155 l0 (l0.length : Int) (wrap64 (x15_1 + 1))) = some (r1, r2) := by first | (rw [hy170]; with_reducible exact H) | (have H2_ := (Option.bind_some _ _).symm.trans H; rw [hy170]; with_reducible exact H2_) | (have H2_ := (Option.bind_some _ _).symm.trans H; with_reducible exact H2_) | with_reducible exact H | (rw [hy170]; exact H) | exact H
   have Ny170 := zA.mk hy170; clear hy170; have H' := zA.mk H
   clear H; try go_wp2
   replace HO_8 := zA.mk (Kd.zI HO_8.out); replace HO_9 := zA.mk (Kd.zI HO_9.out); replace BK149 := zA.mk (zD BK149.out); replace HB := zA.mk (below_drew1 HB.out); refine start_ (n := 10) (S := fun w' => w'.cell? ⟨gb149, 0, none⟩ = some (.int .i32 ((rd_T50 l0 x15_1).f0)) ∧ w'.cell? ⟨gb149, 1, none⟩ = some (.int .i64 ((rd_T50 l0 x15_1).f1)) ∧ w'.cell? ⟨gb149, 2, none⟩ = some (.int .i64 ((rd_T50 l0 x15_1).f2))) (ds := []) #[false, false, false, false, false, false, false, false, false, false] (by kernel_rfl) rfl rfl ⟨(zC BK149.out 0).trans rfl, (zC BK149.out 1).trans rfl, (zC BK149.out 2).trans rfl⟩ (fun hHeld => ?_); refine with_tabW cells_Make.tab7 cells_Make.bits7 (fun HT_ HW_ => ?_)
   generalize wc.drew = w45 at HO_8 HO_9 BK149 HB hHeld ⊢
   refine aP 0 (some 35) (tf_ 1 10) HT_ ?_
   refine aP 1 (some 36) (tf_ 2 10) HT_ ?_
   refine aP 3 (some 38) (tb_ 11 10) HT_ ?_
   refine take_ (i := 2) (N := some 37) (v := ?_) (a' := ?_) (tf_ 4 10) rfl rfl (take_ofW HT_.out HW_.out (by kernel_rfl)) (fun _ _ _ h => h) (Or.inl ⟨by rfl, ?_⟩) hHeld ?_ ?_
   rotate_left
   ·rintro w' ⟨s0, s1, s2⟩
    go_simp
    with_reducible rfl
   rotate_left
   ·simp only [Act.put, sA_, sB_, sC_, i64_w, i32_w]
    rfl
   refine take_ (i := 4) (N := some 39) (v := ?_) (a' := ?_) (tf_ 5 10) rfl rfl (take_ofW HT_.out HW_.out (by kernel_rfl)) (fun _ _ _ h => h) (Or.inl ⟨by rfl, ?_⟩) hHeld ?_ ?_
   rotate_left
   ·rintro w' ⟨s0, s1, s2⟩
    go_simp
    with_reducible rfl
   rotate_left
   ·simp only [Act.put, sA_, sB_, sC_, i64_w, i32_w]
    rfl
   refine one_ (i := 5) (N := some 40) (tb_ 63 10) rfl rfl (one_of HT_.out (by kernel_rfl)) (by decide) (fun K hK => ?_)
   refine goes_ Try.func36 (by kernel_rfl) rfl #[.int .i32 ((rd_T50 l0 x15_1).f0)] (by rfl) rfl rfl aT ?_
   with_reducible refine (cells_kind.calls ((rd_T50 l0 x15_1).f0) t151 _ A14.out).mono ?_
   rintro e w' ⟨rfl, ⟨nd, rfl⟩⟩
   refine ⟨_, rfl, ?_⟩
   refine hK.out _ _ ⟨(zC BK149.out 0).trans rfl, (zC BK149.out 1).trans rfl, (zC BK149.out 2).trans rfl⟩ (fun hHeld => ?_)
   clear hK K; refine norm_ (a' := ?_) ?_ ?_
   rotate_left
   ·show Act.put _ (some 40) _ = _
    simp only [Act.put, sA_, sB_, sC_, i64_w, i32_w]; rfl
   refine aP 6 (some 41) (tf_ 7 10) HT_ ?_
   refine one_ (i := 7) (N := some 42) (tb_ 255 10) rfl rfl (one_of HT_.out (by kernel_rfl)) (by decide) (fun K hK => ?_)
   refine value_ (w1 := ?_) (v := ?_) (by rfl) rfl ?_ ?_
   rotate_left 2
   ·go_simp
    constructor
    ·rfl
    rfl
   refine hK.out _ _ ⟨(zC (zB BK149.out _) 0).trans rfl, (zC (zB BK149.out _) 1).trans rfl, (zC (zB BK149.out _) 2).trans rfl⟩ (fun hHeld => ?_)
   clear hK K; refine norm_ (a' := ?_) ?_ ?_
   rotate_left
   ·show Act.put _ (some 42) _ = _
    simp only [Act.put, sA_, sB_, sC_, i64_w, i32_w]; rfl
   refine one_ (i := 8) (N := some 43) (tb_ 511 10) rfl rfl (one_of HT_.out (by kernel_rfl)) (by decide) (fun K hK => ?_)
   refine Kd.R_append_step k48 (w0 := w) w.heap.size (by rfl) (.tmp 35) (.tmp 42) 34 48 (.agg #[(.int .i64 0), (.int .i64 0), (.int .i64 0), (.int .u8 0)]) 32 rfl Try.underlying34 info48 rfl (by decide) (by omega) u8 x8_1 (⟨((rd_T50 l0 x15_1).f1), 0, 0, t151⟩ : S48) [.int .i64 ((rd_T50 l0 x15_1).f1), .int .i64 0, .int .i64 0, .int .u8 t151] (fun _ => True) (fun _ => False) rfl rfl ?aP (fun _ hk => hk.elim) ?aF ?aO ?aB ?aS ?aL ?_
   (case aP => exact k48_mkM _ _ _ (⟨((rd_T50 l0 x15_1).f1), 0, 0, t151⟩ : S48))
   (case aB => exact (aL HB))
   (case aF => exact (fun _ _ => trivial))
   (case aO => exact (aR HO_8))
   (case aS => exact (below_size (aL HB)))
   (case aL => have := LMc15.out; omega)
   intro v153 w46 ho hb hg hat
   rw [← Ny152.out] at ho; replace HO_9 := zA.mk (Kd.R_over' (aR HO_9) (Kd.R_typed (aR HO_8)) (by decide) hg)
   replace BK149 := zA.mk (blk_grown (g := gb149) (o := .cells #[.int .i32 ((rd_T50 l0 x15_1).f0), .int .i64 ((rd_T50 l0 x15_1).f1), .int .i64 ((rd_T50 l0 x15_1).f2)] 50 (0, 0)) (aB BK149) hg (Kd.R_ne HO_8.out BK149.out (by decide)))
   replace HB := zA.mk (hb); have HO154 := zA.mk (ho); clear HO_8; clear ho hb hg hat; refine hK.out _ _ ⟨(zC BK149.out 0).trans rfl, (zC BK149.out 1).trans rfl, (zC BK149.out 2).trans rfl⟩ (fun hHeld => ?_)
   clear hK K; refine norm_ (a' := ?_) ?_ ?_
   rotate_left
   ·show Act.put _ (some 43) _ = _
    simp only [Act.put, sA_, sB_, sC_, i64_w, i32_w]; rfl
   refine aP 9 (some 8) (tb_ 1023 10) HT_ ?_
   refine done_ (done_of HT_.out (by kernel_rfl)) ?_
   try go_wp2_with (first | ((with_reducible refine gate_builtin (b := .append) (xs := #[.tmp 44, .tmp 46]) rfl ?_); (try (refine gate_guard (by rfl) ?_; dsimp only)); at_builtin; refine Kd.R_append (Kd.int .i64) (w0 := w) w.heap.size rfl (.tmp 44) (.tmp 46) 35 3 (.int .i64 0) 8 rfl Try.underlying35 info3 rfl (by decide) (by omega) u9 x9_1 x15_1 [.int .i64 x15_1] (fun _ => True) (fun _ => False) rfl rfl ?aP (fun _ hk => hk.elim) ?aF ?aO ?aB ?aS ?aL ?_; (case aP => exact rfl); (case aB => exact (aL HB)); (case aF => exact (fun _ _ => trivial)); (case aO => exact (aR HO_9)); (case aS => exact (below_size (aL HB))); (case aL => have := LMc16.out; omega); intro v156 w47 ho hb hg hat; rw [← Ny155.out] at ho; replace BK149 := zA.mk (blk_grown (g := gb149) (o := .cells #[.int .i32 ((rd_T50 l0 x15_1).f0), .int .i64 ((rd_T50 l0 x15_1).f1), .int .i64 ((rd_T50 l0 x15_1).f2)] 50 (0, 0)) (aB BK149) hg (Kd.R_ne HO_9.out BK149.out (by decide))); replace HO154 := zA.mk (Kd.R_over' (aR HO154) (Kd.R_typed (aR HO_9)) (by decide) hg); replace HB := zA.mk (hb); have HO157 := zA.mk (ho); clear HO_9; clear ho hb hg hat; obtain ⟨Ao48, co48, eo48⟩ := Kd.zQ HO154.out; subst eo48; have p158 : 0 ≤ ((ji17) : Int) := aD; have q158 : (ji17) < (y152.length : Int) := aD; obtain ⟨ad158, e158, hx158_0, hx158_1, hx158_2, hx158_3⟩ := at_T48 (Kd.zN HO154.out).2.2 (ji17) p158 q158; cases e158; replace p158 := eq_true p158; replace q158 := eq_true q158; obtain ⟨Ao49, co49, eo49⟩ := Kd.zQ HO157.out; subst eo49; have p159 : 0 ≤ ((ji20) : Int) := aD; have q159 : (ji20) < (y155.length : Int) := aD; obtain ⟨ad159, e159, hx159_0⟩ := Kd.at_int (Kd.zN HO157.out).2.2 (ji20) p159 q159; cases e159; replace p159 := eq_true p159; replace q159 := eq_true q159; have p39 : 0 ≤ ((ji17) : Int) := aD; have q39 : ((ji17) : Int) < ((y152.length : Int) : Int) := aD; obtain ⟨go39, co39, eo39, gb39, gl39, cl39, HG39⟩ := Kd.R_form HO154.out (by omega); (first | cases eo39 | (injection eo39 with ea_ en_ ec_; (first | subst ea_ | (injection ea_ with ea_; subst ea_)); subst ec_; clear en_)); have GB39 := zA.mk gb39; have GG39 := zA.mk HG39; clear gb39 gl39 HG39; (first | simp only [add_plain] at hx158_0 | skip); (first | simp only [add_plain] at hx158_1 | skip); (first | simp only [add_plain] at hx158_2 | skip); (first | simp only [add_plain] at hx158_3 | skip); obtain ⟨ce39, hcl39, hM39, hcc39, hfr39⟩ := Kd.R_elem HO154.out z48 ((ji17) : Int) p39 q39; obtain rfl := k48_openM hM39; have hx39_0 : w47.cell? ⟨go39, ((ji17) : Int).toNat * 4, none⟩ = some (.int .i64 ((rd_T48 y152 (ji17)).f0)) := hcc39 0 _ rfl; have hx39_1 : w47.cell? ⟨go39, ((ji17) : Int).toNat * 4 + 1, none⟩ = some (.int .i64 ((rd_T48 y152 (ji17)).f1)) := hcc39 1 _ rfl; have hx39_2 : w47.cell? ⟨go39, ((ji17) : Int).toNat * 4 + 2, none⟩ = some (.int .i64 ((rd_T48 y152 (ji17)).f2)) := hcc39 2 _ rfl; have hx39_3 : w47.cell? ⟨go39, ((ji17) : Int).toNat * 4 + 3, none⟩ = some (.int .u8 ((rd_T48 y152 (ji17)).f3)) := hcc39 3 _ rfl; have hf39_0 : w47.frozen? ⟨go39, ((ji17) : Int).toNat * 4, none⟩ = false := hfr39 0; have hf39_1 : w47.frozen? ⟨go39, ((ji17) : Int).toNat * 4 + 1, none⟩ = false := hfr39 1; have hf39_2 : w47.frozen? ⟨go39, ((ji17) : Int).toNat * 4 + 2, none⟩ = false := hfr39 2; have hf39_3 : w47.frozen? ⟨go39, ((ji17) : Int).toNat * 4 + 3, none⟩ = false := hfr39 3; (try clear hcl39); (try clear hcc39); (try clear hfr39); (try clear hM39); replace p39 := eq_true p39; replace q39 := eq_true q39; have HX50 := zA.mk (show Kd.R k48 48 w47 w.heap.size (fun _ => True) (.slice (some ⟨go39, 0, none⟩) y152.length co48) y152 from (aR HO154)); obtain ⟨ce50, hcl50, hM50, hcc50, hfr50⟩ := Kd.R_elem HX50.out z48 ((ji17) : Int) (aD) (by have h_ : ((ji17) : Int) < ((y152.length : Int) : Int) := aD; first | exact h_ | (have e_ := (Kd.zN HO154.out).1; omega) | simpa using h_); obtain rfl := k48_openM hM50; have HP50 := Kd.R_seg HX50.out ((ji17) : Int) (aD) (by have h_ : ((ji17) : Int) < ((y152.length : Int) : Int) := aD; first | exact h_ | (have e_ := (Kd.zN HO154.out).1; omega) | simpa using h_) (seg := [.int .u8 0]) (j := 3) hcl50 hcc50 (show 4 ≤ 4 from by decide) (x' := (⟨(rd_T48 y152 (ji17)).f0, (rd_T48 y152 (ji17)).f1, (rd_T48 y152 (ji17)).f2, 0⟩ : S48)) (k48_mkM _ _ _ (⟨(rd_T48 y152 (ji17)).f0, (rd_T48 y152 (ji17)).f1, (rd_T48 y152 (ji17)).f2, 0⟩ : S48) ) (fun _ hk => hk); have hx50_3 := hcc50 3 _ rfl; (try simp only [show (k48).sz = 4 from rfl, Nat.mul_one, Nat.add_zero] at hx50_3); have hf50_3 := hfr50 3; (try simp only [show (k48).sz = 4 from rfl, Nat.mul_one, Nat.add_zero] at hf50_3); (try clear hcl50); (try clear hcc50); (try clear hfr50); (try clear hM50)) | ((with_reducible refine gate_store (t := 46) (p := 63) rfl ?_); refine store_event (t := 46) (p := 63) (v := ?vo_w51) (w1 := (w47.setCell ⟨go39, ((ji17) : Int).toNat * 4 + 3, none⟩ (.int .u8 0))) ?hg ?ho ?hn ?hr ?_; (case ho => rfl); (case hg => rfl); (case hn => rfl); (case hr => first | (go_simp; done) | (go_simp; rfl)); intro w51 hw; have hg : w47.grownBy w51 (some go39) := (by rw [hw]; exact HP50.2); have hp_ : Kd.R k48 48 w51 w.heap.size (fun _ => True) (.slice (some ⟨go39, 0, none⟩) y152.length co48) y165 := (by rw [hw, Ny165.out]; exact HP50.1); clear HP50; replace BK149 := zA.mk (blk_grown (g := gb149) (o := .cells #[.int .i32 ((rd_T50 l0 x15_1).f0), .int .i64 ((rd_T50 l0 x15_1).f1), .int .i64 ((rd_T50 l0 x15_1).f2)] 50 (0, 0)) (aB BK149) hg (Kd.R_ne HO154.out BK149.out (by decide))); replace HO157 := zA.mk (Kd.R_over' (v := (.slice (some ⟨go39, 0, none⟩) y152.length co48)) (aR HO157) (Kd.R_typed HO154.out) (by decide) hg); replace HO154 := zA.mk (hp_); replace HB := zA.mk ((by rw [hw]; exact below_set (HB.out) GB39.out : Below w.heap.size w w51)); clear hg hw hp_))
   replace HO154 := zA.mk (Kd.zI HO154.out); replace HO157 := zA.mk (Kd.zI HO157.out); replace BK149 := zA.mk (zD BK149.out); replace HB := zA.mk (below_drew1 HB.out); have p166 : 0 ≤ ((ji17) : Int) := aD
   have q166 : (ji17) < (y165.length : Int) := (by have h_ : ((ji17) : Int) < ((y152.length : Int) : Int) := aD; first | (have e_ := (Kd.zN HO154.out).1; omega) | simpa only [Ny165.out, List.length_set] using h_)
   have ql166 : (((ji17) : Int) < ((y152.length : Int) : Int)) = True := eq_true (aD)
   obtain ⟨ad166, e166, hx166_0, hx166_1, hx166_2, hx166_3⟩ := at_T48 (Kd.zN HO154.out).2.2 (ji17) p166 q166; obtain rfl : (⟨go39, 0, none⟩ : Addr) = ad166 := (by injection e166)
   (first | simp only [add_plain] at hx166_0 | simp only [add_at] at hx166_0 | simp only [Addr.add, Nat.zero_add] at hx166_0 | skip)
   (first | simp only [add_plain] at hx166_1 | simp only [add_at] at hx166_1 | simp only [Addr.add, Nat.zero_add] at hx166_1 | skip)
   (first | simp only [add_plain] at hx166_2 | simp only [add_at] at hx166_2 | simp only [Addr.add, Nat.zero_add] at hx166_2 | skip)
   (first | simp only [add_plain] at hx166_3 | simp only [add_at] at hx166_3 | simp only [Addr.add, Nat.zero_add] at hx166_3 | skip)
   replace p166 := eq_true p166; replace q166 := eq_true q166; have p40 : 0 ≤ ((ji17) : Int) := aD
   have q40 : ((ji17) : Int) < ((y152.length : Int) : Int) := aD
   obtain ⟨ce40, hcl40, hM40, hcc40, hfr40⟩ := Kd.R_elem HO154.out z48 ((ji17) : Int) p40 q40; obtain rfl := k48_openM hM40
   have hx40_0 : World.cell? _ ⟨go39, ((ji17) : Int).toNat * 4, none⟩ = some (.int .i64 ((rd_T48 y165 (ji17)).f0)) := hcc40 0 _ rfl
   have hx40_1 : World.cell? _ ⟨go39, ((ji17) : Int).toNat * 4 + 1, none⟩ = some (.int .i64 ((rd_T48 y165 (ji17)).f1)) := hcc40 1 _ rfl
   have hx40_2 : World.cell? _ ⟨go39, ((ji17) : Int).toNat * 4 + 2, none⟩ = some (.int .i64 ((rd_T48 y165 (ji17)).f2)) := hcc40 2 _ rfl
   have hx40_3 : World.cell? _ ⟨go39, ((ji17) : Int).toNat * 4 + 3, none⟩ = some (.int .u8 ((rd_T48 y165 (ji17)).f3)) := hcc40 3 _ rfl
   have hf40_0 : World.frozen? _ ⟨go39, ((ji17) : Int).toNat * 4, none⟩ = false := hfr40 0
   have hf40_1 : World.frozen? _ ⟨go39, ((ji17) : Int).toNat * 4 + 1, none⟩ = false := hfr40 1
   have hf40_2 : World.frozen? _ ⟨go39, ((ji17) : Int).toNat * 4 + 2, none⟩ = false := hfr40 2
   have hf40_3 : World.frozen? _ ⟨go39, ((ji17) : Int).toNat * 4 + 3, none⟩ = false := hfr40 3
   (try clear hcl40); (try clear hcc40); (try clear hfr40); (try clear hM40)
   replace p40 := eq_true p40; replace q40 := eq_true q40; obtain ⟨cx53, gx53⟩ := Kd.R_typed HO154.out _ rfl; have GG53_ := zA.mk gx53; clear gx53; obtain ⟨ce53, hcl53, hM53, hcc53, hfr53⟩ := Kd.R_elem HO154.out z48 ((ji17) : Int) (aD) (by have h_ : ((ji17) : Int) < ((y152.length : Int) : Int) := aD; first | exact h_ | (have e_ := (Kd.zN HO154.out).1; omega) | simpa using h_)
   obtain rfl := k48_openM hM53
   have HP53 := (Kd.R_seg HO154.out ((ji17) : Int) (aD) (by have h_ : ((ji17) : Int) < ((y152.length : Int) : Int) := aD; first | exact h_ | (have e_ := (Kd.zN HO154.out).1; omega) | simpa using h_) (seg := [.int .i64 (wrap64 (((rd_T48 y165 (ji17)).f1) + ((rd_T50 l0 x15_1).f2)))]) (j := 1) hcl53 hcc53 (show 2 ≤ 4 from by decide) (x' := (⟨(rd_T48 y165 (ji17)).f0, wrap64 (((rd_T48 y165 (ji17)).f1) + ((rd_T50 l0 x15_1).f2)), (rd_T48 y165 (ji17)).f2, (rd_T48 y165 (ji17)).f3⟩ : S48)) (k48_mkM _ _ _ (⟨(rd_T48 y165 (ji17)).f0, wrap64 (((rd_T48 y165 (ji17)).f1) + ((rd_T50 l0 x15_1).f2)), (rd_T48 y165 (ji17)).f2, (rd_T48 y165 (ji17)).f3⟩ : S48) ) (fun _ hk => hk)).1
   rw [← Ny167.out] at HP53; have HQ53 := zA.mk HP53; clear hcl53 hcc53 hfr53 hM53 HP53; refine start_ (n := 10) (S := fun w' => w'.cell? ⟨gb149, 0, none⟩ = some (.int .i32 ((rd_T50 l0 x15_1).f0)) ∧ w'.cell? ⟨gb149, 1, none⟩ = some (.int .i64 ((rd_T50 l0 x15_1).f1)) ∧ w'.cell? ⟨gb149, 2, none⟩ = some (.int .i64 ((rd_T50 l0 x15_1).f2)) ∧ w'.cell? ⟨go39, ((ji17)).toNat * 4, none⟩ = some (.int .i64 ((rd_T48 y165 (ji17)).f0)) ∧ w'.cell? ⟨go39, ((ji17)).toNat * 4 + 1, none⟩ = some (.int .i64 ((rd_T48 y165 (ji17)).f1)) ∧ w'.cell? ⟨go39, ((ji17)).toNat * 4 + 2, none⟩ = some (.int .i64 ((rd_T48 y165 (ji17)).f2)) ∧ w'.cell? ⟨go39, ((ji17)).toNat * 4 + 3, none⟩ = some (.int .u8 ((rd_T48 y165 (ji17)).f3))) (ds := [9]) #[false, false, false, false, false, false, false, false, false, false] (by kernel_rfl) rfl rfl ⟨(zC BK149.out 0).trans rfl, (zC BK149.out 1).trans rfl, (zC BK149.out 2).trans rfl, hx166_0, hx166_1, hx166_2, hx166_3⟩ (fun hHeld => ?_); refine with_tabW cells_Make.tab12 cells_Make.bits12 (fun HT_ HW_ => ?_)
   generalize w51.drew = w52 at HO154 HO157 BK149 HB GG53_ HQ53 hf40_0 hf40_1 hf40_2 hf40_3 hx166_0 hx166_1 hx166_2 hx166_3 hx40_0 hx40_1 hx40_2 hx40_3 hHeld ⊢
   refine aP 0 (some 64) (tf_ 1 10) HT_ ?_
   refine aP 1 (some 65) (tf_ 2 10) HT_ ?_
   refine aP 2 (some 66) (tf_ 3 10) HT_ ?_
   refine aP 4 (some 68) (tb_ 23 10) HT_ ?_
   refine take_ (i := 3) (N := some 67) (v := ?_) (a' := ?_) (tf_ 5 10) rfl rfl (take_ofW HT_.out HW_.out (by kernel_rfl)) (fun _ _ _ h => h) (Or.inl ⟨by rfl, ?_⟩) hHeld ?_ ?_
   rotate_left
   ·rintro w' ⟨s0, s1, s2, s3, s4, s5, s6⟩
    go_simp
    with_reducible rfl
   rotate_left
   ·simp only [Act.put, sA_, sB_, sC_, i64_w, i32_w]
    rfl
   refine take_ (i := 5) (N := some 69) (v := ?_) (a' := ?_) (tf_ 6 10) rfl rfl (take_ofW HT_.out HW_.out (by kernel_rfl)) (fun _ _ _ h => h) (Or.inl ⟨by rfl, ?_⟩) hHeld ?_ ?_
   rotate_left
   ·rintro w' ⟨s0, s1, s2, s3, s4, s5, s6⟩
    go_simp
    with_reducible rfl
   rotate_left
   ·simp only [Act.put, sA_, sB_, sC_, i64_w, i32_w]
    rfl
   refine aP 6 (some 70) (tf_ 7 10) HT_ ?_
   refine aP 7 (some 71) (tf_ 8 10) HT_ ?_
   refine aP 8 (some 72) (tf_ 9 10) HT_ ?_
   refine last_ (i := 9) (N := none) (tb_ 1023 10) rfl rfl (one_of HT_.out (by kernel_rfl)) (by decide) (fun K hK => ?_)
   refine skip_ (w1 := ?_) (by rfl) rfl ?_ ?_
   rotate_left
   ·go_simp
    rfl
   refine hK.out _ _ ?_
   clear hK K; refine done_ (done_of HT_.out (by kernel_rfl)) ?_
   try go_wp2
   have n0_ : zA (Kd.R k48 48 (w52.setCell ⟨go39, ((ji17) : Int).toNat * 4 + 1, none⟩ (.int .i64 (wrap64 (((rd_T48 y165 (ji17)).f1) + ((rd_T50 l0 x15_1).f2))))) w.heap.size (fun _ => True) (.slice (some ⟨go39, 0, none⟩) y152.length co48) y167) := ⟨aR HQ53⟩
   have n1_ : zA (Kd.R (Kd.int .i64) 3 (w52.setCell ⟨go39, ((ji17) : Int).toNat * 4 + 1, none⟩ (.int .i64 (wrap64 (((rd_T48 y165 (ji17)).f1) + ((rd_T50 l0 x15_1).f2))))) w.heap.size (fun _ => True) (.slice (some ad159) y155.length co49) y155) := ⟨by (with_reducible repeat (first | apply Kd.zG | apply Kd.zH | apply Kd.zI)); exact Kd.zS (Kd.zP (p := ⟨go39, ((ji17) : Int).toNat * 4 + 1, none⟩) (Kd.zT HO157.out GG53_.out (by decide)) (fun _ hk => hk.2) (.int .i64 (wrap64 (((rd_T48 y165 (ji17)).f1) + ((rd_T50 l0 x15_1).f2))))) (fun _ hk => trivial)⟩
   have n2_ : zA ((w52.setCell ⟨go39, ((ji17) : Int).toNat * 4 + 1, none⟩ (.int .i64 (wrap64 (((rd_T48 y165 (ji17)).f1) + ((rd_T50 l0 x15_1).f2))))).heap[gb149]? = some (.cells #[.int .i32 ((rd_T50 l0 x15_1).f0), .int .i64 ((rd_T50 l0 x15_1).f1), .int .i64 ((rd_T50 l0 x15_1).f2)] 50 (0, 0))) := ⟨by (with_reducible repeat (first | refine zE ?_ _ | refine zD ?_ | refine zB ?_ _)); refine blk_far ?_ (by have h_ := Kd.R_ne HO154.out BK149.out (by decide); intro e_; exact h_ (by rw [e_]; rfl)) _; (with_reducible repeat (first | refine zE ?_ _ | refine zD ?_ | refine zB ?_ _)); exact BK149.out⟩
   have n3_ : zA (Below w.heap.size w (w52.setCell ⟨go39, ((ji17) : Int).toNat * 4 + 1, none⟩ (.int .i64 (wrap64 (((rd_T48 y165 (ji17)).f1) + ((rd_T50 l0 x15_1).f2)))))) := ⟨aL HB⟩
   (try clear HO154)
   (try clear HO157)
   (try clear BK149)
   (try clear HB)
   generalize (w52.setCell ⟨go39, ((ji17) : Int).toNat * 4 + 1, none⟩ (.int .i64 (wrap64 (((rd_T48 y165 (ji17)).f1) + ((rd_T50 l0 x15_1).f2))))) = w54 at n0_ n1_ n2_ n3_ ⊢
   have HO154 := n0_; have HO157 := n1_; have BK149 := n2_; have HB := n3_; clear n0_ n1_ n2_ n3_; replace HO154 := zA.mk (Kd.zI HO154.out); replace HO157 := zA.mk (Kd.zI HO157.out); replace BK149 := zA.mk (zD BK149.out); replace HB := zA.mk (below_drew1 HB.out); have p168 : 0 ≤ ((ji17) : Int) := aD
   have q168 : (ji17) < (y167.length : Int) := (by have h_ : ((ji17) : Int) < ((y152.length : Int) : Int) := aD; first | (have e_ := (Kd.zN HO154.out).1; omega) | simpa only [Ny165.out, Ny167.out, List.length_set] using h_)
   have ql168 : (((ji17) : Int) < ((y152.length : Int) : Int)) = True := eq_true (aD)
   obtain ⟨ad168, e168, hx168_0, hx168_1, hx168_2, hx168_3⟩ := at_T48 (Kd.zN HO154.out).2.2 (ji17) p168 q168; obtain rfl : (⟨go39, 0, none⟩ : Addr) = ad168 := (by injection e168)
   (first | simp only [add_plain] at hx168_0 | simp only [add_at] at hx168_0 | simp only [Addr.add, Nat.zero_add] at hx168_0 | skip)
   (first | simp only [add_plain] at hx168_1 | simp only [add_at] at hx168_1 | simp only [Addr.add, Nat.zero_add] at hx168_1 | skip)
   (first | simp only [add_plain] at hx168_2 | simp only [add_at] at hx168_2 | simp only [Addr.add, Nat.zero_add] at hx168_2 | skip)
   (first | simp only [add_plain] at hx168_3 | simp only [add_at] at hx168_3 | simp only [Addr.add, Nat.zero_add] at hx168_3 | skip)
   replace p168 := eq_true p168; replace q168 := eq_true q168; refine start_ (n := 14) (S := fun w' => w'.cell? ⟨gb149, 0, none⟩ = some (.int .i32 ((rd_T50 l0 x15_1).f0)) ∧ w'.cell? ⟨gb149, 1, none⟩ = some (.int .i64 ((rd_T50 l0 x15_1).f1)) ∧ w'.cell? ⟨gb149, 2, none⟩ = some (.int .i64 ((rd_T50 l0 x15_1).f2)) ∧ w'.cell? ⟨go39, ((ji17)).toNat * 4, none⟩ = some (.int .i64 ((rd_T48 y167 (ji17)).f0)) ∧ w'.cell? ⟨go39, ((ji17)).toNat * 4 + 1, none⟩ = some (.int .i64 ((rd_T48 y167 (ji17)).f1)) ∧ w'.cell? ⟨go39, ((ji17)).toNat * 4 + 2, none⟩ = some (.int .i64 ((rd_T48 y167 (ji17)).f2)) ∧ w'.cell? ⟨go39, ((ji17)).toNat * 4 + 3, none⟩ = some (.int .u8 ((rd_T48 y167 (ji17)).f3))) (ds := [13]) #[false, false, false, false, false, false, false, false, false, false, false, false, false, false] (by kernel_rfl) rfl rfl ⟨(zC BK149.out 0).trans rfl, (zC BK149.out 1).trans rfl, (zC BK149.out 2).trans rfl, hx168_0, hx168_1, hx168_2, hx168_3⟩ (fun hHeld => ?_); refine with_tabW cells_Make.tab13 cells_Make.bits13 (fun HT_ HW_ => ?_)
   generalize w54.drew = w55 at HO154 HO157 BK149 HB HQ53 hx168_0 hx168_1 hx168_2 hx168_3 hHeld ⊢
   refine aP 0 (some 73) (tf_ 1 14) HT_ ?_
   refine aP 1 (some 74) (tf_ 2 14) HT_ ?_
   refine aP 2 (some 75) (tf_ 3 14) HT_ ?_
   refine aP 3 (some 76) (tf_ 4 14) HT_ ?_
   refine aP 5 (some 78) (tb_ 47 14) HT_ ?_
   refine aP 6 (some 79) (tb_ 111 14) HT_ ?_
   refine take_ (i := 4) (N := some 77) (v := ?_) (a' := ?_) (tf_ 7 14) rfl rfl (take_ofW HT_.out HW_.out (by kernel_rfl)) (fun _ _ _ h => h) (Or.inl ⟨by rfl, ?_⟩) hHeld ?_ ?_
   rotate_left
   ·rintro w' ⟨s0, s1, s2, s3, s4, s5, s6⟩
    go_simp
    with_reducible rfl
   rotate_left
   ·simp only [Act.put, sA_, sB_, sC_, i64_w, i32_w]
    rfl
   refine take_ (i := 7) (N := some 80) (v := ?_) (a' := ?_) (tf_ 8 14) rfl rfl (take_ofW HT_.out HW_.out (by kernel_rfl)) (fun _ _ _ h => h) (Or.inl ⟨by rfl, ?_⟩) hHeld ?_ ?_
   rotate_left
   ·rintro w' ⟨s0, s1, s2, s3, s4, s5, s6⟩
    go_simp
    with_reducible rfl
   rotate_left
   ·simp only [Act.put, sA_, sB_, sC_, i64_w, i32_w]
    rfl
   refine one_ (i := 8) (N := some 81) (tb_ 511 14) rfl rfl (one_of HT_.out (by kernel_rfl)) (by decide) (fun K hK => ?_)
   refine goes_ Try.func22 (by kernel_rfl) rfl #[vt2_, .int .i32 ((rd_T50 l0 x15_1).f0)] (by rfl) rfl rfl aT ?_
   with_reducible refine (prop_Table_Of.calls vt2_ a2 ((rd_T50 l0 x15_1).f0) t169 _ ?side1 A41.out).mono ?_
   (case side1 => exact TabAt.below HTa2.out (aL HB))
   rintro e w' ⟨rfl, ⟨nd, rfl⟩⟩
   refine ⟨_, rfl, ?_⟩
   have p44 : 0 ≤ ((ji17) : Int) := aD
   have q44 : ((ji17) : Int) < ((y152.length : Int) : Int) := aD
   obtain ⟨ce44, hcl44, hM44, hcc44, hfr44⟩ := Kd.R_elem HO154.out z48 ((ji17) : Int) p44 q44; obtain rfl := k48_openM hM44
   have hx44_0 : World.cell? _ ⟨go39, ((ji17) : Int).toNat * 4, none⟩ = some (.int .i64 ((rd_T48 y167 (ji17)).f0)) := hcc44 0 _ rfl
   have hx44_1 : World.cell? _ ⟨go39, ((ji17) : Int).toNat * 4 + 1, none⟩ = some (.int .i64 ((rd_T48 y167 (ji17)).f1)) := hcc44 1 _ rfl
   have hx44_2 : World.cell? _ ⟨go39, ((ji17) : Int).toNat * 4 + 2, none⟩ = some (.int .i64 ((rd_T48 y167 (ji17)).f2)) := hcc44 2 _ rfl
   have hx44_3 : World.cell? _ ⟨go39, ((ji17) : Int).toNat * 4 + 3, none⟩ = some (.int .u8 ((rd_T48 y167 (ji17)).f3)) := hcc44 3 _ rfl
   have hf44_0 : World.frozen? _ ⟨go39, ((ji17) : Int).toNat * 4, none⟩ = false := hfr44 0
   have hf44_1 : World.frozen? _ ⟨go39, ((ji17) : Int).toNat * 4 + 1, none⟩ = false := hfr44 1
   have hf44_2 : World.frozen? _ ⟨go39, ((ji17) : Int).toNat * 4 + 2, none⟩ = false := hfr44 2
   have hf44_3 : World.frozen? _ ⟨go39, ((ji17) : Int).toNat * 4 + 3, none⟩ = false := hfr44 3
   (try clear hcl44); (try clear hcc44); (try clear hfr44); (try clear hM44)
   replace p44 := eq_true p44; replace q44 := eq_true q44; obtain ⟨cx56, gx56⟩ := Kd.R_typed HO154.out _ rfl; have GG56_ := zA.mk gx56; clear gx56; obtain ⟨ce56, hcl56, hM56, hcc56, hfr56⟩ := Kd.R_elem HO154.out z48 ((ji17) : Int) (aD) (by have h_ : ((ji17) : Int) < ((y152.length : Int) : Int) := aD; first | exact h_ | (have e_ := (Kd.zN HO154.out).1; omega) | simpa using h_)
   obtain rfl := k48_openM hM56
   have HP56 := (Kd.R_seg HO154.out ((ji17) : Int) (aD) (by have h_ : ((ji17) : Int) < ((y152.length : Int) : Int) := aD; first | exact h_ | (have e_ := (Kd.zN HO154.out).1; omega) | simpa using h_) (seg := [.int .i64 ji43]) (j := 2) hcl56 hcc56 (show 3 ≤ 4 from by decide) (x' := (⟨(rd_T48 y167 (ji17)).f0, (rd_T48 y167 (ji17)).f1, ji43, (rd_T48 y167 (ji17)).f3⟩ : S48)) (k48_mkM _ _ _ (⟨(rd_T48 y167 (ji17)).f0, (rd_T48 y167 (ji17)).f1, ji43, (rd_T48 y167 (ji17)).f3⟩ : S48) ) (fun _ hk => hk)).1
   rw [← Ny170.out] at HP56; have HQ56 := zA.mk HP56; clear hcl56 hcc56 hfr56 hM56 HP56; refine hK.out _ _ ⟨(zC BK149.out 0).trans rfl, (zC BK149.out 1).trans rfl, (zC BK149.out 2).trans rfl, hHeld.2.2.2.1, hHeld.2.2.2.2.1, hHeld.2.2.2.2.2.1, hHeld.2.2.2.2.2.2⟩ (fun hHeld => ?_)
   clear hK K; refine norm_ (a' := ?_) ?_ ?_
   rotate_left
   ·show Act.put _ (some 81) _ = _
    simp only [Act.put, sA_, sB_, sC_, i64_w, i32_w]; rfl
   refine aP 9 (some 82) (tf_ 10 14) HT_ ?_
   refine aP 10 (some 83) (tf_ 11 14) HT_ ?_
   refine aP 11 (some 84) (tf_ 12 14) HT_ ?_
   refine aP 12 (some 85) (tf_ 13 14) HT_ ?_
   refine last_ (i := 13) (N := none) (tb_ 16383 14) rfl rfl (one_of HT_.out (by kernel_rfl)) (by decide) (fun K hK => ?_)
   refine skip_ (w1 := ?_) (by rfl) rfl ?_ ?_
   rotate_left
   ·go_simp
    rfl
   refine hK.out _ _ ?_
   clear hK K; refine done_ (done_of HT_.out (by kernel_rfl)) ?_
   try go_wp2
   go_roundg kj6
   case measure => have := HK1.out; have := HJ6.out; omega
   case rel => exact ⟨(y170), (y155), (wrap64 (x15_1 + 1)), aZ, H', ⟨by have := HK1.out; have := HJ6.out; omega⟩, ⟨aR HQ56⟩, ⟨by (with_reducible repeat (first | apply Kd.zG | apply Kd.zH | apply Kd.zI)); exact Kd.zS (Kd.zP (p := ⟨go39, ((ji17) : Int).toNat * 4 + 2, none⟩) (Kd.zT HO157.out GG56_.out (by decide)) (fun _ hk => hk.2) (.int .i64 ji43)) (fun _ hk => trivial)⟩, ⟨aL HB⟩⟩
mutual
def items_Make.l0 : Nat → List (S50) → List Int → List Bool → List Int → Int → Int → List (S48) → List Int → Option ((List (S48)) × List Int)
 | 0, _, _, _, _, _, _, _, _ => none
 | k + 1, x0, x2, x3, x25, x26, x27, x192000, x192001 => if x27 < x26 then (if 0 ≤ x27 then (if x27 < (x25.length : Int) then (if (rd x25 x27) = (x0.length : Int) then (if x192001.length < 140737488355328 then (items_Make.l0 k x0 x2 x3 x25 x26 (wrap64 (x27 + 1)) x192000 (x192001 ++ [2])) else (none)) else (if (rd x25 x27) = 0 then (items_Make.j1 k x0 x2 x3 (rd x25 x27) x25 x26 x27 true x192000 x192001) else (items_Make.j1 k x0 x2 x3 (rd x25 x27) x25 x26 x27 (decide ((rd x25 x27) ≥ (x2.length : Int))) x192000 x192001))) else (none)) else (none)) else (some (x192000, x192001))
def items_Make.j1 : Nat → List (S50) → List Int → List Bool → Int → List Int → Int → Int → Bool → List (S48) → List Int → Option ((List (S48)) × List Int)
 | 0, _, _, _, _, _, _, _, _, _, _ => none
 | k + 1, x0, x2, x3, x15, x25, x26, x27, x50, x192000, x192001 => if x50 = true then (if x192001.length < 140737488355328 then (items_Make.l0 k x0 x2 x3 x25 x26 (wrap64 (x27 + 1)) x192000 (x192001 ++ [0])) else (none)) else (if 0 ≤ x15 then (if x15 < (x2.length : Int) then (if (rd x2 x15) = 0 then (if x15 < (x3.length : Int) then (if rdOf false x3 x15 = true then (if x192001.length < 140737488355328 then (items_Make.l0 k x0 x2 x3 x25 x26 (wrap64 (x27 + 1)) x192000 (x192001 ++ [3])) else (none)) else (if x192001.length < 140737488355328 then (items_Make.l0 k x0 x2 x3 x25 x26 (wrap64 (x27 + 1)) x192000 (x192001 ++ [rd x2 x15])) else (none))) else (if x192001.length < 140737488355328 then (items_Make.l0 k x0 x2 x3 x25 x26 (wrap64 (x27 + 1)) x192000 (x192001 ++ [rd x2 x15])) else (none))) else (if x192001.length < 140737488355328 then (items_Make.l0 k x0 x2 x3 x25 x26 (wrap64 (x27 + 1)) x192000 (x192001 ++ [rd x2 x15])) else (none))) else (none)) else (none))
end
def items_Make.f (k : Nat) (l0 : List (S50)) (l1 : List Int) (l2 : List Int) (l3 : List Bool) (a4 : Option (List (Int × Int × Int))) : Option ((List (S48)) × List Int) := (cells_Make.f k l0 l1 a4).bind fun bt185 => (items_Make.l0 k l0 l2 l3 bt185.2 (bt185.2.length : Int) 0 bt185.1 ([] : List Int))
theorem items_Make.mono_l : ∀ k, (∀ y0 y1 y2 y3 y4 y5 y6 y7, LeO (items_Make.l0 k y0 y1 y2 y3 y4 y5 y6 y7) (items_Make.l0 (k + 1) y0 y1 y2 y3 y4 y5 y6 y7)) ∧ (∀ y0 y1 y2 y3 y4 y5 y6 y7 y8 y9, LeO (items_Make.j1 k y0 y1 y2 y3 y4 y5 y6 y7 y8 y9) (items_Make.j1 (k + 1) y0 y1 y2 y3 y4 y5 y6 y7 y8 y9))
 | 0 => ⟨fun _ _ _ _ _ _ _ _ r h => by simp [items_Make.l0] at h, fun _ _ _ _ _ _ _ _ _ _ r h => by simp [items_Make.j1] at h⟩
 | k + 1 => by
  obtain ⟨ih0, ih1⟩ := items_Make.mono_l k; refine ⟨?_, ?_⟩
  ·intro y0 y1 y2 y3 y4 y5 y6 y7
   unfold items_Make.l0
   repeat' (with_reducible first | exact ih0 _ _ _ _ _ _ _ _ | exact ih1 _ _ _ _ _ _ _ _ _ _ | exact cells_Make.mono _ _ _ _ | exact LeO.refl _ | exact LeO.none _ | refine LeO.ite ?_ ?_ | refine LeO.bind ?_ (fun _ => ?_))
  ·intro y0 y1 y2 y3 y4 y5 y6 y7 y8 y9
   unfold items_Make.j1
   repeat' (with_reducible first | exact ih0 _ _ _ _ _ _ _ _ | exact ih1 _ _ _ _ _ _ _ _ _ _ | exact cells_Make.mono _ _ _ _ | exact LeO.refl _ | exact LeO.none _ | refine LeO.ite ?_ ?_ | refine LeO.bind ?_ (fun _ => ?_))
theorem items_Make.mono : ∀ a0 a1 a2 a3 a4 k, LeO (items_Make.f k a0 a1 a2 a3 a4) (items_Make.f (k + 1) a0 a1 a2 a3 a4) := by
 intro a0 a1 a2 a3 a4 k
 obtain ⟨ih0, ih1⟩ := items_Make.mono_l k; unfold items_Make.f
 repeat' (with_reducible first | exact ih0 _ _ _ _ _ _ _ _ | exact ih1 _ _ _ _ _ _ _ _ _ _ | exact cells_Make.mono _ _ _ _ | exact LeO.refl _ | exact LeO.none _ | refine LeO.ite ?_ ?_ | refine LeO.bind ?_ (fun _ => ?_))
def items_Make.T6 : Bool × List (List Nat × List Nat) := (true, [([], []), ([0], [0]), ([], []), ([], []), ([2, 3], [2, 3]), ([4], [4]), ([5], [5]), ([1, 6], [1, 6]), ([0, 1, 2, 3, 4, 5, 6, 7], []), ([8, 7, 7, 0, 1, 2, 3, 4, 5, 6, 7], [7, 8])])
def items_Make.B6 : List Nat := [0, 1, 0, 0, 12, 28, 60, 127, 255, 511]
theorem items_Make.tab6 : rtab .any (opsOf Try.f24 6) = items_Make.T6 := by kernel_rfl
theorem items_Make.bits6 : waitsOk items_Make.T6.2 items_Make.B6 = true := by kernel_rfl
set_option maxHeartbeats 8000000 in
set_option maxRecDepth 100000 in
theorem items_Make.calls (k : Nat) (A0 : Option Addr) (c0 : Nat) (l0 : List (S50)) (A1 : Option Addr) (c1 : Nat) (l1 : List Int) (A2 : Option Addr) (c2 : Nat) (l2 : List Int) (A3 : Option Addr) (c3 : Nat) (l3 : List Bool) (vt4_ : Value) (a4 : Option (List (Int × Int × Int))) (r1 : List (S48)) (r2 : List Int) (w : World) (hr0 : Kd.C k50 w A0 l0.length l0) (hc0 : l0.length ≤ c0) (hr1 : Kd.C (Kd.int .u8) w A1 l1.length l1) (hc1 : l1.length ≤ c1) (hr2 : Kd.C (Kd.int .u8) w A2 l2.length l2) (hc2 : l2.length ≤ c2) (hr3 : Kd.C Kd.bool w A3 l3.length l3) (hc3 : l3.length ≤ c3) (hta4 : TabAt w a4 vt4_) (h : items_Make.f k l0 l1 l2 l3 a4 = some (r1, r2)) :
  Calls Try.prog 24 #[.slice A0 l0.length c0, .slice A1 l1.length c1, .slice A2 l2.length c2, .slice A3 l3.length c3, vt4_] w fun e w' => ∃ v0_ v1_ : Value, e = .returned (.agg #[v0_, v1_]) ∧ Kd.R k48 48 w' w.heap.size (fun _ => True) v0_ r1 ∧ Kd.R (Kd.int .u8) 53 w' w.heap.size (fun _ => True) v1_ r2 ∧ Below w.heap.size w w' := by
 have hu60 := Try.underlying60; have HR0 := zA.mk hr0; have HC0 := zA.mk hc0; clear hr0 hc0; have HR1 := zA.mk hr1; have HC1 := zA.mk hc1; clear hr1 hc1; have HR2 := zA.mk hr2; have HC2 := zA.mk hc2; clear hr2 hc2; have HR3 := zA.mk hr3; have HC3 := zA.mk hc3; clear hr3 hc3; have HTa4 := zA.mk hta4; clear hta4; have HB := zA.mk (Below.refl w.heap.size w); have H : ((cells_Make.f k l0 l1 a4).bind fun bt185 => (items_Make.l0 k l0 l2 l3 bt185.2 (bt185.2.length : Int) 0 bt185.1 ([] : List Int))) = some (r1, r2) := h
 clear h; replace H := Option.bind_eq_some_iff.mp H; obtain ⟨⟨t185, t186⟩, A60, H⟩ := H; replace H : (items_Make.l0 k l0 l2 l3 t186 (t186.length : Int) 0 t185 ([] : List Int)) = some (r1, r2) := H; have A6 := zA.mk A60; clear A60; have H' := zA.mk H
 clear H; go_enter Try.func24, Try.ntmps24
 go_wp2_with (first | ((with_reducible refine gate_dst (N := 10) rfl ?_); (try (refine gate_guard (by rfl) ?_; dsimp only)); refine box_event ?hg (N := 10) ?hd (cs := #[.slice none 0 0, .slice none 0 0]) (t := 60) ?hr ?_; (case hd => rfl); (case hg => rfl); (case hr => first | (go_simp; done) | (go_simp; rfl)); intro gb184 hg w7 hbox hb; have BK184 := zA.mk (hbox); have GW184 := zA.mk ((by rw [hg]; exact (below_size (aL HB)) : w.heap.size ≤ gb184)); replace HB := zA.mk (below_step (aL HB) hb); have GE184 := GW184; clear hb hbox hg) | ((with_reducible refine gate_callee (f := 17) rfl ?_); refine goesL_ (some 20) rfl rfl Try.func17 (by kernel_rfl) rfl #[.slice A0 l0.length c0, .slice A1 l1.length c1, vt4_] rfl aT ?_; (with_reducible refine (cells_Make.calls k _ _ l0 _ _ l1 vt4_ a4 t185 t186 _ ?side1 ?side2 ?side3 ?side4 ?side5 A6.out).mono ?_); (case side1 => exact aA HR0 HB); (case side2 => exact HC0.out); (case side3 => exact aA HR1 HB); (case side4 => exact HC1.out); (case side5 => exact TabAt.below HTa4.out (aL HB)); rintro e w8 ⟨v187, v189, rfl, ho0, ho1, hb⟩; refine ⟨_, rfl, ?_⟩; have HO188 := zA.mk (Kd.zR ho0 (below_size (aL HB))); have HO190 := zA.mk (Kd.zR ho1 (below_size (aL HB))); replace BK184 := zA.mk (zF (aB BK184) hb); replace HB := zA.mk (below_step (aL HB) hb); (try clear hb); (try clear hb2); (try clear hk); (try clear hi); (try clear ho0); (try clear ho1); obtain ⟨Ao9, co9, eo9⟩ := Kd.zQ HO188.out; subst eo9) | ((with_reducible refine gate_dst (N := 13) rfl ?_); (try (refine gate_guard (by rfl) ?_; dsimp only)); refine box_event ?hg (N := 13) ?hd (cs := #[.slice none 0 0, .slice none 0 0]) (t := 60) ?hr ?_; (case hd => rfl); (case hg => rfl); (case hr => first | (go_simp; done) | (go_simp; rfl)); intro gb191 hg w10 hbox hb; replace HO188 := zA.mk (Kd.zO (aR HO188) hb); replace HO190 := zA.mk (Kd.zO (aR HO190) hb); have BK191 := zA.mk (hbox); have GW191 := zA.mk ((by rw [hg]; exact (below_size (aL HB)) : w.heap.size ≤ gb191)); replace HB := zA.mk (below_step (aL HB) hb); have GE191 := GW191; have NB184_191 := zA.mk ((by rw [hg]; exact Nat.ne_of_lt (blk_lt (aB BK184)) : gb184 ≠ gb191)); have NB191_184 := zA.mk ((by rw [hg]; exact Nat.ne_of_gt (blk_lt (g := gb184) (o := .cells #[.slice none 0 0, .slice none 0 0] 60 (0, 0)) (aB BK184)) : gb191 ≠ gb184)); replace BK184 := zA.mk (zF (aB BK184) hb); clear hb hbox hg; have hnb11 := NB191_184.out; have hnc11 := NB184_191.out; obtain ⟨hcz12_0, hcz12_1, hfz12_0, hfz12_1⟩ := aC2 BK191) | ((with_reducible refine gate_store (t := 60) (p := 13) rfl ?_); refine store_event (t := 60) (p := 13) (v := ?vo_w13) (w1 := ((w10.setCell ⟨gb191, 0, none⟩ (.slice Ao9 t185.length co9)).setCell ⟨gb191, 1, none⟩ (.slice none 0 0))) ?hg ?ho ?hn ?hr ?_; (case ho => rfl); (case hg => rfl); (case hn => rfl); (case hr => first | (go_simp; done) | (go_simp; rfl)); intro w13 hw; have n0_ : zA (Kd.R k48 48 w13 w.heap.size (fun _ => True) (.slice Ao9 t185.length co9) t185) := ⟨(by rw [hw]; exact (by (with_reducible repeat (first | apply Kd.zG | apply Kd.zH | apply Kd.zI)); exact Kd.zS (Kd.zP (p := ⟨gb191, 1, none⟩) (Kd.zP (p := ⟨gb191, 0, none⟩) (Kd.zT HO188.out BK191.out (by decide)) (fun _ hk => hk.2) (.slice Ao9 t185.length co9)) (fun _ hk => hk.2) (.slice none 0 0)) (fun _ hk => trivial)))⟩; have n1_ : zA (Kd.R (Kd.int .i64) 3 w13 w.heap.size (fun _ => True) v189 t186) := ⟨(by rw [hw]; exact (by (with_reducible repeat (first | apply Kd.zG | apply Kd.zH | apply Kd.zI)); exact Kd.zS (Kd.zP (p := ⟨gb191, 1, none⟩) (Kd.zP (p := ⟨gb191, 0, none⟩) (Kd.zT HO190.out BK191.out (by decide)) (fun _ hk => hk.2) (.slice Ao9 t185.length co9)) (fun _ hk => hk.2) (.slice none 0 0)) (fun _ hk => trivial)))⟩; have n2_ : zA (w13.heap[gb184]? = some (.cells #[.slice none 0 0, .slice none 0 0] 60 (0, 0))) := ⟨(by rw [hw]; exact (aB BK184))⟩; have n3_ : zA (w13.heap[gb191]? = some (.cells #[.slice Ao9 t185.length co9, .slice none 0 0] 60 (0, 0))) := ⟨(by rw [hw]; exact (by (with_reducible repeat (first | refine zE ?_ _ | refine zD ?_ | refine zB ?_ _)); refine blk_put (cs := #[.slice Ao9 t185.length co9, .slice none 0 0]) ?_ 1 _ rfl; (with_reducible repeat (first | refine zE ?_ _ | refine zD ?_ | refine zB ?_ _)); refine blk_put (cs := #[.slice none 0 0, .slice none 0 0]) ?_ 0 _ rfl; (with_reducible repeat (first | refine zE ?_ _ | refine zD ?_ | refine zB ?_ _)); exact BK191.out))⟩; have n4_ : zA (Below w.heap.size w w13) := ⟨(by rw [hw]; exact (aL HB))⟩; clear hw; clear HO188; clear HO190; clear BK184; clear BK191; clear HB; have HO188 := n0_; have HO190 := n1_; have BK184 := n2_; have BK191 := n3_; have HB := n4_; clear n0_ n1_ n2_ n3_ n4_; obtain ⟨Ao14, co14, eo14⟩ := Kd.zQ HO190.out; subst eo14))
 go_loopg [27] k (fun kq v27 w' => ∃ (x27_1 : Int) (x192001_1 : List Int) (u192001 : Value), v27 = .int .i64 x27_1 ∧ zA (items_Make.l0 kq l0 l2 l3 t186 (t186.length : Int) x27_1 t185 x192001_1 = some (r1, r2)) ∧ zA (kq ≤ k) ∧ zA (Kd.R (Kd.int .i64) 3 w' w.heap.size (fun _ => True) (.slice Ao14 t186.length co14) t186) ∧ zA (Kd.R k48 48 w' w.heap.size (fun _ => True) (.slice Ao9 t185.length co9) t185) ∧ zA (Kd.R (Kd.int .u8) 53 w' w.heap.size (fun _ => True) u192001 x192001_1) ∧ zA (w'.heap[gb184]? = some (.cells #[(.slice none 0 0), (.slice none 0 0)] 60 (0, 0))) ∧ zA (w'.heap[gb191]? = some (.cells #[(.slice Ao9 t185.length co9), u192001] 60 (0, 0))) ∧ zA (Below w.heap.size w w'))
 case atStart => exact ⟨(0), (([] : List Int)), (.slice none 0 0), aZ, H', ⟨Nat.le_refl _⟩, ⟨aR HO190⟩, ⟨aR HO188⟩, ⟨by first | exact Kd.R_nil _ _ _ _ _ | exact Kd.N_nil _ _ _ _ _ | exact Kd.V_nil _ _ _ _ _ | exact Kd.Q_nil _ _ _ _ _ | exact Kd.S_nil _ _ _ _ _⟩, ⟨aB BK184⟩, ⟨aB BK191⟩, ⟨aL HB⟩⟩
 clear H'; obtain ⟨x27_1, x192001_1, u192001, rfl, HA, HK1, HO_25, HO_192000, HO_192001, BK184, BK191, HB⟩ := hrel; cases gk with
 | zero => exact absurd HA.out (by simp [items_Make.l0])
 | succ k1 =>
  have H := HA.out; clear HA; simp only [items_Make.l0] at H; by_cases c15 : x27_1 < (t186.length : Int)
  rotate_left
  ·rw [if_neg c15] at H
   have c15b0 : decide (x27_1 < (t186.length : Int)) = false := decide_eq_false c15
   clear c15; simp only [Option.some.injEq, Prod.mk.injEq] at H; obtain ⟨rfl, rfl⟩ := H; have hnb61 := NB191_184.out; have hnc61 := NB184_191.out; obtain ⟨hcz62_0, hcz62_1, hfz62_0, hfz62_1⟩ := aC2 BK191; obtain ⟨hcz63_0, hcz63_1, hfz63_0, hfz63_1⟩ := aC2 BK184; obtain ⟨Ao64, co64, eo64⟩ := Kd.zQ HO_192001.out; subst eo64; go_wp2_with (first | ((with_reducible refine gate_store (t := 60) (p := 10) rfl ?_); refine store_event (t := 60) (p := 10) (v := ?vo_w65) (w1 := ((wr.setCell ⟨gb184, 0, none⟩ (.slice Ao9 t185.length co9)).setCell ⟨gb184, 1, none⟩ (.slice Ao64 x192001_1.length co64))) ?hg ?ho ?hn ?hr ?_; (case ho => rfl); (case hg => rfl); (case hn => rfl); (case hr => first | (go_simp; done) | (go_simp; rfl)); intro w65 hw; have n0_ : zA (Kd.R (Kd.int .i64) 3 w65 w.heap.size (fun _ => True) (.slice Ao14 t186.length co14) t186) := ⟨(by rw [hw]; exact (by (with_reducible repeat (first | apply Kd.zG | apply Kd.zH | apply Kd.zI)); exact Kd.zS (Kd.zP (p := ⟨gb184, 1, none⟩) (Kd.zP (p := ⟨gb184, 0, none⟩) (Kd.zT HO_25.out BK184.out (by decide)) (fun _ hk => hk.2) (.slice Ao9 t185.length co9)) (fun _ hk => hk.2) (.slice Ao64 x192001_1.length co64)) (fun _ hk => trivial)))⟩; have n1_ : zA (Kd.R k48 48 w65 w.heap.size (fun _ => True) (.slice Ao9 t185.length co9) t185) := ⟨(by rw [hw]; exact (by (with_reducible repeat (first | apply Kd.zG | apply Kd.zH | apply Kd.zI)); exact Kd.zS (Kd.zP (p := ⟨gb184, 1, none⟩) (Kd.zP (p := ⟨gb184, 0, none⟩) (Kd.zT HO_192000.out BK184.out (by decide)) (fun _ hk => hk.2) (.slice Ao9 t185.length co9)) (fun _ hk => hk.2) (.slice Ao64 x192001_1.length co64)) (fun _ hk => trivial)))⟩; have n2_ : zA (Kd.R (Kd.int .u8) 53 w65 w.heap.size (fun _ => True) (.slice Ao64 x192001_1.length co64) x192001_1) := ⟨(by rw [hw]; exact (by (with_reducible repeat (first | apply Kd.zG | apply Kd.zH | apply Kd.zI)); exact Kd.zS (Kd.zP (p := ⟨gb184, 1, none⟩) (Kd.zP (p := ⟨gb184, 0, none⟩) (Kd.zT HO_192001.out BK184.out (by decide)) (fun _ hk => hk.2) (.slice Ao9 t185.length co9)) (fun _ hk => hk.2) (.slice Ao64 x192001_1.length co64)) (fun _ hk => trivial)))⟩; have n3_ : zA (w65.heap[gb184]? = some (.cells #[.slice Ao9 t185.length co9, .slice Ao64 x192001_1.length co64] 60 (0, 0))) := ⟨(by rw [hw]; exact (by (with_reducible repeat (first | refine zE ?_ _ | refine zD ?_ | refine zB ?_ _)); refine blk_put (cs := #[.slice Ao9 t185.length co9, .slice none 0 0]) ?_ 1 _ rfl; (with_reducible repeat (first | refine zE ?_ _ | refine zD ?_ | refine zB ?_ _)); refine blk_put (cs := #[.slice none 0 0, .slice none 0 0]) ?_ 0 _ rfl; (with_reducible repeat (first | refine zE ?_ _ | refine zD ?_ | refine zB ?_ _)); exact BK184.out))⟩; have n4_ : zA (w65.heap[gb191]? = some (.cells #[.slice Ao9 t185.length co9, .slice Ao64 x192001_1.length co64] 60 (0, 0))) := ⟨(by rw [hw]; exact (aB BK191))⟩; have n5_ : zA (Below w.heap.size w w65) := ⟨(by rw [hw]; exact (aL HB))⟩; clear hw; clear HO_25; clear HO_192000; clear HO_192001; clear BK184; clear BK191; clear HB; have HO_25 := n0_; have HO_192000 := n1_; have HO_192001 := n2_; have BK184 := n3_; have BK191 := n4_; have HB := n5_; clear n0_ n1_ n2_ n3_ n4_ n5_))
   refine bodyPost_ret (results_cell_row rfl _ _ gb184 60 #[.slice Ao9 t185.length co9, .slice Ao64 x192001_1.length co64] (0, 0) _ rfl (aB BK184) Try.underlying60 rfl (by kernel_rfl)) rfl ?_
   exact ⟨_, _, aX, aR HO_192000, aR HO_192001, aL HB⟩
  rw [if_pos c15] at H; have c15b0 : decide (x27_1 < (t186.length : Int)) = true := decide_eq_true c15
  clear c15; by_cases c16 : 0 ≤ x27_1
  rotate_left
  ·rw [if_neg c16] at H
   exact absurd H (by simp)
  rw [if_pos c16] at H; have c16b0 : decide (0 ≤ x27_1) = true := decide_eq_true c16
  clear c16; by_cases c17 : x27_1 < (t186.length : Int)
  rotate_left
  ·rw [if_neg c17] at H
   exact absurd H (by simp)
  rw [if_pos c17] at H; have c17b0 : decide (x27_1 < (t186.length : Int)) = true := decide_eq_true c17
  clear c17; by_cases c18 : (rd t186 x27_1) = (l0.length : Int)
  ·rw [if_pos c18] at H
   have c18b0 : ((rd t186 x27_1) == (l0.length : Int)) = true := beq_iff_eq.mpr c18
   have c18b1 : ((rd t186 x27_1) != (l0.length : Int)) = false := bne_eq_false_iff_eq.mpr c18
   clear c18; by_cases c19 : x192001_1.length < 140737488355328
   rotate_left
   ·rw [if_neg c19] at H
    exact absurd H (by simp)
   rw [if_pos c19] at H; have LMc19 := zA.mk c19; clear c19; obtain ⟨y193, hy193⟩ : ∃ y_ : List Int, y_ = (x192001_1 ++ [2]) := ⟨_, rfl⟩; replace H : (items_Make.l0 k1 l0 l2 l3 t186 (t186.length : Int) (wrap64 (x27_1 + 1)) t185 y193) = some (r1, r2) := by first | (rw [hy193]; with_reducible exact H) | (have H2_ := (Option.bind_some _ _).symm.trans H; rw [hy193]; with_reducible exact H2_) | (have H2_ := (Option.bind_some _ _).symm.trans H; with_reducible exact H2_) | with_reducible exact H | (rw [hy193]; exact H) | exact H
   have Ny193 := zA.mk hy193; clear hy193; have H' := zA.mk H
   clear H; have p192 : 0 ≤ (x27_1 : Int) := aD
   have q192 : x27_1 < (t186.length : Int) := aD
   obtain ⟨ad192, e192, hx192_0⟩ := Kd.at_int (Kd.zN HO_25.out).2.2 x27_1 p192 q192; cases e192
   replace p192 := eq_true p192; replace q192 := eq_true q192; have hnb20 := NB191_184.out; have hnc20 := NB184_191.out; obtain ⟨hcz21_0, hcz21_1, hfz21_0, hfz21_1⟩ := aC2 BK191; go_wp2_with (first | ((with_reducible refine gate_builtin (b := .append) (xs := #[.tmp 46, .tmp 47]) rfl ?_); (try (refine gate_guard (by rfl) ?_; dsimp only)); at_builtin; refine Kd.R_append (Kd.int .u8) (w0 := w) w.heap.size rfl (.tmp 46) (.tmp 47) 38 53 (.int .u8 0) 1 rfl Try.underlying38 info53 rfl (by decide) (by omega) u192001 x192001_1 2 [.int .u8 2] (fun _ => True) (fun _ => False) rfl rfl ?aP (fun _ hk => hk.elim) ?aF ?aO ?aB ?aS ?aL ?_; (case aP => exact rfl); (case aB => exact (aL HB)); (case aF => exact (fun _ _ => trivial)); (case aO => exact (aR HO_192001)); (case aS => exact (below_size (aL HB))); (case aL => have := LMc19.out; omega); intro v194 w22 ho hb hg hat; rw [← Ny193.out] at ho; replace HO_25 := zA.mk (Kd.R_over' (aR HO_25) (Kd.R_typed (aR HO_192001)) (by decide) hg); replace HO_192000 := zA.mk (Kd.R_over' (aR HO_192000) (Kd.R_typed (aR HO_192001)) (by decide) hg); replace BK184 := zA.mk (blk_grown (g := gb184) (o := .cells #[.slice none 0 0, .slice none 0 0] 60 (0, 0)) (aB BK184) hg (Kd.R_ne HO_192001.out BK184.out (by decide))); replace BK191 := zA.mk (blk_grown (g := gb191) (o := .cells #[.slice Ao9 t185.length co9, u192001] 60 (0, 0)) (aB BK191) hg (Kd.R_ne HO_192001.out BK191.out (by decide))); replace HB := zA.mk (hb); have HO195 := zA.mk (ho); clear HO_192001; clear ho hb hg hat; obtain ⟨Ao23, co23, eo23⟩ := Kd.zQ HO195.out; subst eo23; obtain ⟨hcz24_0, hcz24_1, hfz24_0, hfz24_1⟩ := aC2 BK191))
   go_roundg k1
   case measure => have := HK1.out; omega
   case rel => exact ⟨(wrap64 (x27_1 + 1)), (y193), (.slice Ao23 y193.length co23), aZ, H', ⟨by have := HK1.out; omega⟩, ⟨by (with_reducible repeat (first | apply Kd.zG | apply Kd.zH | apply Kd.zI)); exact Kd.zS (Kd.zP (p := ⟨gb191, 1, none⟩) (Kd.zT HO_25.out BK191.out (by decide)) (fun _ hk => hk.2) (.slice Ao23 y193.length co23)) (fun _ hk => trivial)⟩, ⟨by (with_reducible repeat (first | apply Kd.zG | apply Kd.zH | apply Kd.zI)); exact Kd.zS (Kd.zP (p := ⟨gb191, 1, none⟩) (Kd.zT HO_192000.out BK191.out (by decide)) (fun _ hk => hk.2) (.slice Ao23 y193.length co23)) (fun _ hk => trivial)⟩, ⟨by (with_reducible repeat (first | apply Kd.zG | apply Kd.zH | apply Kd.zI)); exact Kd.zS (Kd.zP (p := ⟨gb191, 1, none⟩) (Kd.zT HO195.out BK191.out (by decide)) (fun _ hk => hk.2) (.slice Ao23 y193.length co23)) (fun _ hk => trivial)⟩, ⟨by (with_reducible repeat (first | refine zE ?_ _ | refine zD ?_ | refine zB ?_ _)); refine blk_far ?_ NB184_191.out _; (with_reducible repeat (first | refine zE ?_ _ | refine zD ?_ | refine zB ?_ _)); exact BK184.out⟩, ⟨by (with_reducible repeat (first | refine zE ?_ _ | refine zD ?_ | refine zB ?_ _)); refine blk_put (cs := #[.slice Ao9 t185.length co9, u192001]) ?_ 1 _ rfl; (with_reducible repeat (first | refine zE ?_ _ | refine zD ?_ | refine zB ?_ _)); exact BK191.out⟩, ⟨aL HB⟩⟩
  rw [if_neg c18] at H; have c18b0 : ((rd t186 x27_1) == (l0.length : Int)) = false := beq_eq_false_iff_ne.mpr c18
  have c18b1 : ((rd t186 x27_1) != (l0.length : Int)) = true := bne_iff_ne.mpr c18
  have HC25 := zA.mk H; clear H; have p192 : 0 ≤ (x27_1 : Int) := aD
  have q192 : x27_1 < (t186.length : Int) := aD
  obtain ⟨ad192, e192, hx192_0⟩ := Kd.at_int (Kd.zN HO_25.out).2.2 x27_1 p192 q192; cases e192
  replace p192 := eq_true p192; replace q192 := eq_true q192; go_upto_region 9 with (fail)
  go_cut [50] (fun v50 wc => ∃ (kq : Nat) (x50_24 : Bool), v50 = .bool x50_24 ∧ zA (items_Make.j1 kq l0 l2 l3 (rd t186 x27_1) t186 (t186.length : Int) x27_1 x50_24 t185 x192001_1 = some (r1, r2)) ∧ zA (kq ≤ k1) ∧ zA (Kd.R (Kd.int .i64) 3 wc w.heap.size (fun _ => True) (.slice (some ad192) t186.length co14) t186) ∧ zA (Kd.R k48 48 wc w.heap.size (fun _ => True) (.slice Ao9 t185.length co9) t185) ∧ zA (Kd.R (Kd.int .u8) 53 wc w.heap.size (fun _ => True) u192001 x192001_1) ∧ zA (wc.heap[gb184]? = some (.cells #[(.slice none 0 0), (.slice none 0 0)] 60 (0, 0))) ∧ zA (wc.heap[gb191]? = some (.cells #[(.slice Ao9 t185.length co9), u192001] 60 (0, 0))) ∧ zA (Below w.heap.size w wc))
  case first =>
   have H := HC25.out; clear HC25; by_cases c26 : (rd t186 x27_1) = 0
   ·rw [if_pos c26] at H
    have c26b0 : ((rd t186 x27_1) == 0) = true := beq_iff_eq.mpr c26
    have c26b1 : ((rd t186 x27_1) != 0) = false := bne_eq_false_iff_eq.mpr c26
    clear c26; (first | rw [c26b0] | (simp only [i64_w, i32_w]; rw [c26b0]) | skip)
    have H' := zA.mk H
    clear H; go_wp2
    go_meet
    case rel => exact ⟨_, (true), aZ, H', ⟨by have := HK1.out; first | omega | exact Nat.le_refl _⟩, ⟨aR HO_25⟩, ⟨aR HO_192000⟩, ⟨aR HO_192001⟩, ⟨aB BK184⟩, ⟨aB BK191⟩, ⟨aL HB⟩⟩
   rw [if_neg c26] at H; have c26b0 : ((rd t186 x27_1) == 0) = false := beq_eq_false_iff_ne.mpr c26
   have c26b1 : ((rd t186 x27_1) != 0) = true := bne_iff_ne.mpr c26
   (first | rw [c26b0] | (simp only [i64_w, i32_w]; rw [c26b0]) | skip)
   have H' := zA.mk H
   clear H; go_wp2
   go_meet
   case rel => exact ⟨_, (decide ((rd t186 x27_1) ≥ (l2.length : Int))), aZ, H', ⟨by have := HK1.out; first | omega | exact Nat.le_refl _⟩, ⟨aR HO_25⟩, ⟨aR HO_192000⟩, ⟨aR HO_192001⟩, ⟨aB BK184⟩, ⟨aB BK191⟩, ⟨aL HB⟩⟩
  clear HC25; obtain ⟨kq, x50_24, rfl, HA, HJ24, HO_25, HO_192000, HO_192001, BK184, BK191, HB⟩ := hcut; cases kq with
  | zero => exact absurd HA.out (by simp [items_Make.j1])
  | succ kj24 =>
   have H := HA.out; clear HA; simp only [items_Make.j1] at H; by_cases c27 : x50_24 = true
   ·subst c27
    have H1 : (if x192001_1.length < 140737488355328 then (items_Make.l0 kj24 l0 l2 l3 t186 (t186.length : Int) (wrap64 (x27_1 + 1)) t185 (x192001_1 ++ [0])) else (none)) = some (r1, r2) := by rw [if_pos rfl] at H; exact H
    clear H; have H := H1; clear H1; by_cases c28 : x192001_1.length < 140737488355328
    rotate_left
    ·rw [if_neg c28] at H
     exact absurd H (by simp)
    rw [if_pos c28] at H; have LMc28 := zA.mk c28; clear c28; obtain ⟨y196, hy196⟩ : ∃ y_ : List Int, y_ = (x192001_1 ++ [0]) := ⟨_, rfl⟩; replace H : (items_Make.l0 kj24 l0 l2 l3 t186 (t186.length : Int) (wrap64 (x27_1 + 1)) t185 y196) = some (r1, r2) := by first | (rw [hy196]; with_reducible exact H) | (have H2_ := (Option.bind_some _ _).symm.trans H; rw [hy196]; with_reducible exact H2_) | (have H2_ := (Option.bind_some _ _).symm.trans H; with_reducible exact H2_) | with_reducible exact H | (rw [hy196]; exact H) | exact H
    have Ny196 := zA.mk hy196; clear hy196; have H' := zA.mk H
    clear H; have hnb29 := NB191_184.out; have hnc29 := NB184_191.out; obtain ⟨hcz30_0, hcz30_1, hfz30_0, hfz30_1⟩ := aC2 BK191; go_wp2_with (first | ((with_reducible refine gate_builtin (b := .append) (xs := #[.tmp 60, .tmp 61]) rfl ?_); (try (refine gate_guard (by rfl) ?_; dsimp only)); at_builtin; refine Kd.R_append (Kd.int .u8) (w0 := w) w.heap.size rfl (.tmp 60) (.tmp 61) 38 53 (.int .u8 0) 1 rfl Try.underlying38 info53 rfl (by decide) (by omega) u192001 x192001_1 0 [.int .u8 0] (fun _ => True) (fun _ => False) rfl rfl ?aP (fun _ hk => hk.elim) ?aF ?aO ?aB ?aS ?aL ?_; (case aP => exact rfl); (case aB => exact (aL HB)); (case aF => exact (fun _ _ => trivial)); (case aO => exact (aR HO_192001)); (case aS => exact (below_size (aL HB))); (case aL => have := LMc28.out; omega); intro v197 w31 ho hb hg hat; rw [← Ny196.out] at ho; replace HO_25 := zA.mk (Kd.R_over' (aR HO_25) (Kd.R_typed (aR HO_192001)) (by decide) hg); replace HO_192000 := zA.mk (Kd.R_over' (aR HO_192000) (Kd.R_typed (aR HO_192001)) (by decide) hg); replace BK184 := zA.mk (blk_grown (g := gb184) (o := .cells #[.slice none 0 0, .slice none 0 0] 60 (0, 0)) (aB BK184) hg (Kd.R_ne HO_192001.out BK184.out (by decide))); replace BK191 := zA.mk (blk_grown (g := gb191) (o := .cells #[.slice Ao9 t185.length co9, u192001] 60 (0, 0)) (aB BK191) hg (Kd.R_ne HO_192001.out BK191.out (by decide))); replace HB := zA.mk (hb); have HO198 := zA.mk (ho); clear HO_192001; clear ho hb hg hat; obtain ⟨Ao32, co32, eo32⟩ := Kd.zQ HO198.out; subst eo32; obtain ⟨hcz33_0, hcz33_1, hfz33_0, hfz33_1⟩ := aC2 BK191))
    go_roundg kj24
    case measure => have := HK1.out; have := HJ24.out; omega
    case rel => exact ⟨(wrap64 (x27_1 + 1)), (y196), (.slice Ao32 y196.length co32), aZ, H', ⟨by have := HK1.out; have := HJ24.out; omega⟩, ⟨by (with_reducible repeat (first | apply Kd.zG | apply Kd.zH | apply Kd.zI)); exact Kd.zS (Kd.zP (p := ⟨gb191, 1, none⟩) (Kd.zT HO_25.out BK191.out (by decide)) (fun _ hk => hk.2) (.slice Ao32 y196.length co32)) (fun _ hk => trivial)⟩, ⟨by (with_reducible repeat (first | apply Kd.zG | apply Kd.zH | apply Kd.zI)); exact Kd.zS (Kd.zP (p := ⟨gb191, 1, none⟩) (Kd.zT HO_192000.out BK191.out (by decide)) (fun _ hk => hk.2) (.slice Ao32 y196.length co32)) (fun _ hk => trivial)⟩, ⟨by (with_reducible repeat (first | apply Kd.zG | apply Kd.zH | apply Kd.zI)); exact Kd.zS (Kd.zP (p := ⟨gb191, 1, none⟩) (Kd.zT HO198.out BK191.out (by decide)) (fun _ hk => hk.2) (.slice Ao32 y196.length co32)) (fun _ hk => trivial)⟩, ⟨by (with_reducible repeat (first | refine zE ?_ _ | refine zD ?_ | refine zB ?_ _)); refine blk_far ?_ NB184_191.out _; (with_reducible repeat (first | refine zE ?_ _ | refine zD ?_ | refine zB ?_ _)); exact BK184.out⟩, ⟨by (with_reducible repeat (first | refine zE ?_ _ | refine zD ?_ | refine zB ?_ _)); refine blk_put (cs := #[.slice Ao9 t185.length co9, u192001]) ?_ 1 _ rfl; (with_reducible repeat (first | refine zE ?_ _ | refine zD ?_ | refine zB ?_ _)); exact BK191.out⟩, ⟨aL HB⟩⟩
   replace c27 := Bool.eq_false_iff.mpr c27; subst c27; have H1 : (if 0 ≤ (rd t186 x27_1) then (if (rd t186 x27_1) < (l2.length : Int) then (if (rd l2 (rd t186 x27_1)) = 0 then (if (rd t186 x27_1) < (l3.length : Int) then (if rdOf false l3 (rd t186 x27_1) = true then (if x192001_1.length < 140737488355328 then (items_Make.l0 kj24 l0 l2 l3 t186 (t186.length : Int) (wrap64 (x27_1 + 1)) t185 (x192001_1 ++ [3])) else (none)) else (if x192001_1.length < 140737488355328 then (items_Make.l0 kj24 l0 l2 l3 t186 (t186.length : Int) (wrap64 (x27_1 + 1)) t185 (x192001_1 ++ [rd l2 (rd t186 x27_1)])) else (none))) else (if x192001_1.length < 140737488355328 then (items_Make.l0 kj24 l0 l2 l3 t186 (t186.length : Int) (wrap64 (x27_1 + 1)) t185 (x192001_1 ++ [rd l2 (rd t186 x27_1)])) else (none))) else (if x192001_1.length < 140737488355328 then (items_Make.l0 kj24 l0 l2 l3 t186 (t186.length : Int) (wrap64 (x27_1 + 1)) t185 (x192001_1 ++ [rd l2 (rd t186 x27_1)])) else (none))) else (none)) else (none)) = some (r1, r2) := by rw [if_neg (show ¬ (false = true) by decide)] at H; exact H
   clear H; have H := H1; clear H1; by_cases c34 : 0 ≤ (rd t186 x27_1)
   rotate_left
   ·rw [if_neg c34] at H
    exact absurd H (by simp)
   rw [if_pos c34] at H; have c34b0 : decide (0 ≤ (rd t186 x27_1)) = true := decide_eq_true c34
   clear c34; by_cases c35 : (rd t186 x27_1) < (l2.length : Int)
   rotate_left
   ·rw [if_neg c35] at H
    exact absurd H (by simp)
   rw [if_pos c35] at H; have c35b0 : decide ((rd t186 x27_1) < (l2.length : Int)) = true := decide_eq_true c35
   clear c35; by_cases c36 : (rd l2 (rd t186 x27_1)) = 0
   rotate_left
   ·rw [if_neg c36] at H
    have c36b0 : ((rd l2 (rd t186 x27_1)) == 0) = false := beq_eq_false_iff_ne.mpr c36
    have c36b1 : ((rd l2 (rd t186 x27_1)) != 0) = true := bne_iff_ne.mpr c36
    by_cases c56 : x192001_1.length < 140737488355328
    rotate_left
    ·rw [if_neg c56] at H
     exact absurd H (by simp)
    rw [if_pos c56] at H; have LMc56 := zA.mk c56; clear c56; obtain ⟨y213, hy213⟩ : ∃ y_ : List Int, y_ = (x192001_1 ++ [rd l2 (rd t186 x27_1)]) := ⟨_, rfl⟩; replace H : (items_Make.l0 kj24 l0 l2 l3 t186 (t186.length : Int) (wrap64 (x27_1 + 1)) t185 y213) = some (r1, r2) := by first | (rw [hy213]; with_reducible exact H) | (have H2_ := (Option.bind_some _ _).symm.trans H; rw [hy213]; with_reducible exact H2_) | (have H2_ := (Option.bind_some _ _).symm.trans H; with_reducible exact H2_) | with_reducible exact H | (rw [hy213]; exact H) | exact H
    have Ny213 := zA.mk hy213; clear hy213; have H' := zA.mk H
    clear H; have p199 : 0 ≤ ((rd t186 x27_1) : Int) := aD
    have q199 : (rd t186 x27_1) < (l2.length : Int) := aD
    obtain ⟨ad199, e199, hx199_0⟩ := Kd.at_int HR2.out (rd t186 x27_1) p199 q199; cases e199
    replace hx199_0 := (HB.out.cell (World.block_lt_of_cell? w _ hx199_0)).trans hx199_0; replace p199 := eq_true p199; replace q199 := eq_true q199; try go_wp2
    replace HO_25 := zA.mk (Kd.zI HO_25.out); replace HO_192000 := zA.mk (Kd.zI HO_192000.out); replace HO_192001 := zA.mk (Kd.zI HO_192001.out); replace BK184 := zA.mk (zD BK184.out); replace BK191 := zA.mk (zD BK191.out); replace HB := zA.mk (below_drew1 HB.out); have p212 : 0 ≤ ((rd t186 x27_1) : Int) := aD
    have q212 : (rd t186 x27_1) < (l2.length : Int) := aD
    obtain ⟨ad212, e212, hx212_0⟩ := Kd.at_int HR2.out (rd t186 x27_1) p212 q212; have hw212_0 := hx212_0; obtain rfl : ad199 = ad212 := (by injection e212)
    replace hx212_0 := (HB.out.cell (World.block_lt_of_cell? w _ hx212_0)).trans hx212_0; replace p212 := eq_true p212; replace q212 := eq_true q212; refine start_ (n := 10) (S := fun w' => w'.cell? ⟨gb191, 0, none⟩ = some (.slice Ao9 t185.length co9) ∧ w'.cell? ⟨gb191, 1, none⟩ = some (u192001) ∧ w'.cell? (ad199.add ((rd t186 x27_1)).toNat) = some (.int .u8 (rd l2 (rd t186 x27_1)))) (ds := [9]) #[false, false, false, false, false, false, false, false, false, false] (by kernel_rfl) rfl rfl ⟨(zC BK191.out 0).trans rfl, (zC BK191.out 1).trans rfl, ((HB.out.cell (World.block_lt_of_cell? w _ hw212_0)).trans hw212_0)⟩ (fun hHeld => ?_); refine with_tabW items_Make.tab6 items_Make.bits6 (fun HT_ HW_ => ?_)
    generalize wc.drew = w57 at HO_25 HO_192000 HO_192001 BK184 BK191 HB hx212_0 hHeld ⊢
    refine aP 0 (some 31) (tf_ 1 10) HT_ ?_
    refine aP 2 (some 33) (tb_ 5 10) HT_ ?_
    refine aP 3 (some 34) (tb_ 13 10) HT_ ?_
    refine aP 4 (some 35) (tb_ 29 10) HT_ ?_
    refine take_ (i := 1) (N := some 32) (v := ?_) (a' := ?_) (tf_ 5 10) rfl rfl (take_ofW HT_.out HW_.out (by kernel_rfl)) (fun _ _ _ h => h) (Or.inl ⟨by rfl, ?_⟩) hHeld ?_ ?_
    rotate_left
    ·rintro w' ⟨s0, s1, s2⟩
     go_simp
     with_reducible rfl
    rotate_left
    ·simp only [Act.put, sA_, sB_, sC_, i64_w, i32_w]
     rfl
    refine take_ (i := 5) (N := some 36) (v := ?_) (a' := ?_) (tf_ 6 10) rfl rfl (take_ofW HT_.out HW_.out (by kernel_rfl)) (fun _ _ _ h => h) (Or.inl ⟨by rfl, ?_⟩) hHeld ?_ ?_
    rotate_left
    ·rintro w' ⟨s0, s1, s2⟩
     go_simp
     with_reducible rfl
    rotate_left
    ·simp only [Act.put, sA_, sB_, sC_, i64_w, i32_w]
     rfl
    refine one_ (i := 6) (N := some 37) (tb_ 127 10) rfl rfl (one_of HT_.out (by kernel_rfl)) (by decide) (fun K hK => ?_)
    refine value_ (w1 := ?_) (v := ?_) (by rfl) rfl ?_ ?_
    rotate_left 2
    ·go_simp
     constructor
     ·rfl
     rfl
    refine hK.out _ _ ⟨(zC (zB BK191.out _) 0).trans rfl, (zC (zB BK191.out _) 1).trans rfl, (World.cell?_alloc_lt _ _ _ (World.block_lt_of_cell? _ _ (((HB.out.cell (World.block_lt_of_cell? w _ hw212_0)).trans hw212_0)))).trans (((HB.out.cell (World.block_lt_of_cell? w _ hw212_0)).trans hw212_0))⟩ (fun hHeld => ?_)
    clear hK K; refine norm_ (a' := ?_) ?_ ?_
    rotate_left
    ·show Act.put _ (some 37) _ = _
     simp only [Act.put, sA_, sB_, sC_, i64_w, i32_w]; rfl
    refine one_ (i := 7) (N := some 38) (tb_ 255 10) rfl rfl (one_of HT_.out (by kernel_rfl)) (by decide) (fun K hK => ?_)
    refine Kd.R_append_step (Kd.int .u8) (w0 := w) w.heap.size (by rfl) (.tmp 32) (.tmp 37) 38 53 (.int .u8 0) 1 rfl Try.underlying38 info53 rfl (by decide) (by omega) u192001 x192001_1 (rd l2 (rd t186 x27_1)) [.int .u8 (rd l2 (rd t186 x27_1))] (fun _ => True) (fun _ => False) rfl rfl ?aP (fun _ hk => hk.elim) ?aF ?aO ?aB ?aS ?aL ?_
    (case aP => exact rfl)
    (case aB => exact (aL HB))
    (case aF => exact (fun _ _ => trivial))
    (case aO => exact (aR HO_192001))
    (case aS => exact (below_size (aL HB)))
    (case aL => have := LMc56.out; omega)
    intro v214 w58 ho hb hg hat
    rw [← Ny213.out] at ho; replace HO_25 := zA.mk (Kd.R_over' (aR HO_25) (Kd.R_typed (aR HO_192001)) (by decide) hg)
    replace HO_192000 := zA.mk (Kd.R_over' (aR HO_192000) (Kd.R_typed (aR HO_192001)) (by decide) hg)
    replace BK184 := zA.mk (blk_grown (g := gb184) (o := .cells #[.slice none 0 0, .slice none 0 0] 60 (0, 0)) (aB BK184) hg (Kd.R_ne HO_192001.out BK184.out (by decide)))
    replace BK191 := zA.mk (blk_grown (g := gb191) (o := .cells #[.slice Ao9 t185.length co9, u192001] 60 (0, 0)) (aB BK191) hg (Kd.R_ne HO_192001.out BK191.out (by decide)))
    replace HB := zA.mk (hb); have HO215 := zA.mk (ho); clear HO_192001; clear ho hb hg hat; obtain ⟨Ao59, co59, eo59⟩ := Kd.zQ HO215.out; (first | subst eo59 | (injection eo59 with f1_ f2_ f3_; have f4_ := f1_.symm; have f5_ := f3_.symm; clear f1_ f2_ f3_; subst f4_; subst f5_))
    refine hK.out _ _ ⟨(zC BK191.out 0).trans rfl, (zC BK191.out 1).trans rfl, ((HB.out.cell (World.block_lt_of_cell? w _ hw212_0)).trans hw212_0)⟩ (fun hHeld => ?_)
    clear hK K; refine norm_ (a' := ?_) ?_ ?_
    rotate_left
    ·show Act.put _ (some 38) _ = _
     simp only [Act.put, sA_, sB_, sC_, i64_w, i32_w]; rfl
    refine aP 8 (some 39) (tf_ 9 10) HT_ ?_
    refine last_ (i := 9) (N := none) (tb_ 1023 10) rfl rfl (one_of HT_.out (by kernel_rfl)) (by decide) (fun K hK => ?_)
    have hs60 : w58.cell? ⟨gb191, 1, none⟩ = some (u192001) := (zC BK191.out 1).trans rfl
    have hfs60 := blk_frozen BK191.out 1; have hns60_0 := NB184_191.out; have hms60_0 := NB191_184.out; refine skip_ (w1 := ?_) (by rfl) rfl ?_ ?_
    rotate_left
    ·go_simp
     rfl
    refine hK.out _ _ ?_
    clear hK K; refine done_ (done_of HT_.out (by kernel_rfl)) ?_
    try go_wp2
    go_roundg kj24
    case measure => have := HK1.out; have := HJ24.out; omega
    case rel => exact ⟨(wrap64 (x27_1 + 1)), (y213), (.slice Ao59 y213.length co59), aZ, H', ⟨by have := HK1.out; have := HJ24.out; omega⟩, ⟨by (with_reducible repeat (first | apply Kd.zG | apply Kd.zH | apply Kd.zI)); exact Kd.zS (Kd.zP (p := ⟨gb191, 1, none⟩) (Kd.zT HO_25.out BK191.out (by decide)) (fun _ hk => hk.2) (.slice Ao59 y213.length co59)) (fun _ hk => trivial)⟩, ⟨by (with_reducible repeat (first | apply Kd.zG | apply Kd.zH | apply Kd.zI)); exact Kd.zS (Kd.zP (p := ⟨gb191, 1, none⟩) (Kd.zT HO_192000.out BK191.out (by decide)) (fun _ hk => hk.2) (.slice Ao59 y213.length co59)) (fun _ hk => trivial)⟩, ⟨by (with_reducible repeat (first | apply Kd.zG | apply Kd.zH | apply Kd.zI)); exact Kd.zS (Kd.zP (p := ⟨gb191, 1, none⟩) (Kd.zT HO215.out BK191.out (by decide)) (fun _ hk => hk.2) (.slice Ao59 y213.length co59)) (fun _ hk => trivial)⟩, ⟨by (with_reducible repeat (first | refine zE ?_ _ | refine zD ?_ | refine zB ?_ _)); refine blk_far ?_ NB184_191.out _; (with_reducible repeat (first | refine zE ?_ _ | refine zD ?_ | refine zB ?_ _)); exact BK184.out⟩, ⟨by (with_reducible repeat (first | refine zE ?_ _ | refine zD ?_ | refine zB ?_ _)); refine blk_put (cs := #[.slice Ao9 t185.length co9, u192001]) ?_ 1 _ rfl; (with_reducible repeat (first | refine zE ?_ _ | refine zD ?_ | refine zB ?_ _)); exact BK191.out⟩, ⟨aL HB⟩⟩
   rw [if_pos c36] at H; have c36b0 : ((rd l2 (rd t186 x27_1)) == 0) = true := beq_iff_eq.mpr c36
   have c36b1 : ((rd l2 (rd t186 x27_1)) != 0) = false := bne_eq_false_iff_eq.mpr c36
   clear c36; by_cases c37 : (rd t186 x27_1) < (l3.length : Int)
   rotate_left
   ·rw [if_neg c37] at H
    have c37b0 : decide ((rd t186 x27_1) < (l3.length : Int)) = false := decide_eq_false c37
    clear c37; by_cases c51 : x192001_1.length < 140737488355328
    rotate_left
    ·rw [if_neg c51] at H
     exact absurd H (by simp)
    rw [if_pos c51] at H; have LMc51 := zA.mk c51; clear c51; obtain ⟨y209, hy209⟩ : ∃ y_ : List Int, y_ = (x192001_1 ++ [rd l2 (rd t186 x27_1)]) := ⟨_, rfl⟩; replace H : (items_Make.l0 kj24 l0 l2 l3 t186 (t186.length : Int) (wrap64 (x27_1 + 1)) t185 y209) = some (r1, r2) := by first | (rw [hy209]; with_reducible exact H) | (have H2_ := (Option.bind_some _ _).symm.trans H; rw [hy209]; with_reducible exact H2_) | (have H2_ := (Option.bind_some _ _).symm.trans H; with_reducible exact H2_) | with_reducible exact H | (rw [hy209]; exact H) | exact H
    have Ny209 := zA.mk hy209; clear hy209; have H' := zA.mk H
    clear H; have p199 : 0 ≤ ((rd t186 x27_1) : Int) := aD
    have q199 : (rd t186 x27_1) < (l2.length : Int) := aD
    obtain ⟨ad199, e199, hx199_0⟩ := Kd.at_int HR2.out (rd t186 x27_1) p199 q199; cases e199
    replace hx199_0 := (HB.out.cell (World.block_lt_of_cell? w _ hx199_0)).trans hx199_0; replace p199 := eq_true p199; replace q199 := eq_true q199; try go_wp2
    replace HO_25 := zA.mk (Kd.zI HO_25.out); replace HO_192000 := zA.mk (Kd.zI HO_192000.out); replace HO_192001 := zA.mk (Kd.zI HO_192001.out); replace BK184 := zA.mk (zD BK184.out); replace BK191 := zA.mk (zD BK191.out); replace HB := zA.mk (below_drew1 HB.out); have p208 : 0 ≤ ((rd t186 x27_1) : Int) := aD
    have q208 : (rd t186 x27_1) < (l2.length : Int) := aD
    obtain ⟨ad208, e208, hx208_0⟩ := Kd.at_int HR2.out (rd t186 x27_1) p208 q208; have hw208_0 := hx208_0; obtain rfl : ad199 = ad208 := (by injection e208)
    replace hx208_0 := (HB.out.cell (World.block_lt_of_cell? w _ hx208_0)).trans hx208_0; replace p208 := eq_true p208; replace q208 := eq_true q208; refine start_ (n := 10) (S := fun w' => w'.cell? ⟨gb191, 0, none⟩ = some (.slice Ao9 t185.length co9) ∧ w'.cell? ⟨gb191, 1, none⟩ = some (u192001) ∧ w'.cell? (ad199.add ((rd t186 x27_1)).toNat) = some (.int .u8 (rd l2 (rd t186 x27_1)))) (ds := [9]) #[false, false, false, false, false, false, false, false, false, false] (by kernel_rfl) rfl rfl ⟨(zC BK191.out 0).trans rfl, (zC BK191.out 1).trans rfl, ((HB.out.cell (World.block_lt_of_cell? w _ hw208_0)).trans hw208_0)⟩ (fun hHeld => ?_); refine with_tabW items_Make.tab6 items_Make.bits6 (fun HT_ HW_ => ?_)
    generalize wc.drew = w52 at HO_25 HO_192000 HO_192001 BK184 BK191 HB hx208_0 hHeld ⊢
    refine aP 0 (some 31) (tf_ 1 10) HT_ ?_
    refine aP 2 (some 33) (tb_ 5 10) HT_ ?_
    refine aP 3 (some 34) (tb_ 13 10) HT_ ?_
    refine aP 4 (some 35) (tb_ 29 10) HT_ ?_
    refine take_ (i := 1) (N := some 32) (v := ?_) (a' := ?_) (tf_ 5 10) rfl rfl (take_ofW HT_.out HW_.out (by kernel_rfl)) (fun _ _ _ h => h) (Or.inl ⟨by rfl, ?_⟩) hHeld ?_ ?_
    rotate_left
    ·rintro w' ⟨s0, s1, s2⟩
     go_simp
     with_reducible rfl
    rotate_left
    ·simp only [Act.put, sA_, sB_, sC_, i64_w, i32_w]
     rfl
    refine take_ (i := 5) (N := some 36) (v := ?_) (a' := ?_) (tf_ 6 10) rfl rfl (take_ofW HT_.out HW_.out (by kernel_rfl)) (fun _ _ _ h => h) (Or.inl ⟨by rfl, ?_⟩) hHeld ?_ ?_
    rotate_left
    ·rintro w' ⟨s0, s1, s2⟩
     go_simp
     with_reducible rfl
    rotate_left
    ·simp only [Act.put, sA_, sB_, sC_, i64_w, i32_w]
     rfl
    refine one_ (i := 6) (N := some 37) (tb_ 127 10) rfl rfl (one_of HT_.out (by kernel_rfl)) (by decide) (fun K hK => ?_)
    refine value_ (w1 := ?_) (v := ?_) (by rfl) rfl ?_ ?_
    rotate_left 2
    ·go_simp
     constructor
     ·rfl
     rfl
    refine hK.out _ _ ⟨(zC (zB BK191.out _) 0).trans rfl, (zC (zB BK191.out _) 1).trans rfl, (World.cell?_alloc_lt _ _ _ (World.block_lt_of_cell? _ _ (((HB.out.cell (World.block_lt_of_cell? w _ hw208_0)).trans hw208_0)))).trans (((HB.out.cell (World.block_lt_of_cell? w _ hw208_0)).trans hw208_0))⟩ (fun hHeld => ?_)
    clear hK K; refine norm_ (a' := ?_) ?_ ?_
    rotate_left
    ·show Act.put _ (some 37) _ = _
     simp only [Act.put, sA_, sB_, sC_, i64_w, i32_w]; rfl
    refine one_ (i := 7) (N := some 38) (tb_ 255 10) rfl rfl (one_of HT_.out (by kernel_rfl)) (by decide) (fun K hK => ?_)
    refine Kd.R_append_step (Kd.int .u8) (w0 := w) w.heap.size (by rfl) (.tmp 32) (.tmp 37) 38 53 (.int .u8 0) 1 rfl Try.underlying38 info53 rfl (by decide) (by omega) u192001 x192001_1 (rd l2 (rd t186 x27_1)) [.int .u8 (rd l2 (rd t186 x27_1))] (fun _ => True) (fun _ => False) rfl rfl ?aP (fun _ hk => hk.elim) ?aF ?aO ?aB ?aS ?aL ?_
    (case aP => exact rfl)
    (case aB => exact (aL HB))
    (case aF => exact (fun _ _ => trivial))
    (case aO => exact (aR HO_192001))
    (case aS => exact (below_size (aL HB)))
    (case aL => have := LMc51.out; omega)
    intro v210 w53 ho hb hg hat
    rw [← Ny209.out] at ho; replace HO_25 := zA.mk (Kd.R_over' (aR HO_25) (Kd.R_typed (aR HO_192001)) (by decide) hg)
    replace HO_192000 := zA.mk (Kd.R_over' (aR HO_192000) (Kd.R_typed (aR HO_192001)) (by decide) hg)
    replace BK184 := zA.mk (blk_grown (g := gb184) (o := .cells #[.slice none 0 0, .slice none 0 0] 60 (0, 0)) (aB BK184) hg (Kd.R_ne HO_192001.out BK184.out (by decide)))
    replace BK191 := zA.mk (blk_grown (g := gb191) (o := .cells #[.slice Ao9 t185.length co9, u192001] 60 (0, 0)) (aB BK191) hg (Kd.R_ne HO_192001.out BK191.out (by decide)))
    replace HB := zA.mk (hb); have HO211 := zA.mk (ho); clear HO_192001; clear ho hb hg hat; obtain ⟨Ao54, co54, eo54⟩ := Kd.zQ HO211.out; (first | subst eo54 | (injection eo54 with f1_ f2_ f3_; have f4_ := f1_.symm; have f5_ := f3_.symm; clear f1_ f2_ f3_; subst f4_; subst f5_))
    refine hK.out _ _ ⟨(zC BK191.out 0).trans rfl, (zC BK191.out 1).trans rfl, ((HB.out.cell (World.block_lt_of_cell? w _ hw208_0)).trans hw208_0)⟩ (fun hHeld => ?_)
    clear hK K; refine norm_ (a' := ?_) ?_ ?_
    rotate_left
    ·show Act.put _ (some 38) _ = _
     simp only [Act.put, sA_, sB_, sC_, i64_w, i32_w]; rfl
    refine aP 8 (some 39) (tf_ 9 10) HT_ ?_
    refine last_ (i := 9) (N := none) (tb_ 1023 10) rfl rfl (one_of HT_.out (by kernel_rfl)) (by decide) (fun K hK => ?_)
    have hs55 : w53.cell? ⟨gb191, 1, none⟩ = some (u192001) := (zC BK191.out 1).trans rfl
    have hfs55 := blk_frozen BK191.out 1; have hns55_0 := NB184_191.out; have hms55_0 := NB191_184.out; refine skip_ (w1 := ?_) (by rfl) rfl ?_ ?_
    rotate_left
    ·go_simp
     rfl
    refine hK.out _ _ ?_
    clear hK K; refine done_ (done_of HT_.out (by kernel_rfl)) ?_
    try go_wp2
    go_roundg kj24
    case measure => have := HK1.out; have := HJ24.out; omega
    case rel => exact ⟨(wrap64 (x27_1 + 1)), (y209), (.slice Ao54 y209.length co54), aZ, H', ⟨by have := HK1.out; have := HJ24.out; omega⟩, ⟨by (with_reducible repeat (first | apply Kd.zG | apply Kd.zH | apply Kd.zI)); exact Kd.zS (Kd.zP (p := ⟨gb191, 1, none⟩) (Kd.zT HO_25.out BK191.out (by decide)) (fun _ hk => hk.2) (.slice Ao54 y209.length co54)) (fun _ hk => trivial)⟩, ⟨by (with_reducible repeat (first | apply Kd.zG | apply Kd.zH | apply Kd.zI)); exact Kd.zS (Kd.zP (p := ⟨gb191, 1, none⟩) (Kd.zT HO_192000.out BK191.out (by decide)) (fun _ hk => hk.2) (.slice Ao54 y209.length co54)) (fun _ hk => trivial)⟩, ⟨by (with_reducible repeat (first | apply Kd.zG | apply Kd.zH | apply Kd.zI)); exact Kd.zS (Kd.zP (p := ⟨gb191, 1, none⟩) (Kd.zT HO211.out BK191.out (by decide)) (fun _ hk => hk.2) (.slice Ao54 y209.length co54)) (fun _ hk => trivial)⟩, ⟨by (with_reducible repeat (first | refine zE ?_ _ | refine zD ?_ | refine zB ?_ _)); refine blk_far ?_ NB184_191.out _; (with_reducible repeat (first | refine zE ?_ _ | refine zD ?_ | refine zB ?_ _)); exact BK184.out⟩, ⟨by (with_reducible repeat (first | refine zE ?_ _ | refine zD ?_ | refine zB ?_ _)); refine blk_put (cs := #[.slice Ao9 t185.length co9, u192001]) ?_ 1 _ rfl; (with_reducible repeat (first | refine zE ?_ _ | refine zD ?_ | refine zB ?_ _)); exact BK191.out⟩, ⟨aL HB⟩⟩
   rw [if_pos c37] at H; have c37b0 : decide ((rd t186 x27_1) < (l3.length : Int)) = true := decide_eq_true c37
   clear c37; obtain ⟨bq38, hbq38⟩ : ∃ b_ : Bool, b_ = (rdOf false l3 (rd t186 x27_1)) := ⟨_, rfl⟩; replace H : (if bq38 = true then (if x192001_1.length < 140737488355328 then (items_Make.l0 kj24 l0 l2 l3 t186 (t186.length : Int) (wrap64 (x27_1 + 1)) t185 (x192001_1 ++ [3])) else (none)) else (if x192001_1.length < 140737488355328 then (items_Make.l0 kj24 l0 l2 l3 t186 (t186.length : Int) (wrap64 (x27_1 + 1)) t185 (x192001_1 ++ [rd l2 (rd t186 x27_1)])) else (none))) = some (r1, r2) := by rw [← hbq38] at H; exact H
   have Nbq38 := zA.mk hbq38; clear hbq38; by_cases c39 : bq38 = true
   ·subst c39
    have H1 : (if x192001_1.length < 140737488355328 then (items_Make.l0 kj24 l0 l2 l3 t186 (t186.length : Int) (wrap64 (x27_1 + 1)) t185 (x192001_1 ++ [3])) else (none)) = some (r1, r2) := by rw [if_pos rfl] at H; exact H
    clear H; have H := H1; clear H1; by_cases c40 : x192001_1.length < 140737488355328
    rotate_left
    ·rw [if_neg c40] at H
     exact absurd H (by simp)
    rw [if_pos c40] at H; have LMc40 := zA.mk c40; clear c40; obtain ⟨y201, hy201⟩ : ∃ y_ : List Int, y_ = (x192001_1 ++ [3]) := ⟨_, rfl⟩; replace H : (items_Make.l0 kj24 l0 l2 l3 t186 (t186.length : Int) (wrap64 (x27_1 + 1)) t185 y201) = some (r1, r2) := by first | (rw [hy201]; with_reducible exact H) | (have H2_ := (Option.bind_some _ _).symm.trans H; rw [hy201]; with_reducible exact H2_) | (have H2_ := (Option.bind_some _ _).symm.trans H; with_reducible exact H2_) | with_reducible exact H | (rw [hy201]; exact H) | exact H
    have Ny201 := zA.mk hy201; clear hy201; have H' := zA.mk H
    clear H; have p199 : 0 ≤ ((rd t186 x27_1) : Int) := aD
    have q199 : (rd t186 x27_1) < (l2.length : Int) := aD
    obtain ⟨ad199, e199, hx199_0⟩ := Kd.at_int HR2.out (rd t186 x27_1) p199 q199; cases e199
    replace hx199_0 := (HB.out.cell (World.block_lt_of_cell? w _ hx199_0)).trans hx199_0; replace p199 := eq_true p199; replace q199 := eq_true q199; have p200 : 0 ≤ ((rd t186 x27_1) : Int) := aD
    have q200 : (rd t186 x27_1) < (l3.length : Int) := aD
    obtain ⟨ad200, e200, hx200_0⟩ := Kd.at_bool HR3.out (rd t186 x27_1) p200 q200; (try rw [← Nbq38.out] at hx200_0)
    cases e200
    replace hx200_0 := (HB.out.cell (World.block_lt_of_cell? w _ hx200_0)).trans hx200_0; replace p200 := eq_true p200; replace q200 := eq_true q200; have hnb41 := NB191_184.out; have hnc41 := NB184_191.out; obtain ⟨hcz42_0, hcz42_1, hfz42_0, hfz42_1⟩ := aC2 BK191; go_wp2_with (first | ((with_reducible refine gate_builtin (b := .append) (xs := #[.tmp 83, .tmp 84]) rfl ?_); (try (refine gate_guard (by rfl) ?_; dsimp only)); at_builtin; refine Kd.R_append (Kd.int .u8) (w0 := w) w.heap.size rfl (.tmp 83) (.tmp 84) 38 53 (.int .u8 0) 1 rfl Try.underlying38 info53 rfl (by decide) (by omega) u192001 x192001_1 3 [.int .u8 3] (fun _ => True) (fun _ => False) rfl rfl ?aP (fun _ hk => hk.elim) ?aF ?aO ?aB ?aS ?aL ?_; (case aP => exact rfl); (case aB => exact (aL HB)); (case aF => exact (fun _ _ => trivial)); (case aO => exact (aR HO_192001)); (case aS => exact (below_size (aL HB))); (case aL => have := LMc40.out; omega); intro v202 w43 ho hb hg hat; rw [← Ny201.out] at ho; replace HO_25 := zA.mk (Kd.R_over' (aR HO_25) (Kd.R_typed (aR HO_192001)) (by decide) hg); replace HO_192000 := zA.mk (Kd.R_over' (aR HO_192000) (Kd.R_typed (aR HO_192001)) (by decide) hg); replace BK184 := zA.mk (blk_grown (g := gb184) (o := .cells #[.slice none 0 0, .slice none 0 0] 60 (0, 0)) (aB BK184) hg (Kd.R_ne HO_192001.out BK184.out (by decide))); replace BK191 := zA.mk (blk_grown (g := gb191) (o := .cells #[.slice Ao9 t185.length co9, u192001] 60 (0, 0)) (aB BK191) hg (Kd.R_ne HO_192001.out BK191.out (by decide))); replace HB := zA.mk (hb); have HO203 := zA.mk (ho); clear HO_192001; clear ho hb hg hat; obtain ⟨Ao44, co44, eo44⟩ := Kd.zQ HO203.out; subst eo44; obtain ⟨hcz45_0, hcz45_1, hfz45_0, hfz45_1⟩ := aC2 BK191))
    go_roundg kj24
    case measure => have := HK1.out; have := HJ24.out; omega
    case rel => exact ⟨(wrap64 (x27_1 + 1)), (y201), (.slice Ao44 y201.length co44), aZ, H', ⟨by have := HK1.out; have := HJ24.out; omega⟩, ⟨by (with_reducible repeat (first | apply Kd.zG | apply Kd.zH | apply Kd.zI)); exact Kd.zS (Kd.zP (p := ⟨gb191, 1, none⟩) (Kd.zT HO_25.out BK191.out (by decide)) (fun _ hk => hk.2) (.slice Ao44 y201.length co44)) (fun _ hk => trivial)⟩, ⟨by (with_reducible repeat (first | apply Kd.zG | apply Kd.zH | apply Kd.zI)); exact Kd.zS (Kd.zP (p := ⟨gb191, 1, none⟩) (Kd.zT HO_192000.out BK191.out (by decide)) (fun _ hk => hk.2) (.slice Ao44 y201.length co44)) (fun _ hk => trivial)⟩, ⟨by (with_reducible repeat (first | apply Kd.zG | apply Kd.zH | apply Kd.zI)); exact Kd.zS (Kd.zP (p := ⟨gb191, 1, none⟩) (Kd.zT HO203.out BK191.out (by decide)) (fun _ hk => hk.2) (.slice Ao44 y201.length co44)) (fun _ hk => trivial)⟩, ⟨by (with_reducible repeat (first | refine zE ?_ _ | refine zD ?_ | refine zB ?_ _)); refine blk_far ?_ NB184_191.out _; (with_reducible repeat (first | refine zE ?_ _ | refine zD ?_ | refine zB ?_ _)); exact BK184.out⟩, ⟨by (with_reducible repeat (first | refine zE ?_ _ | refine zD ?_ | refine zB ?_ _)); refine blk_put (cs := #[.slice Ao9 t185.length co9, u192001]) ?_ 1 _ rfl; (with_reducible repeat (first | refine zE ?_ _ | refine zD ?_ | refine zB ?_ _)); exact BK191.out⟩, ⟨aL HB⟩⟩
   replace c39 := Bool.eq_false_iff.mpr c39; subst c39; have H1 : (if x192001_1.length < 140737488355328 then (items_Make.l0 kj24 l0 l2 l3 t186 (t186.length : Int) (wrap64 (x27_1 + 1)) t185 (x192001_1 ++ [rd l2 (rd t186 x27_1)])) else (none)) = some (r1, r2) := by rw [if_neg (show ¬ (false = true) by decide)] at H; exact H
   clear H; have H := H1; clear H1; by_cases c46 : x192001_1.length < 140737488355328
   rotate_left
   ·rw [if_neg c46] at H
    exact absurd H (by simp)
   rw [if_pos c46] at H; have LMc46 := zA.mk c46; clear c46; obtain ⟨y205, hy205⟩ : ∃ y_ : List Int, y_ = (x192001_1 ++ [rd l2 (rd t186 x27_1)]) := ⟨_, rfl⟩; replace H : (items_Make.l0 kj24 l0 l2 l3 t186 (t186.length : Int) (wrap64 (x27_1 + 1)) t185 y205) = some (r1, r2) := by first | (rw [hy205]; with_reducible exact H) | (have H2_ := (Option.bind_some _ _).symm.trans H; rw [hy205]; with_reducible exact H2_) | (have H2_ := (Option.bind_some _ _).symm.trans H; with_reducible exact H2_) | with_reducible exact H | (rw [hy205]; exact H) | exact H
   have Ny205 := zA.mk hy205; clear hy205; have H' := zA.mk H
   clear H; have p199 : 0 ≤ ((rd t186 x27_1) : Int) := aD
   have q199 : (rd t186 x27_1) < (l2.length : Int) := aD
   obtain ⟨ad199, e199, hx199_0⟩ := Kd.at_int HR2.out (rd t186 x27_1) p199 q199; cases e199
   replace hx199_0 := (HB.out.cell (World.block_lt_of_cell? w _ hx199_0)).trans hx199_0; replace p199 := eq_true p199; replace q199 := eq_true q199; have p200 : 0 ≤ ((rd t186 x27_1) : Int) := aD
   have q200 : (rd t186 x27_1) < (l3.length : Int) := aD
   obtain ⟨ad200, e200, hx200_0⟩ := Kd.at_bool HR3.out (rd t186 x27_1) p200 q200; (try rw [← Nbq38.out] at hx200_0)
   cases e200
   replace hx200_0 := (HB.out.cell (World.block_lt_of_cell? w _ hx200_0)).trans hx200_0; replace p200 := eq_true p200; replace q200 := eq_true q200; try go_wp2
   replace HO_25 := zA.mk (Kd.zI HO_25.out); replace HO_192000 := zA.mk (Kd.zI HO_192000.out); replace HO_192001 := zA.mk (Kd.zI HO_192001.out); replace BK184 := zA.mk (zD BK184.out); replace BK191 := zA.mk (zD BK191.out); replace HB := zA.mk (below_drew1 HB.out); have p204 : 0 ≤ ((rd t186 x27_1) : Int) := aD
   have q204 : (rd t186 x27_1) < (l2.length : Int) := aD
   obtain ⟨ad204, e204, hx204_0⟩ := Kd.at_int HR2.out (rd t186 x27_1) p204 q204; have hw204_0 := hx204_0; obtain rfl : ad199 = ad204 := (by injection e204)
   replace hx204_0 := (HB.out.cell (World.block_lt_of_cell? w _ hx204_0)).trans hx204_0; replace p204 := eq_true p204; replace q204 := eq_true q204; refine start_ (n := 10) (S := fun w' => w'.cell? ⟨gb191, 0, none⟩ = some (.slice Ao9 t185.length co9) ∧ w'.cell? ⟨gb191, 1, none⟩ = some (u192001) ∧ w'.cell? (ad199.add ((rd t186 x27_1)).toNat) = some (.int .u8 (rd l2 (rd t186 x27_1)))) (ds := [9]) #[false, false, false, false, false, false, false, false, false, false] (by kernel_rfl) rfl rfl ⟨(zC BK191.out 0).trans rfl, (zC BK191.out 1).trans rfl, ((HB.out.cell (World.block_lt_of_cell? w _ hw204_0)).trans hw204_0)⟩ (fun hHeld => ?_); refine with_tabW items_Make.tab6 items_Make.bits6 (fun HT_ HW_ => ?_)
   generalize wc.drew = w47 at HO_25 HO_192000 HO_192001 BK184 BK191 HB hx204_0 hHeld ⊢
   refine aP 0 (some 31) (tf_ 1 10) HT_ ?_
   refine aP 2 (some 33) (tb_ 5 10) HT_ ?_
   refine aP 3 (some 34) (tb_ 13 10) HT_ ?_
   refine aP 4 (some 35) (tb_ 29 10) HT_ ?_
   refine take_ (i := 1) (N := some 32) (v := ?_) (a' := ?_) (tf_ 5 10) rfl rfl (take_ofW HT_.out HW_.out (by kernel_rfl)) (fun _ _ _ h => h) (Or.inl ⟨by rfl, ?_⟩) hHeld ?_ ?_
   rotate_left
   ·rintro w' ⟨s0, s1, s2⟩
    go_simp
    with_reducible rfl
   rotate_left
   ·simp only [Act.put, sA_, sB_, sC_, i64_w, i32_w]
    rfl
   refine take_ (i := 5) (N := some 36) (v := ?_) (a' := ?_) (tf_ 6 10) rfl rfl (take_ofW HT_.out HW_.out (by kernel_rfl)) (fun _ _ _ h => h) (Or.inl ⟨by rfl, ?_⟩) hHeld ?_ ?_
   rotate_left
   ·rintro w' ⟨s0, s1, s2⟩
    go_simp
    with_reducible rfl
   rotate_left
   ·simp only [Act.put, sA_, sB_, sC_, i64_w, i32_w]
    rfl
   refine one_ (i := 6) (N := some 37) (tb_ 127 10) rfl rfl (one_of HT_.out (by kernel_rfl)) (by decide) (fun K hK => ?_)
   refine value_ (w1 := ?_) (v := ?_) (by rfl) rfl ?_ ?_
   rotate_left 2
   ·go_simp
    constructor
    ·rfl
    rfl
   refine hK.out _ _ ⟨(zC (zB BK191.out _) 0).trans rfl, (zC (zB BK191.out _) 1).trans rfl, (World.cell?_alloc_lt _ _ _ (World.block_lt_of_cell? _ _ (((HB.out.cell (World.block_lt_of_cell? w _ hw204_0)).trans hw204_0)))).trans (((HB.out.cell (World.block_lt_of_cell? w _ hw204_0)).trans hw204_0))⟩ (fun hHeld => ?_)
   clear hK K; refine norm_ (a' := ?_) ?_ ?_
   rotate_left
   ·show Act.put _ (some 37) _ = _
    simp only [Act.put, sA_, sB_, sC_, i64_w, i32_w]; rfl
   refine one_ (i := 7) (N := some 38) (tb_ 255 10) rfl rfl (one_of HT_.out (by kernel_rfl)) (by decide) (fun K hK => ?_)
   refine Kd.R_append_step (Kd.int .u8) (w0 := w) w.heap.size (by rfl) (.tmp 32) (.tmp 37) 38 53 (.int .u8 0) 1 rfl Try.underlying38 info53 rfl (by decide) (by omega) u192001 x192001_1 (rd l2 (rd t186 x27_1)) [.int .u8 (rd l2 (rd t186 x27_1))] (fun _ => True) (fun _ => False) rfl rfl ?aP (fun _ hk => hk.elim) ?aF ?aO ?aB ?aS ?aL ?_
   (case aP => exact rfl)
   (case aB => exact (aL HB))
   (case aF => exact (fun _ _ => trivial))
   (case aO => exact (aR HO_192001))
   (case aS => exact (below_size (aL HB)))
   (case aL => have := LMc46.out; omega)
   intro v206 w48 ho hb hg hat
   rw [← Ny205.out] at ho; replace HO_25 := zA.mk (Kd.R_over' (aR HO_25) (Kd.R_typed (aR HO_192001)) (by decide) hg)
   replace HO_192000 := zA.mk (Kd.R_over' (aR HO_192000) (Kd.R_typed (aR HO_192001)) (by decide) hg)
   replace BK184 := zA.mk (blk_grown (g := gb184) (o := .cells #[.slice none 0 0, .slice none 0 0] 60 (0, 0)) (aB BK184) hg (Kd.R_ne HO_192001.out BK184.out (by decide)))
   replace BK191 := zA.mk (blk_grown (g := gb191) (o := .cells #[.slice Ao9 t185.length co9, u192001] 60 (0, 0)) (aB BK191) hg (Kd.R_ne HO_192001.out BK191.out (by decide)))
   replace HB := zA.mk (hb); have HO207 := zA.mk (ho); clear HO_192001; clear ho hb hg hat; obtain ⟨Ao49, co49, eo49⟩ := Kd.zQ HO207.out; (first | subst eo49 | (injection eo49 with f1_ f2_ f3_; have f4_ := f1_.symm; have f5_ := f3_.symm; clear f1_ f2_ f3_; subst f4_; subst f5_))
   refine hK.out _ _ ⟨(zC BK191.out 0).trans rfl, (zC BK191.out 1).trans rfl, ((HB.out.cell (World.block_lt_of_cell? w _ hw204_0)).trans hw204_0)⟩ (fun hHeld => ?_)
   clear hK K; refine norm_ (a' := ?_) ?_ ?_
   rotate_left
   ·show Act.put _ (some 38) _ = _
    simp only [Act.put, sA_, sB_, sC_, i64_w, i32_w]; rfl
   refine aP 8 (some 39) (tf_ 9 10) HT_ ?_
   refine last_ (i := 9) (N := none) (tb_ 1023 10) rfl rfl (one_of HT_.out (by kernel_rfl)) (by decide) (fun K hK => ?_)
   have hs50 : w48.cell? ⟨gb191, 1, none⟩ = some (u192001) := (zC BK191.out 1).trans rfl
   have hfs50 := blk_frozen BK191.out 1; have hns50_0 := NB184_191.out; have hms50_0 := NB191_184.out; refine skip_ (w1 := ?_) (by rfl) rfl ?_ ?_
   rotate_left
   ·go_simp
    rfl
   refine hK.out _ _ ?_
   clear hK K; refine done_ (done_of HT_.out (by kernel_rfl)) ?_
   try go_wp2
   go_roundg kj24
   case measure => have := HK1.out; have := HJ24.out; omega
   case rel => exact ⟨(wrap64 (x27_1 + 1)), (y205), (.slice Ao49 y205.length co49), aZ, H', ⟨by have := HK1.out; have := HJ24.out; omega⟩, ⟨by (with_reducible repeat (first | apply Kd.zG | apply Kd.zH | apply Kd.zI)); exact Kd.zS (Kd.zP (p := ⟨gb191, 1, none⟩) (Kd.zT HO_25.out BK191.out (by decide)) (fun _ hk => hk.2) (.slice Ao49 y205.length co49)) (fun _ hk => trivial)⟩, ⟨by (with_reducible repeat (first | apply Kd.zG | apply Kd.zH | apply Kd.zI)); exact Kd.zS (Kd.zP (p := ⟨gb191, 1, none⟩) (Kd.zT HO_192000.out BK191.out (by decide)) (fun _ hk => hk.2) (.slice Ao49 y205.length co49)) (fun _ hk => trivial)⟩, ⟨by (with_reducible repeat (first | apply Kd.zG | apply Kd.zH | apply Kd.zI)); exact Kd.zS (Kd.zP (p := ⟨gb191, 1, none⟩) (Kd.zT HO207.out BK191.out (by decide)) (fun _ hk => hk.2) (.slice Ao49 y205.length co49)) (fun _ hk => trivial)⟩, ⟨by (with_reducible repeat (first | refine zE ?_ _ | refine zD ?_ | refine zB ?_ _)); refine blk_far ?_ NB184_191.out _; (with_reducible repeat (first | refine zE ?_ _ | refine zD ?_ | refine zB ?_ _)); exact BK184.out⟩, ⟨by (with_reducible repeat (first | refine zE ?_ _ | refine zD ?_ | refine zB ?_ _)); refine blk_put (cs := #[.slice Ao9 t185.length co9, u192001]) ?_ 1 _ rfl; (with_reducible repeat (first | refine zE ?_ _ | refine zD ?_ | refine zB ?_ _)); exact BK191.out⟩, ⟨aL HB⟩⟩
mutual
def items_Check.j0 : Nat → Bool → List (S48) → List Int → Option (Bool)
 | 0, _, _, _ => none
 | k + 1, x36, x217000, x217001 => if x36 = true then (some false) else (items_Check.l0 k 0 x217000 (x217000.length : Int) 0 x217000 x217001)
def items_Check.l0 : Nat → Int → List (S48) → Int → Int → List (S48) → List Int → Option (Bool)
 | 0, _, _, _, _, _, _ => none
 | k + 1, x3, x38, x39, x40, x217000, x217001 => if x40 < x39 then (if 0 ≤ x40 then (if x40 < (x38.length : Int) then (if ((rd_T48 x38 x40).f0) = x3 then (if ((rd_T48 x38 x40).f1) < 1 then (some false) else (if ((rd_T48 x38 x40).f1) > (wrap64 (4096 - x3)) then (some false) else (if ((rd_T48 x38 x40).f2) < 0 then (some false) else (if ((rd_T48 x38 x40).f2) > 2 then (some false) else (if ((rd_T48 x38 x40).f3) > 2 then (some false) else (if x40 < (x217001.length : Int) then (if (rd x217001 x40) > 3 then (some false) else (items_Check.l0 k (wrap64 (x3 + ((rd_T48 x38 x40).f1))) x38 x39 (wrap64 (x40 + 1)) x217000 x217001)) else (none))))))) else (some false)) else (none)) else (none)) else (some true)
end
def items_Check.f (k : Nat) (l0_0 : List (S48)) (l0_1 : List Int) : Option (Bool) := if (l0_1.length : Int) = (wrap64 ((l0_0.length : Int) + 1)) then (if 0 ≤ (l0_0.length : Int) then (if (l0_0.length : Int) < (l0_1.length : Int) then (if (rd l0_1 (l0_0.length : Int)) = 2 then (if (l0_0.length : Int) > 0 then (if 0 < (l0_1.length : Int) then (items_Check.j0 k ((rd l0_1 0) != 0) l0_0 l0_1) else (none)) else (items_Check.j0 k false l0_0 l0_1)) else (items_Check.j0 k true l0_0 l0_1)) else (none)) else (none)) else (items_Check.j0 k true l0_0 l0_1)
theorem items_Check.mono_l : ∀ k, (∀ y0 y1 y2, LeO (items_Check.j0 k y0 y1 y2) (items_Check.j0 (k + 1) y0 y1 y2)) ∧ (∀ y0 y1 y2 y3 y4 y5, LeO (items_Check.l0 k y0 y1 y2 y3 y4 y5) (items_Check.l0 (k + 1) y0 y1 y2 y3 y4 y5))
 | 0 => ⟨fun _ _ _ r h => by simp [items_Check.j0] at h, fun _ _ _ _ _ _ r h => by simp [items_Check.l0] at h⟩
 | k + 1 => by
  obtain ⟨ih0, ih1⟩ := items_Check.mono_l k; refine ⟨?_, ?_⟩
  ·intro y0 y1 y2
   unfold items_Check.j0
   repeat' (with_reducible first | exact ih0 _ _ _ | exact ih1 _ _ _ _ _ _ | exact LeO.refl _ | exact LeO.none _ | refine LeO.ite ?_ ?_ | refine LeO.bind ?_ (fun _ => ?_))
  ·intro y0 y1 y2 y3 y4 y5
   unfold items_Check.l0
   repeat' (with_reducible first | exact ih0 _ _ _ | exact ih1 _ _ _ _ _ _ | exact LeO.refl _ | exact LeO.none _ | refine LeO.ite ?_ ?_ | refine LeO.bind ?_ (fun _ => ?_))
theorem items_Check.mono : ∀ a0 a1 k, LeO (items_Check.f k a0 a1) (items_Check.f (k + 1) a0 a1) := by
 intro a0 a1 k
 obtain ⟨ih0, ih1⟩ := items_Check.mono_l k; unfold items_Check.f
 repeat' (with_reducible first | exact ih0 _ _ _ | exact ih1 _ _ _ _ _ _ | exact LeO.refl _ | exact LeO.none _ | refine LeO.ite ?_ ?_ | refine LeO.bind ?_ (fun _ => ?_))
set_option maxHeartbeats 8000000 in
set_option maxRecDepth 100000 in
theorem items_Check.calls (k : Nat) (A0_0 : Option Addr) (c0_0 : Nat) (l0_0 : List (S48)) (A0_1 : Option Addr) (c0_1 : Nat) (l0_1 : List Int) (r : Bool) (w : World) (hr0_0 : Kd.C k48 w A0_0 l0_0.length l0_0) (hc0_0 : l0_0.length ≤ c0_0) (hr0_1 : Kd.C (Kd.int .u8) w A0_1 l0_1.length l0_1) (hc0_1 : l0_1.length ≤ c0_1) (h : items_Check.f k l0_0 l0_1 = some r) :
  Calls Try.prog 28 #[.agg #[.slice A0_0 l0_0.length c0_0, .slice A0_1 l0_1.length c0_1]] w fun e w' => e = .returned (.bool r) ∧ Below w.heap.size w w' := by
 have hu60 := Try.underlying60; have hu48 := Try.underlying48; have HR0_0 := zA.mk hr0_0; have HC0_0 := zA.mk hc0_0; clear hr0_0 hc0_0; have HR0_1 := zA.mk hr0_1; have HC0_1 := zA.mk hc0_1; clear hr0_1 hc0_1; have HB := zA.mk (Below.refl w.heap.size w); have H : (if (l0_1.length : Int) = (wrap64 ((l0_0.length : Int) + 1)) then (if 0 ≤ (l0_0.length : Int) then (if (l0_0.length : Int) < (l0_1.length : Int) then (if (rd l0_1 (l0_0.length : Int)) = 2 then (if (l0_0.length : Int) > 0 then (if 0 < (l0_1.length : Int) then (items_Check.j0 k ((rd l0_1 0) != 0) l0_0 l0_1) else (none)) else (items_Check.j0 k false l0_0 l0_1)) else (items_Check.j0 k true l0_0 l0_1)) else (none)) else (none)) else (items_Check.j0 k true l0_0 l0_1)) = some r := h
 clear h; have HC2 := zA.mk H; clear H; go_enter Try.func28, Try.ntmps28
 go_upto_region 1 with (first | ((with_reducible refine gate_dst (N := 1) rfl ?_); (try (refine gate_guard (by rfl) ?_; dsimp only)); refine box_event ?hg (N := 1) ?hd (cs := #[.slice A0_0 l0_0.length c0_0, .slice A0_1 l0_1.length c0_1]) (t := 60) ?hr ?_; (case hd => rfl); (case hg => rfl); (case hr => first | (go_simp; done) | (go_simp; rfl)); intro gb216 hg w3 hbox hb; have BK216 := zA.mk (hbox); have GW216 := zA.mk ((by rw [hg]; exact (below_size (aL HB)) : w.heap.size ≤ gb216)); replace HB := zA.mk (below_step (aL HB) hb); have GE216 := GW216; clear hb hbox hg))
 (try simp only [Act.put, sA_, sB_, sC_])
 go_cut [36] (fun v36 wc => ∃ (kq : Nat) (x36_1 : Bool), v36 = .bool x36_1 ∧ zA (items_Check.j0 kq x36_1 l0_0 l0_1 = some r) ∧ zA (kq ≤ k) ∧ zA (wc.heap[gb216]? = some (.cells #[(.slice A0_0 l0_0.length c0_0), (.slice A0_1 l0_1.length c0_1)] 60 (0, 0))) ∧ zA (Below w.heap.size w wc))
 case first =>
  have H := HC2.out; clear HC2; by_cases c4 : (l0_1.length : Int) = (wrap64 ((l0_0.length : Int) + 1))
  rotate_left
  ·rw [if_neg c4] at H
   have c4b0 : ((l0_1.length : Int) == (wrap64 ((l0_0.length : Int) + 1))) = false := beq_eq_false_iff_ne.mpr c4
   have c4b1 : ((l0_1.length : Int) != (wrap64 ((l0_0.length : Int) + 1))) = true := bne_iff_ne.mpr c4
   (first | rw [c4b0] | (simp only [i64_w, i32_w]; rw [c4b0]) | skip)
   have H' := zA.mk H
   clear H; obtain ⟨hcz13_0, hcz13_1, hfz13_0, hfz13_1⟩ := aC2 BK216; go_wp2
   go_meet
   case rel => exact ⟨_, (true), aZ, H', ⟨by first | omega | exact Nat.le_refl _⟩, ⟨aB BK216⟩, ⟨aL HB⟩⟩
  rw [if_pos c4] at H; have c4b0 : ((l0_1.length : Int) == (wrap64 ((l0_0.length : Int) + 1))) = true := beq_iff_eq.mpr c4
  have c4b1 : ((l0_1.length : Int) != (wrap64 ((l0_0.length : Int) + 1))) = false := bne_eq_false_iff_eq.mpr c4
  clear c4; (first | rw [c4b0] | (simp only [i64_w, i32_w]; rw [c4b0]) | skip)
  by_cases c5 : 0 ≤ (l0_0.length : Int)
  rotate_left
  ·rw [if_neg c5] at H
   exact absurd H (by simp)
  rw [if_pos c5] at H; have c5b0 : decide (0 ≤ (l0_0.length : Int)) = true := decide_eq_true c5
  have c5b1 : decide (0 ≤ l0_0.length) = true := decide_eq_true (by omega)
  clear c5; by_cases c6 : (l0_0.length : Int) < (l0_1.length : Int)
  rotate_left
  ·rw [if_neg c6] at H
   exact absurd H (by simp)
  rw [if_pos c6] at H; have c6b0 : decide ((l0_0.length : Int) < (l0_1.length : Int)) = true := decide_eq_true c6
  have c6b1 : decide (l0_0.length < l0_1.length) = true := decide_eq_true (Int.ofNat_lt.mp c6)
  clear c6; by_cases c7 : (rd l0_1 (l0_0.length : Int)) = 2
  rotate_left
  ·rw [if_neg c7] at H
   have c7b0 : ((rd l0_1 (l0_0.length : Int)) == 2) = false := beq_eq_false_iff_ne.mpr c7
   have c7b1 : ((rd l0_1 (l0_0.length : Int)) != 2) = true := bne_iff_ne.mpr c7
   have H' := zA.mk H
   clear H; obtain ⟨hcz12_0, hcz12_1, hfz12_0, hfz12_1⟩ := aC2 BK216; have p217 : 0 ≤ ((l0_0.length : Int) : Int) := aD
   have q217 : (l0_0.length : Int) < (l0_1.length : Int) := aD
   obtain ⟨ad217, e217, hx217_0⟩ := Kd.at_int HR0_1.out (l0_0.length : Int) p217 q217; cases e217
   replace hx217_0 := (HB.out.cell (World.block_lt_of_cell? w _ hx217_0)).trans hx217_0; (try simp only [Go.IntWalk.toNatUp] at hx217_0)
   replace p217 := eq_true p217; replace q217 := eq_true q217; go_wp2
   go_meet
   case rel => exact ⟨_, (true), aZ, H', ⟨by first | omega | exact Nat.le_refl _⟩, ⟨aB BK216⟩, ⟨aL HB⟩⟩
  rw [if_pos c7] at H; have c7b0 : ((rd l0_1 (l0_0.length : Int)) == 2) = true := beq_iff_eq.mpr c7
  have c7b1 : ((rd l0_1 (l0_0.length : Int)) != 2) = false := bne_eq_false_iff_eq.mpr c7
  clear c7; by_cases c8 : (l0_0.length : Int) > 0
  rotate_left
  ·rw [if_neg c8] at H
   have c8b0 : decide (0 < (l0_0.length : Int)) = false := decide_eq_false c8
   have c8b1 : decide (0 < l0_0.length) = false := decide_eq_false (by omega)
   clear c8; have H' := zA.mk H
   clear H; obtain ⟨hcz11_0, hcz11_1, hfz11_0, hfz11_1⟩ := aC2 BK216; have p217 : 0 ≤ ((l0_0.length : Int) : Int) := aD
   have q217 : (l0_0.length : Int) < (l0_1.length : Int) := aD
   obtain ⟨ad217, e217, hx217_0⟩ := Kd.at_int HR0_1.out (l0_0.length : Int) p217 q217; cases e217
   replace hx217_0 := (HB.out.cell (World.block_lt_of_cell? w _ hx217_0)).trans hx217_0; (try simp only [Go.IntWalk.toNatUp] at hx217_0)
   replace p217 := eq_true p217; replace q217 := eq_true q217; go_wp2
   go_meet
   case rel => exact ⟨_, (false), aZ, H', ⟨by first | omega | exact Nat.le_refl _⟩, ⟨aB BK216⟩, ⟨aL HB⟩⟩
  rw [if_pos c8] at H; have c8b0 : decide (0 < (l0_0.length : Int)) = true := decide_eq_true c8
  have c8b1 : decide (0 < l0_0.length) = true := decide_eq_true (by omega)
  clear c8; by_cases c9 : 0 < (l0_1.length : Int)
  rotate_left
  ·rw [if_neg c9] at H
   exact absurd H (by simp)
  rw [if_pos c9] at H; have c9b0 : decide (0 < (l0_1.length : Int)) = true := decide_eq_true c9
  have c9b1 : decide (0 < l0_1.length) = true := decide_eq_true (by omega)
  clear c9; have H' := zA.mk H
  clear H; obtain ⟨hcz10_0, hcz10_1, hfz10_0, hfz10_1⟩ := aC2 BK216; have p217 : 0 ≤ ((l0_0.length : Int) : Int) := aD
  have q217 : (l0_0.length : Int) < (l0_1.length : Int) := aD
  obtain ⟨ad217, e217, hx217_0⟩ := Kd.at_int HR0_1.out (l0_0.length : Int) p217 q217; cases e217
  replace hx217_0 := (HB.out.cell (World.block_lt_of_cell? w _ hx217_0)).trans hx217_0; (try simp only [Go.IntWalk.toNatUp] at hx217_0)
  replace p217 := eq_true p217; replace q217 := eq_true q217; have p218 : 0 ≤ (0 : Int) := (by omega)
  have q218 : 0 < (l0_1.length : Int) := aD
  obtain ⟨ad218, e218, hx218_0⟩ := Kd.at_int HR0_1.out 0 p218 q218; obtain rfl : ad217 = ad218 := (by injection e218)
  have qi218 : (0 < l0_1.length) = True := eq_true (by omega)
  (try rw [show ((0 : Int)).toNat = 0 from rfl] at hx218_0)
  (try rw [Addr.add_zero'] at hx218_0)
  replace hx218_0 := (HB.out.cell (World.block_lt_of_cell? w _ hx218_0)).trans hx218_0; replace p218 := eq_true p218; replace q218 := eq_true q218; go_wp2
  go_meet
  case rel => exact ⟨_, (((rd l0_1 0) != 0)), aZ, H', ⟨by first | omega | exact Nat.le_refl _⟩, ⟨aB BK216⟩, ⟨aL HB⟩⟩
 clear HC2; obtain ⟨kq, x36_1, rfl, HA, HJ1, BK216, HB⟩ := hcut; cases kq with
 | zero => exact absurd HA.out (by simp [items_Check.j0])
 | succ kj1 =>
  have H := HA.out; clear HA; simp only [items_Check.j0] at H; by_cases c14 : x36_1 = true
  ·subst c14
   have H1 : (some false) = some r := by rw [if_pos rfl] at H; exact H
   clear H; have H := H1; clear H1; obtain rfl := Option.some.inj H
   go_wp2
   go_ret
   exact ⟨aX, aL HB⟩
  replace c14 := Bool.eq_false_iff.mpr c14; subst c14; have H1 : (items_Check.l0 kj1 0 l0_0 (l0_0.length : Int) 0 l0_0 l0_1) = some r := by rw [if_neg (show ¬ (false = true) by decide)] at H; exact H
  clear H; have H := H1; clear H1; have H' := zA.mk H
  clear H; obtain ⟨hcz15_0, hcz15_1, hfz15_0, hfz15_1⟩ := aC2 BK216; go_wp2
  go_loopg [3, 40] kj1 (fun kq v3 v40 w' => ∃ (x3_2 : Int) (x40_2 : Int), v3 = .int .i64 x3_2 ∧ v40 = .int .i64 x40_2 ∧ zA (items_Check.l0 kq x3_2 l0_0 (l0_0.length : Int) x40_2 l0_0 l0_1 = some r) ∧ zA (kq ≤ kj1) ∧ zA (w'.heap[gb216]? = some (.cells #[(.slice A0_0 l0_0.length c0_0), (.slice A0_1 l0_1.length c0_1)] 60 (0, 0))) ∧ zA (Below w.heap.size w w'))
  case atStart => exact ⟨(0), (0), aZ, aZ, H', ⟨Nat.le_refl _⟩, ⟨aB BK216⟩, ⟨aL HB⟩⟩
  clear H'; obtain ⟨x3_2, x40_2, rfl, rfl, HA, HK2, BK216, HB⟩ := hrel; cases gk with
  | zero => exact absurd HA.out (by simp [items_Check.l0])
  | succ k2 =>
   have H := HA.out; clear HA; simp only [items_Check.l0] at H; by_cases c16 : x40_2 < (l0_0.length : Int)
   rotate_left
   ·rw [if_neg c16] at H
    have c16b0 : decide (x40_2 < (l0_0.length : Int)) = false := decide_eq_false c16
    clear c16; obtain rfl := Option.some.inj H
    go_wp2
    go_ret
    exact ⟨aX, aL HB⟩
   rw [if_pos c16] at H; have c16b0 : decide (x40_2 < (l0_0.length : Int)) = true := decide_eq_true c16
   clear c16; by_cases c17 : 0 ≤ x40_2
   rotate_left
   ·rw [if_neg c17] at H
    exact absurd H (by simp)
   rw [if_pos c17] at H; have c17b0 : decide (0 ≤ x40_2) = true := decide_eq_true c17
   clear c17; by_cases c18 : x40_2 < (l0_0.length : Int)
   rotate_left
   ·rw [if_neg c18] at H
    exact absurd H (by simp)
   rw [if_pos c18] at H; have c18b0 : decide (x40_2 < (l0_0.length : Int)) = true := decide_eq_true c18
   clear c18; by_cases c19 : ((rd_T48 l0_0 x40_2).f0) = x3_2
   rotate_left
   ·rw [if_neg c19] at H
    have c19b0 : (((rd_T48 l0_0 x40_2).f0) == x3_2) = false := beq_eq_false_iff_ne.mpr c19
    have c19b1 : (((rd_T48 l0_0 x40_2).f0) != x3_2) = true := bne_iff_ne.mpr c19
    obtain rfl := Option.some.inj H
    have p219 : 0 ≤ (x40_2 : Int) := aD
    have q219 : x40_2 < (l0_0.length : Int) := aD
    obtain ⟨ad219, e219, hx219_0, hx219_1, hx219_2, hx219_3⟩ := at_T48 HR0_0.out x40_2 p219 q219; cases e219
    replace hx219_0 := (HB.out.cell (World.block_lt_of_cell? w _ hx219_0)).trans hx219_0; replace hx219_1 := (HB.out.cell (World.block_lt_of_cell? w _ hx219_1)).trans hx219_1; replace hx219_2 := (HB.out.cell (World.block_lt_of_cell? w _ hx219_2)).trans hx219_2; replace hx219_3 := (HB.out.cell (World.block_lt_of_cell? w _ hx219_3)).trans hx219_3; replace p219 := eq_true p219; replace q219 := eq_true q219; go_wp2_with (first | ((with_reducible refine gate_dst (N := 5) rfl ?_); (try (refine gate_guard (by rfl) ?_; dsimp only)); refine box_event ?hg (N := 5) ?hd (cs := #[.int .i64 0, .int .i64 0, .int .i64 0, .int .u8 0]) (t := 48) ?hr ?_; (case hd => rfl); (case hg => rfl); (case hr => first | (go_simp; done) | (go_simp; rfl)); intro gb220 hg w64 hbox hb; have BK220 := zA.mk (hbox); have GW220 := zA.mk ((by rw [hg]; exact (below_size (aL HB)) : w.heap.size ≤ gb220)); replace HB := zA.mk (below_step (aL HB) hb); have GE220 := GW220; have NB216_220 := zA.mk ((by rw [hg]; exact Nat.ne_of_lt (blk_lt (aB BK216)) : gb216 ≠ gb220)); have NB220_216 := zA.mk ((by rw [hg]; exact Nat.ne_of_gt (blk_lt (g := gb216) (o := .cells #[.slice (some ad219) l0_0.length c0_0, .slice A0_1 l0_1.length c0_1] 60 (0, 0)) (aB BK216)) : gb220 ≠ gb216)); replace BK216 := zA.mk (zF (aB BK216) hb); clear hb hbox hg; have hnb65 := NB220_216.out; have hnc65 := NB216_220.out; obtain ⟨hcz66_0, hcz66_1, hcz66_2, hcz66_3, hfz66_0, hfz66_1, hfz66_2, hfz66_3⟩ := aC4 BK220) | ((with_reducible refine gate_store (t := 48) (p := 5) rfl ?_); refine store_event (t := 48) (p := 5) (v := ?vo_w67) (w1 := ((((w64.setCell ⟨gb220, 0, none⟩ (.int .i64 ((rd_T48 l0_0 x40_2).f0))).setCell ⟨gb220, 1, none⟩ (.int .i64 ((rd_T48 l0_0 x40_2).f1))).setCell ⟨gb220, 2, none⟩ (.int .i64 ((rd_T48 l0_0 x40_2).f2))).setCell ⟨gb220, 3, none⟩ (.int .u8 ((rd_T48 l0_0 x40_2).f3)))) ?hg ?ho ?hn ?hr ?_; (case ho => rfl); (case hg => rfl); (case hn => rfl); (case hr => first | (go_simp; done) | (go_simp; rfl)); intro w67 hw; have n0_ : zA (w67.heap[gb216]? = some (.cells #[.slice (some ad219) l0_0.length c0_0, .slice A0_1 l0_1.length c0_1] 60 (0, 0))) := ⟨(by rw [hw]; exact (aB BK216))⟩; have n1_ : zA (w67.heap[gb220]? = some (.cells #[.int .i64 ((rd_T48 l0_0 x40_2).f0), .int .i64 ((rd_T48 l0_0 x40_2).f1), .int .i64 ((rd_T48 l0_0 x40_2).f2), .int .u8 ((rd_T48 l0_0 x40_2).f3)] 48 (0, 0))) := ⟨(by rw [hw]; exact (by (with_reducible repeat (first | refine zE ?_ _ | refine zD ?_ | refine zB ?_ _)); refine blk_put (cs := #[.int .i64 ((rd_T48 l0_0 x40_2).f0), .int .i64 ((rd_T48 l0_0 x40_2).f1), .int .i64 ((rd_T48 l0_0 x40_2).f2), .int .u8 0]) ?_ 3 _ rfl; (with_reducible repeat (first | refine zE ?_ _ | refine zD ?_ | refine zB ?_ _)); refine blk_put (cs := #[.int .i64 ((rd_T48 l0_0 x40_2).f0), .int .i64 ((rd_T48 l0_0 x40_2).f1), .int .i64 0, .int .u8 0]) ?_ 2 _ rfl; (with_reducible repeat (first | refine zE ?_ _ | refine zD ?_ | refine zB ?_ _)); refine blk_put (cs := #[.int .i64 ((rd_T48 l0_0 x40_2).f0), .int .i64 0, .int .i64 0, .int .u8 0]) ?_ 1 _ rfl; (with_reducible repeat (first | refine zE ?_ _ | refine zD ?_ | refine zB ?_ _)); refine blk_put (cs := #[.int .i64 0, .int .i64 0, .int .i64 0, .int .u8 0]) ?_ 0 _ rfl; (with_reducible repeat (first | refine zE ?_ _ | refine zD ?_ | refine zB ?_ _)); exact BK220.out))⟩; have n2_ : zA (Below w.heap.size w w67) := ⟨(by rw [hw]; exact (aL HB))⟩; clear hw; clear BK216; clear BK220; clear HB; have BK216 := n0_; have BK220 := n1_; have HB := n2_; clear n0_ n1_ n2_; obtain ⟨hcz68_0, hcz68_1, hcz68_2, hcz68_3, hfz68_0, hfz68_1, hfz68_2, hfz68_3⟩ := aC4 BK220))
    go_ret
    exact ⟨aX, aL HB⟩
   rw [if_pos c19] at H; have c19b0 : (((rd_T48 l0_0 x40_2).f0) == x3_2) = true := beq_iff_eq.mpr c19
   have c19b1 : (((rd_T48 l0_0 x40_2).f0) != x3_2) = false := bne_eq_false_iff_eq.mpr c19
   clear c19; by_cases c20 : ((rd_T48 l0_0 x40_2).f1) < 1
   ·rw [if_pos c20] at H
    have c20b0 : decide (((rd_T48 l0_0 x40_2).f1) < 1) = true := decide_eq_true c20
    clear c20; obtain rfl := Option.some.inj H
    have p219 : 0 ≤ (x40_2 : Int) := aD
    have q219 : x40_2 < (l0_0.length : Int) := aD
    obtain ⟨ad219, e219, hx219_0, hx219_1, hx219_2, hx219_3⟩ := at_T48 HR0_0.out x40_2 p219 q219; cases e219
    replace hx219_0 := (HB.out.cell (World.block_lt_of_cell? w _ hx219_0)).trans hx219_0; replace hx219_1 := (HB.out.cell (World.block_lt_of_cell? w _ hx219_1)).trans hx219_1; replace hx219_2 := (HB.out.cell (World.block_lt_of_cell? w _ hx219_2)).trans hx219_2; replace hx219_3 := (HB.out.cell (World.block_lt_of_cell? w _ hx219_3)).trans hx219_3; replace p219 := eq_true p219; replace q219 := eq_true q219; go_wp2_with (first | ((with_reducible refine gate_dst (N := 5) rfl ?_); (try (refine gate_guard (by rfl) ?_; dsimp only)); refine box_event ?hg (N := 5) ?hd (cs := #[.int .i64 0, .int .i64 0, .int .i64 0, .int .u8 0]) (t := 48) ?hr ?_; (case hd => rfl); (case hg => rfl); (case hr => first | (go_simp; done) | (go_simp; rfl)); intro gb220 hg w21 hbox hb; have BK220 := zA.mk (hbox); have GW220 := zA.mk ((by rw [hg]; exact (below_size (aL HB)) : w.heap.size ≤ gb220)); replace HB := zA.mk (below_step (aL HB) hb); have GE220 := GW220; have NB216_220 := zA.mk ((by rw [hg]; exact Nat.ne_of_lt (blk_lt (aB BK216)) : gb216 ≠ gb220)); have NB220_216 := zA.mk ((by rw [hg]; exact Nat.ne_of_gt (blk_lt (g := gb216) (o := .cells #[.slice (some ad219) l0_0.length c0_0, .slice A0_1 l0_1.length c0_1] 60 (0, 0)) (aB BK216)) : gb220 ≠ gb216)); replace BK216 := zA.mk (zF (aB BK216) hb); clear hb hbox hg; have hnb22 := NB220_216.out; have hnc22 := NB216_220.out; obtain ⟨hcz23_0, hcz23_1, hcz23_2, hcz23_3, hfz23_0, hfz23_1, hfz23_2, hfz23_3⟩ := aC4 BK220) | ((with_reducible refine gate_store (t := 48) (p := 5) rfl ?_); refine store_event (t := 48) (p := 5) (v := ?vo_w24) (w1 := ((((w21.setCell ⟨gb220, 0, none⟩ (.int .i64 ((rd_T48 l0_0 x40_2).f0))).setCell ⟨gb220, 1, none⟩ (.int .i64 ((rd_T48 l0_0 x40_2).f1))).setCell ⟨gb220, 2, none⟩ (.int .i64 ((rd_T48 l0_0 x40_2).f2))).setCell ⟨gb220, 3, none⟩ (.int .u8 ((rd_T48 l0_0 x40_2).f3)))) ?hg ?ho ?hn ?hr ?_; (case ho => rfl); (case hg => rfl); (case hn => rfl); (case hr => first | (go_simp; done) | (go_simp; rfl)); intro w24 hw; have n0_ : zA (w24.heap[gb216]? = some (.cells #[.slice (some ad219) l0_0.length c0_0, .slice A0_1 l0_1.length c0_1] 60 (0, 0))) := ⟨(by rw [hw]; exact (aB BK216))⟩; have n1_ : zA (w24.heap[gb220]? = some (.cells #[.int .i64 ((rd_T48 l0_0 x40_2).f0), .int .i64 ((rd_T48 l0_0 x40_2).f1), .int .i64 ((rd_T48 l0_0 x40_2).f2), .int .u8 ((rd_T48 l0_0 x40_2).f3)] 48 (0, 0))) := ⟨(by rw [hw]; exact (by (with_reducible repeat (first | refine zE ?_ _ | refine zD ?_ | refine zB ?_ _)); refine blk_put (cs := #[.int .i64 ((rd_T48 l0_0 x40_2).f0), .int .i64 ((rd_T48 l0_0 x40_2).f1), .int .i64 ((rd_T48 l0_0 x40_2).f2), .int .u8 0]) ?_ 3 _ rfl; (with_reducible repeat (first | refine zE ?_ _ | refine zD ?_ | refine zB ?_ _)); refine blk_put (cs := #[.int .i64 ((rd_T48 l0_0 x40_2).f0), .int .i64 ((rd_T48 l0_0 x40_2).f1), .int .i64 0, .int .u8 0]) ?_ 2 _ rfl; (with_reducible repeat (first | refine zE ?_ _ | refine zD ?_ | refine zB ?_ _)); refine blk_put (cs := #[.int .i64 ((rd_T48 l0_0 x40_2).f0), .int .i64 0, .int .i64 0, .int .u8 0]) ?_ 1 _ rfl; (with_reducible repeat (first | refine zE ?_ _ | refine zD ?_ | refine zB ?_ _)); refine blk_put (cs := #[.int .i64 0, .int .i64 0, .int .i64 0, .int .u8 0]) ?_ 0 _ rfl; (with_reducible repeat (first | refine zE ?_ _ | refine zD ?_ | refine zB ?_ _)); exact BK220.out))⟩; have n2_ : zA (Below w.heap.size w w24) := ⟨(by rw [hw]; exact (aL HB))⟩; clear hw; clear BK216; clear BK220; clear HB; have BK216 := n0_; have BK220 := n1_; have HB := n2_; clear n0_ n1_ n2_; obtain ⟨hcz25_0, hcz25_1, hcz25_2, hcz25_3, hfz25_0, hfz25_1, hfz25_2, hfz25_3⟩ := aC4 BK220))
    go_ret
    exact ⟨aX, aL HB⟩
   rw [if_neg c20] at H; have c20b0 : decide (((rd_T48 l0_0 x40_2).f1) < 1) = false := decide_eq_false c20
   clear c20; by_cases c26 : ((rd_T48 l0_0 x40_2).f1) > (wrap64 (4096 - x3_2))
   ·rw [if_pos c26] at H
    have c26b0 : decide ((wrap64 (4096 - x3_2)) < ((rd_T48 l0_0 x40_2).f1)) = true := decide_eq_true c26
    clear c26; obtain rfl := Option.some.inj H
    have p219 : 0 ≤ (x40_2 : Int) := aD
    have q219 : x40_2 < (l0_0.length : Int) := aD
    obtain ⟨ad219, e219, hx219_0, hx219_1, hx219_2, hx219_3⟩ := at_T48 HR0_0.out x40_2 p219 q219; cases e219
    replace hx219_0 := (HB.out.cell (World.block_lt_of_cell? w _ hx219_0)).trans hx219_0; replace hx219_1 := (HB.out.cell (World.block_lt_of_cell? w _ hx219_1)).trans hx219_1; replace hx219_2 := (HB.out.cell (World.block_lt_of_cell? w _ hx219_2)).trans hx219_2; replace hx219_3 := (HB.out.cell (World.block_lt_of_cell? w _ hx219_3)).trans hx219_3; replace p219 := eq_true p219; replace q219 := eq_true q219; go_wp2_with (first | ((with_reducible refine gate_dst (N := 5) rfl ?_); (try (refine gate_guard (by rfl) ?_; dsimp only)); refine box_event ?hg (N := 5) ?hd (cs := #[.int .i64 0, .int .i64 0, .int .i64 0, .int .u8 0]) (t := 48) ?hr ?_; (case hd => rfl); (case hg => rfl); (case hr => first | (go_simp; done) | (go_simp; rfl)); intro gb220 hg w27 hbox hb; have BK220 := zA.mk (hbox); have GW220 := zA.mk ((by rw [hg]; exact (below_size (aL HB)) : w.heap.size ≤ gb220)); replace HB := zA.mk (below_step (aL HB) hb); have GE220 := GW220; have NB216_220 := zA.mk ((by rw [hg]; exact Nat.ne_of_lt (blk_lt (aB BK216)) : gb216 ≠ gb220)); have NB220_216 := zA.mk ((by rw [hg]; exact Nat.ne_of_gt (blk_lt (g := gb216) (o := .cells #[.slice (some ad219) l0_0.length c0_0, .slice A0_1 l0_1.length c0_1] 60 (0, 0)) (aB BK216)) : gb220 ≠ gb216)); replace BK216 := zA.mk (zF (aB BK216) hb); clear hb hbox hg; have hnb28 := NB220_216.out; have hnc28 := NB216_220.out; obtain ⟨hcz29_0, hcz29_1, hcz29_2, hcz29_3, hfz29_0, hfz29_1, hfz29_2, hfz29_3⟩ := aC4 BK220) | ((with_reducible refine gate_store (t := 48) (p := 5) rfl ?_); refine store_event (t := 48) (p := 5) (v := ?vo_w30) (w1 := ((((w27.setCell ⟨gb220, 0, none⟩ (.int .i64 ((rd_T48 l0_0 x40_2).f0))).setCell ⟨gb220, 1, none⟩ (.int .i64 ((rd_T48 l0_0 x40_2).f1))).setCell ⟨gb220, 2, none⟩ (.int .i64 ((rd_T48 l0_0 x40_2).f2))).setCell ⟨gb220, 3, none⟩ (.int .u8 ((rd_T48 l0_0 x40_2).f3)))) ?hg ?ho ?hn ?hr ?_; (case ho => rfl); (case hg => rfl); (case hn => rfl); (case hr => first | (go_simp; done) | (go_simp; rfl)); intro w30 hw; have n0_ : zA (w30.heap[gb216]? = some (.cells #[.slice (some ad219) l0_0.length c0_0, .slice A0_1 l0_1.length c0_1] 60 (0, 0))) := ⟨(by rw [hw]; exact (aB BK216))⟩; have n1_ : zA (w30.heap[gb220]? = some (.cells #[.int .i64 ((rd_T48 l0_0 x40_2).f0), .int .i64 ((rd_T48 l0_0 x40_2).f1), .int .i64 ((rd_T48 l0_0 x40_2).f2), .int .u8 ((rd_T48 l0_0 x40_2).f3)] 48 (0, 0))) := ⟨(by rw [hw]; exact (by (with_reducible repeat (first | refine zE ?_ _ | refine zD ?_ | refine zB ?_ _)); refine blk_put (cs := #[.int .i64 ((rd_T48 l0_0 x40_2).f0), .int .i64 ((rd_T48 l0_0 x40_2).f1), .int .i64 ((rd_T48 l0_0 x40_2).f2), .int .u8 0]) ?_ 3 _ rfl; (with_reducible repeat (first | refine zE ?_ _ | refine zD ?_ | refine zB ?_ _)); refine blk_put (cs := #[.int .i64 ((rd_T48 l0_0 x40_2).f0), .int .i64 ((rd_T48 l0_0 x40_2).f1), .int .i64 0, .int .u8 0]) ?_ 2 _ rfl; (with_reducible repeat (first | refine zE ?_ _ | refine zD ?_ | refine zB ?_ _)); refine blk_put (cs := #[.int .i64 ((rd_T48 l0_0 x40_2).f0), .int .i64 0, .int .i64 0, .int .u8 0]) ?_ 1 _ rfl; (with_reducible repeat (first | refine zE ?_ _ | refine zD ?_ | refine zB ?_ _)); refine blk_put (cs := #[.int .i64 0, .int .i64 0, .int .i64 0, .int .u8 0]) ?_ 0 _ rfl; (with_reducible repeat (first | refine zE ?_ _ | refine zD ?_ | refine zB ?_ _)); exact BK220.out))⟩; have n2_ : zA (Below w.heap.size w w30) := ⟨(by rw [hw]; exact (aL HB))⟩; clear hw; clear BK216; clear BK220; clear HB; have BK216 := n0_; have BK220 := n1_; have HB := n2_; clear n0_ n1_ n2_; obtain ⟨hcz31_0, hcz31_1, hcz31_2, hcz31_3, hfz31_0, hfz31_1, hfz31_2, hfz31_3⟩ := aC4 BK220))
    go_ret
    exact ⟨aX, aL HB⟩
   rw [if_neg c26] at H; have c26b0 : decide ((wrap64 (4096 - x3_2)) < ((rd_T48 l0_0 x40_2).f1)) = false := decide_eq_false c26
   clear c26; by_cases c32 : ((rd_T48 l0_0 x40_2).f2) < 0
   ·rw [if_pos c32] at H
    have c32b0 : decide (((rd_T48 l0_0 x40_2).f2) < 0) = true := decide_eq_true c32
    clear c32; obtain rfl := Option.some.inj H
    have p219 : 0 ≤ (x40_2 : Int) := aD
    have q219 : x40_2 < (l0_0.length : Int) := aD
    obtain ⟨ad219, e219, hx219_0, hx219_1, hx219_2, hx219_3⟩ := at_T48 HR0_0.out x40_2 p219 q219; cases e219
    replace hx219_0 := (HB.out.cell (World.block_lt_of_cell? w _ hx219_0)).trans hx219_0; replace hx219_1 := (HB.out.cell (World.block_lt_of_cell? w _ hx219_1)).trans hx219_1; replace hx219_2 := (HB.out.cell (World.block_lt_of_cell? w _ hx219_2)).trans hx219_2; replace hx219_3 := (HB.out.cell (World.block_lt_of_cell? w _ hx219_3)).trans hx219_3; replace p219 := eq_true p219; replace q219 := eq_true q219; go_wp2_with (first | ((with_reducible refine gate_dst (N := 5) rfl ?_); (try (refine gate_guard (by rfl) ?_; dsimp only)); refine box_event ?hg (N := 5) ?hd (cs := #[.int .i64 0, .int .i64 0, .int .i64 0, .int .u8 0]) (t := 48) ?hr ?_; (case hd => rfl); (case hg => rfl); (case hr => first | (go_simp; done) | (go_simp; rfl)); intro gb220 hg w33 hbox hb; have BK220 := zA.mk (hbox); have GW220 := zA.mk ((by rw [hg]; exact (below_size (aL HB)) : w.heap.size ≤ gb220)); replace HB := zA.mk (below_step (aL HB) hb); have GE220 := GW220; have NB216_220 := zA.mk ((by rw [hg]; exact Nat.ne_of_lt (blk_lt (aB BK216)) : gb216 ≠ gb220)); have NB220_216 := zA.mk ((by rw [hg]; exact Nat.ne_of_gt (blk_lt (g := gb216) (o := .cells #[.slice (some ad219) l0_0.length c0_0, .slice A0_1 l0_1.length c0_1] 60 (0, 0)) (aB BK216)) : gb220 ≠ gb216)); replace BK216 := zA.mk (zF (aB BK216) hb); clear hb hbox hg; have hnb34 := NB220_216.out; have hnc34 := NB216_220.out; obtain ⟨hcz35_0, hcz35_1, hcz35_2, hcz35_3, hfz35_0, hfz35_1, hfz35_2, hfz35_3⟩ := aC4 BK220) | ((with_reducible refine gate_store (t := 48) (p := 5) rfl ?_); refine store_event (t := 48) (p := 5) (v := ?vo_w36) (w1 := ((((w33.setCell ⟨gb220, 0, none⟩ (.int .i64 ((rd_T48 l0_0 x40_2).f0))).setCell ⟨gb220, 1, none⟩ (.int .i64 ((rd_T48 l0_0 x40_2).f1))).setCell ⟨gb220, 2, none⟩ (.int .i64 ((rd_T48 l0_0 x40_2).f2))).setCell ⟨gb220, 3, none⟩ (.int .u8 ((rd_T48 l0_0 x40_2).f3)))) ?hg ?ho ?hn ?hr ?_; (case ho => rfl); (case hg => rfl); (case hn => rfl); (case hr => first | (go_simp; done) | (go_simp; rfl)); intro w36 hw; have n0_ : zA (w36.heap[gb216]? = some (.cells #[.slice (some ad219) l0_0.length c0_0, .slice A0_1 l0_1.length c0_1] 60 (0, 0))) := ⟨(by rw [hw]; exact (aB BK216))⟩; have n1_ : zA (w36.heap[gb220]? = some (.cells #[.int .i64 ((rd_T48 l0_0 x40_2).f0), .int .i64 ((rd_T48 l0_0 x40_2).f1), .int .i64 ((rd_T48 l0_0 x40_2).f2), .int .u8 ((rd_T48 l0_0 x40_2).f3)] 48 (0, 0))) := ⟨(by rw [hw]; exact (by (with_reducible repeat (first | refine zE ?_ _ | refine zD ?_ | refine zB ?_ _)); refine blk_put (cs := #[.int .i64 ((rd_T48 l0_0 x40_2).f0), .int .i64 ((rd_T48 l0_0 x40_2).f1), .int .i64 ((rd_T48 l0_0 x40_2).f2), .int .u8 0]) ?_ 3 _ rfl; (with_reducible repeat (first | refine zE ?_ _ | refine zD ?_ | refine zB ?_ _)); refine blk_put (cs := #[.int .i64 ((rd_T48 l0_0 x40_2).f0), .int .i64 ((rd_T48 l0_0 x40_2).f1), .int .i64 0, .int .u8 0]) ?_ 2 _ rfl; (with_reducible repeat (first | refine zE ?_ _ | refine zD ?_ | refine zB ?_ _)); refine blk_put (cs := #[.int .i64 ((rd_T48 l0_0 x40_2).f0), .int .i64 0, .int .i64 0, .int .u8 0]) ?_ 1 _ rfl; (with_reducible repeat (first | refine zE ?_ _ | refine zD ?_ | refine zB ?_ _)); refine blk_put (cs := #[.int .i64 0, .int .i64 0, .int .i64 0, .int .u8 0]) ?_ 0 _ rfl; (with_reducible repeat (first | refine zE ?_ _ | refine zD ?_ | refine zB ?_ _)); exact BK220.out))⟩; have n2_ : zA (Below w.heap.size w w36) := ⟨(by rw [hw]; exact (aL HB))⟩; clear hw; clear BK216; clear BK220; clear HB; have BK216 := n0_; have BK220 := n1_; have HB := n2_; clear n0_ n1_ n2_; obtain ⟨hcz37_0, hcz37_1, hcz37_2, hcz37_3, hfz37_0, hfz37_1, hfz37_2, hfz37_3⟩ := aC4 BK220))
    go_ret
    exact ⟨aX, aL HB⟩
   rw [if_neg c32] at H; have c32b0 : decide (((rd_T48 l0_0 x40_2).f2) < 0) = false := decide_eq_false c32
   clear c32; by_cases c38 : ((rd_T48 l0_0 x40_2).f2) > 2
   ·rw [if_pos c38] at H
    have c38b0 : decide (2 < ((rd_T48 l0_0 x40_2).f2)) = true := decide_eq_true c38
    clear c38; obtain rfl := Option.some.inj H
    have p219 : 0 ≤ (x40_2 : Int) := aD
    have q219 : x40_2 < (l0_0.length : Int) := aD
    obtain ⟨ad219, e219, hx219_0, hx219_1, hx219_2, hx219_3⟩ := at_T48 HR0_0.out x40_2 p219 q219; cases e219
    replace hx219_0 := (HB.out.cell (World.block_lt_of_cell? w _ hx219_0)).trans hx219_0; replace hx219_1 := (HB.out.cell (World.block_lt_of_cell? w _ hx219_1)).trans hx219_1; replace hx219_2 := (HB.out.cell (World.block_lt_of_cell? w _ hx219_2)).trans hx219_2; replace hx219_3 := (HB.out.cell (World.block_lt_of_cell? w _ hx219_3)).trans hx219_3; replace p219 := eq_true p219; replace q219 := eq_true q219; go_wp2_with (first | ((with_reducible refine gate_dst (N := 5) rfl ?_); (try (refine gate_guard (by rfl) ?_; dsimp only)); refine box_event ?hg (N := 5) ?hd (cs := #[.int .i64 0, .int .i64 0, .int .i64 0, .int .u8 0]) (t := 48) ?hr ?_; (case hd => rfl); (case hg => rfl); (case hr => first | (go_simp; done) | (go_simp; rfl)); intro gb220 hg w39 hbox hb; have BK220 := zA.mk (hbox); have GW220 := zA.mk ((by rw [hg]; exact (below_size (aL HB)) : w.heap.size ≤ gb220)); replace HB := zA.mk (below_step (aL HB) hb); have GE220 := GW220; have NB216_220 := zA.mk ((by rw [hg]; exact Nat.ne_of_lt (blk_lt (aB BK216)) : gb216 ≠ gb220)); have NB220_216 := zA.mk ((by rw [hg]; exact Nat.ne_of_gt (blk_lt (g := gb216) (o := .cells #[.slice (some ad219) l0_0.length c0_0, .slice A0_1 l0_1.length c0_1] 60 (0, 0)) (aB BK216)) : gb220 ≠ gb216)); replace BK216 := zA.mk (zF (aB BK216) hb); clear hb hbox hg; have hnb40 := NB220_216.out; have hnc40 := NB216_220.out; obtain ⟨hcz41_0, hcz41_1, hcz41_2, hcz41_3, hfz41_0, hfz41_1, hfz41_2, hfz41_3⟩ := aC4 BK220) | ((with_reducible refine gate_store (t := 48) (p := 5) rfl ?_); refine store_event (t := 48) (p := 5) (v := ?vo_w42) (w1 := ((((w39.setCell ⟨gb220, 0, none⟩ (.int .i64 ((rd_T48 l0_0 x40_2).f0))).setCell ⟨gb220, 1, none⟩ (.int .i64 ((rd_T48 l0_0 x40_2).f1))).setCell ⟨gb220, 2, none⟩ (.int .i64 ((rd_T48 l0_0 x40_2).f2))).setCell ⟨gb220, 3, none⟩ (.int .u8 ((rd_T48 l0_0 x40_2).f3)))) ?hg ?ho ?hn ?hr ?_; (case ho => rfl); (case hg => rfl); (case hn => rfl); (case hr => first | (go_simp; done) | (go_simp; rfl)); intro w42 hw; have n0_ : zA (w42.heap[gb216]? = some (.cells #[.slice (some ad219) l0_0.length c0_0, .slice A0_1 l0_1.length c0_1] 60 (0, 0))) := ⟨(by rw [hw]; exact (aB BK216))⟩; have n1_ : zA (w42.heap[gb220]? = some (.cells #[.int .i64 ((rd_T48 l0_0 x40_2).f0), .int .i64 ((rd_T48 l0_0 x40_2).f1), .int .i64 ((rd_T48 l0_0 x40_2).f2), .int .u8 ((rd_T48 l0_0 x40_2).f3)] 48 (0, 0))) := ⟨(by rw [hw]; exact (by (with_reducible repeat (first | refine zE ?_ _ | refine zD ?_ | refine zB ?_ _)); refine blk_put (cs := #[.int .i64 ((rd_T48 l0_0 x40_2).f0), .int .i64 ((rd_T48 l0_0 x40_2).f1), .int .i64 ((rd_T48 l0_0 x40_2).f2), .int .u8 0]) ?_ 3 _ rfl; (with_reducible repeat (first | refine zE ?_ _ | refine zD ?_ | refine zB ?_ _)); refine blk_put (cs := #[.int .i64 ((rd_T48 l0_0 x40_2).f0), .int .i64 ((rd_T48 l0_0 x40_2).f1), .int .i64 0, .int .u8 0]) ?_ 2 _ rfl; (with_reducible repeat (first | refine zE ?_ _ | refine zD ?_ | refine zB ?_ _)); refine blk_put (cs := #[.int .i64 ((rd_T48 l0_0 x40_2).f0), .int .i64 0, .int .i64 0, .int .u8 0]) ?_ 1 _ rfl; (with_reducible repeat (first | refine zE ?_ _ | refine zD ?_ | refine zB ?_ _)); refine blk_put (cs := #[.int .i64 0, .int .i64 0, .int .i64 0, .int .u8 0]) ?_ 0 _ rfl; (with_reducible repeat (first | refine zE ?_ _ | refine zD ?_ | refine zB ?_ _)); exact BK220.out))⟩; have n2_ : zA (Below w.heap.size w w42) := ⟨(by rw [hw]; exact (aL HB))⟩; clear hw; clear BK216; clear BK220; clear HB; have BK216 := n0_; have BK220 := n1_; have HB := n2_; clear n0_ n1_ n2_; obtain ⟨hcz43_0, hcz43_1, hcz43_2, hcz43_3, hfz43_0, hfz43_1, hfz43_2, hfz43_3⟩ := aC4 BK220))
    go_ret
    exact ⟨aX, aL HB⟩
   rw [if_neg c38] at H; have c38b0 : decide (2 < ((rd_T48 l0_0 x40_2).f2)) = false := decide_eq_false c38
   clear c38; by_cases c44 : ((rd_T48 l0_0 x40_2).f3) > 2
   ·rw [if_pos c44] at H
    have c44b0 : decide (2 < ((rd_T48 l0_0 x40_2).f3)) = true := decide_eq_true c44
    clear c44; obtain rfl := Option.some.inj H
    have p219 : 0 ≤ (x40_2 : Int) := aD
    have q219 : x40_2 < (l0_0.length : Int) := aD
    obtain ⟨ad219, e219, hx219_0, hx219_1, hx219_2, hx219_3⟩ := at_T48 HR0_0.out x40_2 p219 q219; cases e219
    replace hx219_0 := (HB.out.cell (World.block_lt_of_cell? w _ hx219_0)).trans hx219_0; replace hx219_1 := (HB.out.cell (World.block_lt_of_cell? w _ hx219_1)).trans hx219_1; replace hx219_2 := (HB.out.cell (World.block_lt_of_cell? w _ hx219_2)).trans hx219_2; replace hx219_3 := (HB.out.cell (World.block_lt_of_cell? w _ hx219_3)).trans hx219_3; replace p219 := eq_true p219; replace q219 := eq_true q219; go_wp2_with (first | ((with_reducible refine gate_dst (N := 5) rfl ?_); (try (refine gate_guard (by rfl) ?_; dsimp only)); refine box_event ?hg (N := 5) ?hd (cs := #[.int .i64 0, .int .i64 0, .int .i64 0, .int .u8 0]) (t := 48) ?hr ?_; (case hd => rfl); (case hg => rfl); (case hr => first | (go_simp; done) | (go_simp; rfl)); intro gb220 hg w45 hbox hb; have BK220 := zA.mk (hbox); have GW220 := zA.mk ((by rw [hg]; exact (below_size (aL HB)) : w.heap.size ≤ gb220)); replace HB := zA.mk (below_step (aL HB) hb); have GE220 := GW220; have NB216_220 := zA.mk ((by rw [hg]; exact Nat.ne_of_lt (blk_lt (aB BK216)) : gb216 ≠ gb220)); have NB220_216 := zA.mk ((by rw [hg]; exact Nat.ne_of_gt (blk_lt (g := gb216) (o := .cells #[.slice (some ad219) l0_0.length c0_0, .slice A0_1 l0_1.length c0_1] 60 (0, 0)) (aB BK216)) : gb220 ≠ gb216)); replace BK216 := zA.mk (zF (aB BK216) hb); clear hb hbox hg; have hnb46 := NB220_216.out; have hnc46 := NB216_220.out; obtain ⟨hcz47_0, hcz47_1, hcz47_2, hcz47_3, hfz47_0, hfz47_1, hfz47_2, hfz47_3⟩ := aC4 BK220) | ((with_reducible refine gate_store (t := 48) (p := 5) rfl ?_); refine store_event (t := 48) (p := 5) (v := ?vo_w48) (w1 := ((((w45.setCell ⟨gb220, 0, none⟩ (.int .i64 ((rd_T48 l0_0 x40_2).f0))).setCell ⟨gb220, 1, none⟩ (.int .i64 ((rd_T48 l0_0 x40_2).f1))).setCell ⟨gb220, 2, none⟩ (.int .i64 ((rd_T48 l0_0 x40_2).f2))).setCell ⟨gb220, 3, none⟩ (.int .u8 ((rd_T48 l0_0 x40_2).f3)))) ?hg ?ho ?hn ?hr ?_; (case ho => rfl); (case hg => rfl); (case hn => rfl); (case hr => first | (go_simp; done) | (go_simp; rfl)); intro w48 hw; have n0_ : zA (w48.heap[gb216]? = some (.cells #[.slice (some ad219) l0_0.length c0_0, .slice A0_1 l0_1.length c0_1] 60 (0, 0))) := ⟨(by rw [hw]; exact (aB BK216))⟩; have n1_ : zA (w48.heap[gb220]? = some (.cells #[.int .i64 ((rd_T48 l0_0 x40_2).f0), .int .i64 ((rd_T48 l0_0 x40_2).f1), .int .i64 ((rd_T48 l0_0 x40_2).f2), .int .u8 ((rd_T48 l0_0 x40_2).f3)] 48 (0, 0))) := ⟨(by rw [hw]; exact (by (with_reducible repeat (first | refine zE ?_ _ | refine zD ?_ | refine zB ?_ _)); refine blk_put (cs := #[.int .i64 ((rd_T48 l0_0 x40_2).f0), .int .i64 ((rd_T48 l0_0 x40_2).f1), .int .i64 ((rd_T48 l0_0 x40_2).f2), .int .u8 0]) ?_ 3 _ rfl; (with_reducible repeat (first | refine zE ?_ _ | refine zD ?_ | refine zB ?_ _)); refine blk_put (cs := #[.int .i64 ((rd_T48 l0_0 x40_2).f0), .int .i64 ((rd_T48 l0_0 x40_2).f1), .int .i64 0, .int .u8 0]) ?_ 2 _ rfl; (with_reducible repeat (first | refine zE ?_ _ | refine zD ?_ | refine zB ?_ _)); refine blk_put (cs := #[.int .i64 ((rd_T48 l0_0 x40_2).f0), .int .i64 0, .int .i64 0, .int .u8 0]) ?_ 1 _ rfl; (with_reducible repeat (first | refine zE ?_ _ | refine zD ?_ | refine zB ?_ _)); refine blk_put (cs := #[.int .i64 0, .int .i64 0, .int .i64 0, .int .u8 0]) ?_ 0 _ rfl; (with_reducible repeat (first | refine zE ?_ _ | refine zD ?_ | refine zB ?_ _)); exact BK220.out))⟩; have n2_ : zA (Below w.heap.size w w48) := ⟨(by rw [hw]; exact (aL HB))⟩; clear hw; clear BK216; clear BK220; clear HB; have BK216 := n0_; have BK220 := n1_; have HB := n2_; clear n0_ n1_ n2_; obtain ⟨hcz49_0, hcz49_1, hcz49_2, hcz49_3, hfz49_0, hfz49_1, hfz49_2, hfz49_3⟩ := aC4 BK220))
    go_ret
    exact ⟨aX, aL HB⟩
   rw [if_neg c44] at H; have c44b0 : decide (2 < ((rd_T48 l0_0 x40_2).f3)) = false := decide_eq_false c44
   clear c44; by_cases c50 : x40_2 < (l0_1.length : Int)
   rotate_left
   ·rw [if_neg c50] at H
    exact absurd H (by simp)
   rw [if_pos c50] at H; have c50b0 : decide (x40_2 < (l0_1.length : Int)) = true := decide_eq_true c50
   clear c50; by_cases c51 : (rd l0_1 x40_2) > 3
   ·rw [if_pos c51] at H
    have c51b0 : decide (3 < (rd l0_1 x40_2)) = true := decide_eq_true c51
    clear c51; obtain rfl := Option.some.inj H
    have p219 : 0 ≤ (x40_2 : Int) := aD
    have q219 : x40_2 < (l0_0.length : Int) := aD
    obtain ⟨ad219, e219, hx219_0, hx219_1, hx219_2, hx219_3⟩ := at_T48 HR0_0.out x40_2 p219 q219; cases e219
    replace hx219_0 := (HB.out.cell (World.block_lt_of_cell? w _ hx219_0)).trans hx219_0; replace hx219_1 := (HB.out.cell (World.block_lt_of_cell? w _ hx219_1)).trans hx219_1; replace hx219_2 := (HB.out.cell (World.block_lt_of_cell? w _ hx219_2)).trans hx219_2; replace hx219_3 := (HB.out.cell (World.block_lt_of_cell? w _ hx219_3)).trans hx219_3; replace p219 := eq_true p219; replace q219 := eq_true q219; go_wp2_with (first | ((with_reducible refine gate_dst (N := 5) rfl ?_); (try (refine gate_guard (by rfl) ?_; dsimp only)); refine box_event ?hg (N := 5) ?hd (cs := #[.int .i64 0, .int .i64 0, .int .i64 0, .int .u8 0]) (t := 48) ?hr ?_; (case hd => rfl); (case hg => rfl); (case hr => first | (go_simp; done) | (go_simp; rfl)); intro gb220 hg w52 hbox hb; have BK220 := zA.mk (hbox); have GW220 := zA.mk ((by rw [hg]; exact (below_size (aL HB)) : w.heap.size ≤ gb220)); replace HB := zA.mk (below_step (aL HB) hb); have GE220 := GW220; have NB216_220 := zA.mk ((by rw [hg]; exact Nat.ne_of_lt (blk_lt (aB BK216)) : gb216 ≠ gb220)); have NB220_216 := zA.mk ((by rw [hg]; exact Nat.ne_of_gt (blk_lt (g := gb216) (o := .cells #[.slice (some ad219) l0_0.length c0_0, .slice A0_1 l0_1.length c0_1] 60 (0, 0)) (aB BK216)) : gb220 ≠ gb216)); replace BK216 := zA.mk (zF (aB BK216) hb); clear hb hbox hg; have hnb53 := NB220_216.out; have hnc53 := NB216_220.out; obtain ⟨hcz54_0, hcz54_1, hcz54_2, hcz54_3, hfz54_0, hfz54_1, hfz54_2, hfz54_3⟩ := aC4 BK220) | ((with_reducible refine gate_store (t := 48) (p := 5) rfl ?_); refine store_event (t := 48) (p := 5) (v := ?vo_w55) (w1 := ((((w52.setCell ⟨gb220, 0, none⟩ (.int .i64 ((rd_T48 l0_0 x40_2).f0))).setCell ⟨gb220, 1, none⟩ (.int .i64 ((rd_T48 l0_0 x40_2).f1))).setCell ⟨gb220, 2, none⟩ (.int .i64 ((rd_T48 l0_0 x40_2).f2))).setCell ⟨gb220, 3, none⟩ (.int .u8 ((rd_T48 l0_0 x40_2).f3)))) ?hg ?ho ?hn ?hr ?_; (case ho => rfl); (case hg => rfl); (case hn => rfl); (case hr => first | (go_simp; done) | (go_simp; rfl)); intro w55 hw; have n0_ : zA (w55.heap[gb216]? = some (.cells #[.slice (some ad219) l0_0.length c0_0, .slice A0_1 l0_1.length c0_1] 60 (0, 0))) := ⟨(by rw [hw]; exact (aB BK216))⟩; have n1_ : zA (w55.heap[gb220]? = some (.cells #[.int .i64 ((rd_T48 l0_0 x40_2).f0), .int .i64 ((rd_T48 l0_0 x40_2).f1), .int .i64 ((rd_T48 l0_0 x40_2).f2), .int .u8 ((rd_T48 l0_0 x40_2).f3)] 48 (0, 0))) := ⟨(by rw [hw]; exact (by (with_reducible repeat (first | refine zE ?_ _ | refine zD ?_ | refine zB ?_ _)); refine blk_put (cs := #[.int .i64 ((rd_T48 l0_0 x40_2).f0), .int .i64 ((rd_T48 l0_0 x40_2).f1), .int .i64 ((rd_T48 l0_0 x40_2).f2), .int .u8 0]) ?_ 3 _ rfl; (with_reducible repeat (first | refine zE ?_ _ | refine zD ?_ | refine zB ?_ _)); refine blk_put (cs := #[.int .i64 ((rd_T48 l0_0 x40_2).f0), .int .i64 ((rd_T48 l0_0 x40_2).f1), .int .i64 0, .int .u8 0]) ?_ 2 _ rfl; (with_reducible repeat (first | refine zE ?_ _ | refine zD ?_ | refine zB ?_ _)); refine blk_put (cs := #[.int .i64 ((rd_T48 l0_0 x40_2).f0), .int .i64 0, .int .i64 0, .int .u8 0]) ?_ 1 _ rfl; (with_reducible repeat (first | refine zE ?_ _ | refine zD ?_ | refine zB ?_ _)); refine blk_put (cs := #[.int .i64 0, .int .i64 0, .int .i64 0, .int .u8 0]) ?_ 0 _ rfl; (with_reducible repeat (first | refine zE ?_ _ | refine zD ?_ | refine zB ?_ _)); exact BK220.out))⟩; have n2_ : zA (Below w.heap.size w w55) := ⟨(by rw [hw]; exact (aL HB))⟩; clear hw; clear BK216; clear BK220; clear HB; have BK216 := n0_; have BK220 := n1_; have HB := n2_; clear n0_ n1_ n2_; obtain ⟨hcz56_0, hcz56_1, hcz56_2, hcz56_3, hfz56_0, hfz56_1, hfz56_2, hfz56_3⟩ := aC4 BK220; obtain ⟨hcz57_0, hcz57_1, hfz57_0, hfz57_1⟩ := aC2 BK216; have p221 : 0 ≤ (x40_2 : Int) := aD; have q221 : x40_2 < (l0_1.length : Int) := aD; obtain ⟨ad221, e221, hx221_0⟩ := Kd.at_int HR0_1.out x40_2 p221 q221; cases e221; replace hx221_0 := (HB.out.cell (World.block_lt_of_cell? w _ hx221_0)).trans hx221_0; replace p221 := eq_true p221; replace q221 := eq_true q221))
    go_ret
    exact ⟨aX, aL HB⟩
   rw [if_neg c51] at H; have c51b0 : decide (3 < (rd l0_1 x40_2)) = false := decide_eq_false c51
   clear c51; have H' := zA.mk H
   clear H; have p219 : 0 ≤ (x40_2 : Int) := aD
   have q219 : x40_2 < (l0_0.length : Int) := aD
   obtain ⟨ad219, e219, hx219_0, hx219_1, hx219_2, hx219_3⟩ := at_T48 HR0_0.out x40_2 p219 q219; cases e219
   replace hx219_0 := (HB.out.cell (World.block_lt_of_cell? w _ hx219_0)).trans hx219_0; replace hx219_1 := (HB.out.cell (World.block_lt_of_cell? w _ hx219_1)).trans hx219_1; replace hx219_2 := (HB.out.cell (World.block_lt_of_cell? w _ hx219_2)).trans hx219_2; replace hx219_3 := (HB.out.cell (World.block_lt_of_cell? w _ hx219_3)).trans hx219_3; replace p219 := eq_true p219; replace q219 := eq_true q219; go_wp2_with (first | ((with_reducible refine gate_dst (N := 5) rfl ?_); (try (refine gate_guard (by rfl) ?_; dsimp only)); refine box_event ?hg (N := 5) ?hd (cs := #[.int .i64 0, .int .i64 0, .int .i64 0, .int .u8 0]) (t := 48) ?hr ?_; (case hd => rfl); (case hg => rfl); (case hr => first | (go_simp; done) | (go_simp; rfl)); intro gb220 hg w58 hbox hb; have BK220 := zA.mk (hbox); have GW220 := zA.mk ((by rw [hg]; exact (below_size (aL HB)) : w.heap.size ≤ gb220)); replace HB := zA.mk (below_step (aL HB) hb); have GE220 := GW220; have NB216_220 := zA.mk ((by rw [hg]; exact Nat.ne_of_lt (blk_lt (aB BK216)) : gb216 ≠ gb220)); have NB220_216 := zA.mk ((by rw [hg]; exact Nat.ne_of_gt (blk_lt (g := gb216) (o := .cells #[.slice (some ad219) l0_0.length c0_0, .slice A0_1 l0_1.length c0_1] 60 (0, 0)) (aB BK216)) : gb220 ≠ gb216)); replace BK216 := zA.mk (zF (aB BK216) hb); clear hb hbox hg; have hnb59 := NB220_216.out; have hnc59 := NB216_220.out; obtain ⟨hcz60_0, hcz60_1, hcz60_2, hcz60_3, hfz60_0, hfz60_1, hfz60_2, hfz60_3⟩ := aC4 BK220) | ((with_reducible refine gate_store (t := 48) (p := 5) rfl ?_); refine store_event (t := 48) (p := 5) (v := ?vo_w61) (w1 := ((((w58.setCell ⟨gb220, 0, none⟩ (.int .i64 ((rd_T48 l0_0 x40_2).f0))).setCell ⟨gb220, 1, none⟩ (.int .i64 ((rd_T48 l0_0 x40_2).f1))).setCell ⟨gb220, 2, none⟩ (.int .i64 ((rd_T48 l0_0 x40_2).f2))).setCell ⟨gb220, 3, none⟩ (.int .u8 ((rd_T48 l0_0 x40_2).f3)))) ?hg ?ho ?hn ?hr ?_; (case ho => rfl); (case hg => rfl); (case hn => rfl); (case hr => first | (go_simp; done) | (go_simp; rfl)); intro w61 hw; have n0_ : zA (w61.heap[gb216]? = some (.cells #[.slice (some ad219) l0_0.length c0_0, .slice A0_1 l0_1.length c0_1] 60 (0, 0))) := ⟨(by rw [hw]; exact (aB BK216))⟩; have n1_ : zA (w61.heap[gb220]? = some (.cells #[.int .i64 ((rd_T48 l0_0 x40_2).f0), .int .i64 ((rd_T48 l0_0 x40_2).f1), .int .i64 ((rd_T48 l0_0 x40_2).f2), .int .u8 ((rd_T48 l0_0 x40_2).f3)] 48 (0, 0))) := ⟨(by rw [hw]; exact (by (with_reducible repeat (first | refine zE ?_ _ | refine zD ?_ | refine zB ?_ _)); refine blk_put (cs := #[.int .i64 ((rd_T48 l0_0 x40_2).f0), .int .i64 ((rd_T48 l0_0 x40_2).f1), .int .i64 ((rd_T48 l0_0 x40_2).f2), .int .u8 0]) ?_ 3 _ rfl; (with_reducible repeat (first | refine zE ?_ _ | refine zD ?_ | refine zB ?_ _)); refine blk_put (cs := #[.int .i64 ((rd_T48 l0_0 x40_2).f0), .int .i64 ((rd_T48 l0_0 x40_2).f1), .int .i64 0, .int .u8 0]) ?_ 2 _ rfl; (with_reducible repeat (first | refine zE ?_ _ | refine zD ?_ | refine zB ?_ _)); refine blk_put (cs := #[.int .i64 ((rd_T48 l0_0 x40_2).f0), .int .i64 0, .int .i64 0, .int .u8 0]) ?_ 1 _ rfl; (with_reducible repeat (first | refine zE ?_ _ | refine zD ?_ | refine zB ?_ _)); refine blk_put (cs := #[.int .i64 0, .int .i64 0, .int .i64 0, .int .u8 0]) ?_ 0 _ rfl; (with_reducible repeat (first | refine zE ?_ _ | refine zD ?_ | refine zB ?_ _)); exact BK220.out))⟩; have n2_ : zA (Below w.heap.size w w61) := ⟨(by rw [hw]; exact (aL HB))⟩; clear hw; clear BK216; clear BK220; clear HB; have BK216 := n0_; have BK220 := n1_; have HB := n2_; clear n0_ n1_ n2_; obtain ⟨hcz62_0, hcz62_1, hcz62_2, hcz62_3, hfz62_0, hfz62_1, hfz62_2, hfz62_3⟩ := aC4 BK220; obtain ⟨hcz63_0, hcz63_1, hfz63_0, hfz63_1⟩ := aC2 BK216; have p221 : 0 ≤ (x40_2 : Int) := aD; have q221 : x40_2 < (l0_1.length : Int) := aD; obtain ⟨ad221, e221, hx221_0⟩ := Kd.at_int HR0_1.out x40_2 p221 q221; cases e221; replace hx221_0 := (HB.out.cell (World.block_lt_of_cell? w _ hx221_0)).trans hx221_0; replace p221 := eq_true p221; replace q221 := eq_true q221))
   go_roundg k2
   case measure => have := HJ1.out; have := HK2.out; omega
   case rel => exact ⟨(wrap64 (x3_2 + ((rd_T48 l0_0 x40_2).f1))), (wrap64 (x40_2 + 1)), aZ, aZ, H', ⟨by have := HJ1.out; have := HK2.out; omega⟩, ⟨aB BK216⟩, ⟨aL HB⟩⟩
def items_Parts.l0 : Nat → List Int → List Int → Int → Int → Option (List Int)
 | 0, _, _, _, _ => none
 | k + 1, x3, x7, x8, x9 => if x9 < x8 then (if 0 ≤ x9 then (if x9 < (x7.length : Int) then (if (rd x7 x9) = 2 then (if x3.length < 17592186044416 then (items_Parts.l0 k (x3 ++ [x9]) x7 x8 (wrap64 (x9 + 1))) else (none)) else (items_Parts.l0 k x3 x7 x8 (wrap64 (x9 + 1)))) else (none)) else (none)) else (some x3)
def items_Parts.f (k : Nat) (l0_0 : List (S48)) (l0_1 : List Int) : Option (List Int) := items_Parts.l0 k ([] : List Int) l0_1 (l0_1.length : Int) 0
theorem items_Parts.mono_l : ∀ k, (∀ y0 y1 y2 y3, LeO (items_Parts.l0 k y0 y1 y2 y3) (items_Parts.l0 (k + 1) y0 y1 y2 y3))
 | 0 => fun _ _ _ _ r h => by simp [items_Parts.l0] at h
 | k + 1 => by
  have ih0 := items_Parts.mono_l k
  ·intro y0 y1 y2 y3
   unfold items_Parts.l0
   repeat' (with_reducible first | exact ih0 _ _ _ _ | exact LeO.refl _ | exact LeO.none _ | refine LeO.ite ?_ ?_ | refine LeO.bind ?_ (fun _ => ?_))
theorem items_Parts.mono : ∀ a0 a1 k, LeO (items_Parts.f k a0 a1) (items_Parts.f (k + 1) a0 a1) := by
 intro a0 a1 k
 have ih0 := items_Parts.mono_l k; unfold items_Parts.f
 repeat' (with_reducible first | exact ih0 _ _ _ _ | exact LeO.refl _ | exact LeO.none _ | refine LeO.ite ?_ ?_ | refine LeO.bind ?_ (fun _ => ?_))
set_option maxHeartbeats 8000000 in
set_option maxRecDepth 100000 in
theorem items_Parts.calls (k : Nat) (A0_0 : Option Addr) (c0_0 : Nat) (l0_0 : List (S48)) (A0_1 : Option Addr) (c0_1 : Nat) (l0_1 : List Int) (r : List Int) (w : World) (hr0_0 : Kd.C k48 w A0_0 l0_0.length l0_0) (hc0_0 : l0_0.length ≤ c0_0) (hr0_1 : Kd.C (Kd.int .u8) w A0_1 l0_1.length l0_1) (hc0_1 : l0_1.length ≤ c0_1) (h : items_Parts.f k l0_0 l0_1 = some r) :
  Calls Try.prog 30 #[.agg #[.slice A0_0 l0_0.length c0_0, .slice A0_1 l0_1.length c0_1]] w fun e w' => ∃ v0_ : Value, e = .returned (v0_) ∧ Kd.R (Kd.int .i64) 3 w' w.heap.size (fun _ => True) v0_ r ∧ Below w.heap.size w w' := by
 have hu60 := Try.underlying60; have HR0_0 := zA.mk hr0_0; have HC0_0 := zA.mk hc0_0; clear hr0_0 hc0_0; have HR0_1 := zA.mk hr0_1; have HC0_1 := zA.mk hc0_1; clear hr0_1 hc0_1; have HB := zA.mk (Below.refl w.heap.size w); have H : (items_Parts.l0 k ([] : List Int) l0_1 (l0_1.length : Int) 0) = some r := h
 clear h; have H' := zA.mk H
 clear H; go_enter Try.func30, Try.ntmps30
 go_wp2_with (first | ((with_reducible refine gate_dst (N := 1) rfl ?_); refine box_event ?hg (N := 1) ?hd (cs := #[.slice A0_0 l0_0.length c0_0, .slice A0_1 l0_1.length c0_1]) (t := 60) ?hr ?_; (case hd => rfl); (case hg => rfl); (case hr => first | (go_simp; done) | (go_simp; rfl)); intro gb222 hg w2 hbox hb; have BK222 := zA.mk (hbox); have GW222 := zA.mk ((by rw [hg]; exact (below_size (aL HB)) : w.heap.size ≤ gb222)); replace HB := zA.mk (below_step (aL HB) hb); have GE222 := GW222; clear hb hbox hg; obtain ⟨hcz3_0, hcz3_1, hfz3_0, hfz3_1⟩ := aC2 BK222))
 go_loopg [3, 9] k (fun kq v3 v9 w' => ∃ (x3_1 : List Int) (x9_1 : Int), v9 = .int .i64 x9_1 ∧ zA (items_Parts.l0 kq x3_1 l0_1 (l0_1.length : Int) x9_1 = some r) ∧ zA (kq ≤ k) ∧ zA (Kd.R (Kd.int .i64) 3 w' w.heap.size (fun _ => True) v3 x3_1) ∧ zA (w'.heap[gb222]? = some (.cells #[(.slice A0_0 l0_0.length c0_0), (.slice A0_1 l0_1.length c0_1)] 60 (0, 0))) ∧ zA (Below w.heap.size w w'))
 case atStart => exact ⟨(([] : List Int)), (0), aZ, H', ⟨Nat.le_refl _⟩, ⟨by first | exact Kd.R_nil _ _ _ _ _ | exact Kd.N_nil _ _ _ _ _ | exact Kd.V_nil _ _ _ _ _ | exact Kd.Q_nil _ _ _ _ _ | exact Kd.S_nil _ _ _ _ _⟩, ⟨aB BK222⟩, ⟨aL HB⟩⟩
 clear H'; obtain ⟨x3_1, x9_1, rfl, HA, HK1, HO_3, BK222, HB⟩ := hrel; cases gk with
 | zero => exact absurd HA.out (by simp [items_Parts.l0])
 | succ k1 =>
  have H := HA.out; clear HA; simp only [items_Parts.l0] at H; by_cases c4 : x9_1 < (l0_1.length : Int)
  rotate_left
  ·rw [if_neg c4] at H
   have c4b0 : decide (x9_1 < (l0_1.length : Int)) = false := decide_eq_false c4
   clear c4; obtain rfl := Option.some.inj H
   go_wp2
   go_ret
   exact ⟨_, aX, aR HO_3, aL HB⟩
  rw [if_pos c4] at H; have c4b0 : decide (x9_1 < (l0_1.length : Int)) = true := decide_eq_true c4
  clear c4; by_cases c5 : 0 ≤ x9_1
  rotate_left
  ·rw [if_neg c5] at H
   exact absurd H (by simp)
  rw [if_pos c5] at H; have c5b0 : decide (0 ≤ x9_1) = true := decide_eq_true c5
  clear c5; by_cases c6 : x9_1 < (l0_1.length : Int)
  rotate_left
  ·rw [if_neg c6] at H
   exact absurd H (by simp)
  rw [if_pos c6] at H; have c6b0 : decide (x9_1 < (l0_1.length : Int)) = true := decide_eq_true c6
  clear c6; by_cases c7 : (rd l0_1 x9_1) = 2
  rotate_left
  ·rw [if_neg c7] at H
   have c7b0 : ((rd l0_1 x9_1) == 2) = false := beq_eq_false_iff_ne.mpr c7
   have c7b1 : ((rd l0_1 x9_1) != 2) = true := bne_iff_ne.mpr c7
   have H' := zA.mk H
   clear H; have p223 : 0 ≤ (x9_1 : Int) := aD
   have q223 : x9_1 < (l0_1.length : Int) := aD
   obtain ⟨ad223, e223, hx223_0⟩ := Kd.at_int HR0_1.out x9_1 p223 q223; cases e223
   replace hx223_0 := (HB.out.cell (World.block_lt_of_cell? w _ hx223_0)).trans hx223_0; replace p223 := eq_true p223; replace q223 := eq_true q223; go_wp2
   go_roundg k1
   case measure => have := HK1.out; omega
   case rel => exact ⟨(x3_1), (wrap64 (x9_1 + 1)), aZ, H', ⟨by have := HK1.out; omega⟩, ⟨aR HO_3⟩, ⟨aB BK222⟩, ⟨aL HB⟩⟩
  rw [if_pos c7] at H; have c7b0 : ((rd l0_1 x9_1) == 2) = true := beq_iff_eq.mpr c7
  have c7b1 : ((rd l0_1 x9_1) != 2) = false := bne_eq_false_iff_eq.mpr c7
  clear c7; by_cases c8 : x3_1.length < 17592186044416
  rotate_left
  ·rw [if_neg c8] at H
   exact absurd H (by simp)
  rw [if_pos c8] at H; have LMc8 := zA.mk c8; clear c8; obtain ⟨y224, hy224⟩ : ∃ y_ : List Int, y_ = (x3_1 ++ [x9_1]) := ⟨_, rfl⟩; replace H : (items_Parts.l0 k1 y224 l0_1 (l0_1.length : Int) (wrap64 (x9_1 + 1))) = some r := by first | (rw [hy224]; with_reducible exact H) | (have H2_ := (Option.bind_some _ _).symm.trans H; rw [hy224]; with_reducible exact H2_) | (have H2_ := (Option.bind_some _ _).symm.trans H; with_reducible exact H2_) | with_reducible exact H | (rw [hy224]; exact H) | exact H
  have Ny224 := zA.mk hy224; clear hy224; have H' := zA.mk H
  clear H; have p223 : 0 ≤ (x9_1 : Int) := aD
  have q223 : x9_1 < (l0_1.length : Int) := aD
  obtain ⟨ad223, e223, hx223_0⟩ := Kd.at_int HR0_1.out x9_1 p223 q223; cases e223
  replace hx223_0 := (HB.out.cell (World.block_lt_of_cell? w _ hx223_0)).trans hx223_0; replace p223 := eq_true p223; replace q223 := eq_true q223; go_wp2_with (first | ((with_reducible refine gate_builtin (b := .append) (xs := #[.tmp 16, .tmp 18]) rfl ?_); at_builtin; refine Kd.R_append (Kd.int .i64) (w0 := w) w.heap.size rfl (.tmp 16) (.tmp 18) 35 3 (.int .i64 0) 8 rfl Try.underlying35 info3 rfl (by decide) (by omega) u3 x3_1 x9_1 [.int .i64 x9_1] (fun _ => True) (fun _ => False) rfl rfl ?aP (fun _ hk => hk.elim) ?aF ?aO ?aB ?aS ?aL ?_; (case aP => exact rfl); (case aB => exact (aL HB)); (case aF => exact (fun _ _ => trivial)); (case aO => exact (aR HO_3)); (case aS => exact (below_size (aL HB))); (case aL => have := LMc8.out; omega); intro v225 w9 ho hb hg hat; rw [← Ny224.out] at ho; replace BK222 := zA.mk (blk_grown (g := gb222) (o := .cells #[.slice A0_0 l0_0.length c0_0, .slice (some ad223) l0_1.length c0_1] 60 (0, 0)) (aB BK222) hg (Kd.R_ne HO_3.out BK222.out (by decide))); replace HB := zA.mk (hb); have HO226 := zA.mk (ho); clear HO_3; clear ho hb hg hat))
  go_roundg k1
  case measure => have := HK1.out; omega
  case rel => exact ⟨(y224), (wrap64 (x9_1 + 1)), aZ, H', ⟨by have := HK1.out; omega⟩, ⟨aR HO226⟩, ⟨aB BK222⟩, ⟨aL HB⟩⟩
end Go.Proofs.Ytigajcipjklknaa.F
end
