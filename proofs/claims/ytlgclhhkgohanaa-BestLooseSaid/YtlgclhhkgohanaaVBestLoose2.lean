/- Printed by a program: Lean functions that answer as the Go functions do, and the proofs of it. -/
import Derived.Test.YtlgclhhkgohanaaVBestLoose0
import Derived.Test.YtlgclhhkgohanaaVBestLoose1
section
namespace Go.Proofs.Ytlgclhhkgohanaa.F
open Go.RowKit Go.Proofs.YtlgclhhkgohanaaW.PrintWords Go.Proofs.YtlgclhhkgohanaaW.PrintLast Go.Proofs.YtlgclhhkgohanaaW.PrintMore
attribute [local go_sem] max2_int min2_int max_two min_two max_three min_three max_four min_four   -- for this text's walks alone
set_option linter.unusedVariables false
set_option linter.unusedSimpArgs false
mutual
def best_Break.l0 : Nat → Int → Int → List (S65) → Int → List (S62) → List Int → Int → Int → Int → Int → Int → Nat → Option ((List (S48)) × Bool)
  | 0, _, _, _, _, _, _, _, _, _, _, _, _ => none
  | k + 1, x1, x2, x10, x11, x151000, x151001, x152000, x152001, x152002, x152003, x152004, x152005 => if x11 ≥ x1 then (if 0 ≤ (wrap64 (x11 - x1)) then (if (wrap64 (x11 - x1)) < (x10.length : Int) then ((some (x10.set ((wrap64 (x11 - x1)) : Int).toNat (⟨0, (-1)⟩ : S65) : List (S65))).bind fun y155 => (if x11 = x1 then ((best_next.f k x151000 x151001 x11 x1 x2 y155 x152000 x152001 x152002 x152003 x152004 x152005).bind fun bt156 => (best_Break.l0 k x1 x2 (y155.set ((wrap64 (x11 - x1)) : Int).toNat (⟨bt156.1, bt156.2⟩ : S65)) (wrap64 (x11 - 1)) x151000 x151001 x152000 x152001 x152002 x152003 x152004 x152005)) else (if 0 ≤ x11 then (if x11 < (x151001.length : Int) then (if (rd x151001 x11) = 0 then (best_Break.l0 k x1 x2 y155 (wrap64 (x11 - 1)) x151000 x151001 x152000 x152001 x152002 x152003 x152004 x152005) else ((best_next.f k x151000 x151001 x11 x1 x2 y155 x152000 x152001 x152002 x152003 x152004 x152005).bind fun bt160 => (best_Break.l0 k x1 x2 (y155.set ((wrap64 (x11 - x1)) : Int).toNat (⟨bt160.1, bt160.2⟩ : S65)) (wrap64 (x11 - 1)) x151000 x151001 x152000 x152001 x152002 x152003 x152004 x152005))) else (none)) else (none)))) else (none)) else (none)) else (if 0 < (x10.length : Int) then (if ((rd_T65 x10 0).f1) < 0 then (some (([] : List (S48)), false)) else (best_Break.l1 k x1 x2 x10 ([] : List (S48)) x1 x151000 x151001 x152000 x152001 x152002 x152003 x152004 x152005)) else (none))
def best_Break.l1 : Nat → Int → Int → List (S65) → List (S48) → Int → List (S62) → List Int → Int → Int → Int → Int → Int → Nat → Option ((List (S48)) × Bool)
  | 0, _, _, _, _, _, _, _, _, _, _, _, _, _ => none
  | k + 1, x1, x2, x10, x12, x13, x151000, x151001, x152000, x152001, x152002, x152003, x152004, x152005 => if x13 < x2 then (if 0 ≤ (wrap64 (x13 - x1)) then (if (wrap64 (x13 - x1)) < (x10.length : Int) then (if 0 ≤ ((rd_T65 x10 (wrap64 (x13 - x1))).f1) then (if ((rd_T65 x10 (wrap64 (x13 - x1))).f1) < (x151001.length : Int) then ((span_Make.f k x151000 x151001 x13 ((rd_T65 x10 (wrap64 (x13 - x1))).f1) (rd x151001 ((rd_T65 x10 (wrap64 (x13 - x1))).f1)) x152001).bind fun bt166 => (if x12.length < 4398046511104 then (best_Break.l1 k x1 x2 x10 (x12 ++ [(⟨bt166.1, bt166.2.1, bt166.2.2.1, bt166.2.2.2⟩ : S48)]) ((rd_T65 x10 (wrap64 (x13 - x1))).f1) x151000 x151001 x152000 x152001 x152002 x152003 x152004 x152005) else (none))) else (none)) else (none)) else (none)) else (none)) else (some (x12, true))
end
def best_Break.f (k : Nat) (l0_0 : List (S62)) (l0_1 : List Int) (a1 : Int) (a2 : Int) (a3_0 : Int) (a3_1 : Int) (a3_2 : Int) (a3_3 : Int) (a3_4 : Int) (a3_5 : Nat) : Option ((List (S48)) × Bool) := if a1 ≥ a2 then (some (([] : List (S48)), true)) else (if 0 ≤ (wrap64 ((wrap64 (a2 - a1)) + 1)) then (if (wrap64 ((wrap64 (a2 - a1)) + 1) : Int).toNat ≤ 17592186044416 then (best_Break.l0 k a1 a2 (List.replicate (wrap64 ((wrap64 (a2 - a1)) + 1) : Int).toNat z65) (wrap64 (a2 - 1)) l0_0 l0_1 a3_0 a3_1 a3_2 a3_3 a3_4 a3_5) else (none)) else (none))
theorem best_Break.mono_l : ∀ k, (∀ y0 y1 y2 y3 y4 y5 y6 y7 y8 y9 y10 y11, LeO (best_Break.l0 k y0 y1 y2 y3 y4 y5 y6 y7 y8 y9 y10 y11) (best_Break.l0 (k + 1) y0 y1 y2 y3 y4 y5 y6 y7 y8 y9 y10 y11)) ∧ (∀ y0 y1 y2 y3 y4 y5 y6 y7 y8 y9 y10 y11 y12, LeO (best_Break.l1 k y0 y1 y2 y3 y4 y5 y6 y7 y8 y9 y10 y11 y12) (best_Break.l1 (k + 1) y0 y1 y2 y3 y4 y5 y6 y7 y8 y9 y10 y11 y12))
  | 0 => ⟨fun _ _ _ _ _ _ _ _ _ _ _ _ r h => by simp [best_Break.l0] at h, fun _ _ _ _ _ _ _ _ _ _ _ _ _ r h => by simp [best_Break.l1] at h⟩
  | k + 1 => by
    obtain ⟨ih0, ih1⟩ := best_Break.mono_l k; refine ⟨?_, ?_⟩
    · intro y0 y1 y2 y3 y4 y5 y6 y7 y8 y9 y10 y11
      unfold best_Break.l0
      repeat' first
      | (with_reducible exact ih0 _ _ _ _ _ _ _ _ _ _ _ _)
      | (with_reducible exact ih1 _ _ _ _ _ _ _ _ _ _ _ _ _)
      | (with_reducible exact best_next.mono _ _ _ _ _ _ _ _ _ _ _ _ _)
      | (with_reducible exact span_Make.mono _ _ _ _ _ _ _)
      | (with_reducible exact LeO.refl _)
      | (with_reducible exact LeO.none _)
      | (with_reducible refine LeO.ite ?_ ?_)
      | (with_reducible refine LeO.bind ?_ (fun _ => ?_))
      | exact ih0 _ _ _ _ _ _ _ _ _ _ _ _
      | exact ih1 _ _ _ _ _ _ _ _ _ _ _ _ _
      | exact best_next.mono _ _ _ _ _ _ _ _ _ _ _ _ _
      | exact span_Make.mono _ _ _ _ _ _ _
      | exact LeO.none _
      | refine LeO.ite ?_ ?_
      | refine LeO.bind ?_ (fun _ => ?_)
    · intro y0 y1 y2 y3 y4 y5 y6 y7 y8 y9 y10 y11 y12
      unfold best_Break.l1
      repeat' first
      | (with_reducible exact ih0 _ _ _ _ _ _ _ _ _ _ _ _)
      | (with_reducible exact ih1 _ _ _ _ _ _ _ _ _ _ _ _ _)
      | (with_reducible exact best_next.mono _ _ _ _ _ _ _ _ _ _ _ _ _)
      | (with_reducible exact span_Make.mono _ _ _ _ _ _ _)
      | (with_reducible exact LeO.refl _)
      | (with_reducible exact LeO.none _)
      | (with_reducible refine LeO.ite ?_ ?_)
      | (with_reducible refine LeO.bind ?_ (fun _ => ?_))
      | exact ih0 _ _ _ _ _ _ _ _ _ _ _ _
      | exact ih1 _ _ _ _ _ _ _ _ _ _ _ _ _
      | exact best_next.mono _ _ _ _ _ _ _ _ _ _ _ _ _
      | exact span_Make.mono _ _ _ _ _ _ _
      | exact LeO.none _
      | refine LeO.ite ?_ ?_
      | refine LeO.bind ?_ (fun _ => ?_)
theorem best_Break.mono : ∀ a0 a1 a2 a3 a4 a5 a6 a7 a8 a9 k, LeO (best_Break.f k a0 a1 a2 a3 a4 a5 a6 a7 a8 a9) (best_Break.f (k + 1) a0 a1 a2 a3 a4 a5 a6 a7 a8 a9) := by
  intro a0 a1 a2 a3 a4 a5 a6 a7 a8 a9 k
  obtain ⟨ih0, ih1⟩ := best_Break.mono_l k; unfold best_Break.f
  repeat' first
      | (with_reducible exact ih0 _ _ _ _ _ _ _ _ _ _ _ _)
      | (with_reducible exact ih1 _ _ _ _ _ _ _ _ _ _ _ _ _)
      | (with_reducible exact best_next.mono _ _ _ _ _ _ _ _ _ _ _ _ _)
      | (with_reducible exact span_Make.mono _ _ _ _ _ _ _)
      | (with_reducible exact LeO.refl _)
      | (with_reducible exact LeO.none _)
      | (with_reducible refine LeO.ite ?_ ?_)
      | (with_reducible refine LeO.bind ?_ (fun _ => ?_))
      | exact ih0 _ _ _ _ _ _ _ _ _ _ _ _
      | exact ih1 _ _ _ _ _ _ _ _ _ _ _ _ _
      | exact best_next.mono _ _ _ _ _ _ _ _ _ _ _ _ _
      | exact span_Make.mono _ _ _ _ _ _ _
      | exact LeO.none _
      | refine LeO.ite ?_ ?_
      | refine LeO.bind ?_ (fun _ => ?_)
def best_Break.T16 : Bool × List (List Nat × List Nat) := (true, [([], []), ([], []), ([], []), ([], []), ([], []), ([4], [4]), ([], []), ([5, 6], [5, 6]), ([7], [7]), ([], []), ([9], [9]), ([1, 2, 3, 8, 10], [1, 2, 3, 8, 10]), ([11], [11]), ([0, 12, 11], [0, 12]), ([13, 13, 0, 1, 2, 3, 4, 5, 6, 7, 8, 9, 10, 11, 12, 13], [0, 13])])
def best_Break.B16 : List Nat := [0, 0, 0, 0, 0, 16, 0, 112, 240, 0, 512, 2046, 4094, 8191, 16383]
theorem best_Break.tab16 : rtab .any (opsOf Try.f14 16) = best_Break.T16 := by kernel_rfl
theorem best_Break.bits16 : waitsOk best_Break.T16.2 best_Break.B16 = true := by kernel_rfl
set_option maxHeartbeats 8000000 in
set_option maxRecDepth 100000 in
theorem best_Break.calls (k : Nat) (A0_0 : Option Addr) (c0_0 : Nat) (l0_0 : List (S62)) (A0_1 : Option Addr) (c0_1 : Nat) (l0_1 : List Int) (a1 : Int) (a2 : Int) (a3_0 : Int) (a3_1 : Int) (a3_2 : Int) (a3_3 : Int) (a3_4 : Int) (a3_5 : Nat) (r1 : List (S48)) (r2 : Bool) (w : World) (hr0_0 : Kd.C k62 w A0_0 l0_0.length l0_0) (hc0_0 : l0_0.length ≤ c0_0) (hr0_1 : Kd.C (Kd.int .u8) w A0_1 l0_1.length l0_1) (hc0_1 : l0_1.length ≤ c0_1) (h : best_Break.f k l0_0 l0_1 a1 a2 a3_0 a3_1 a3_2 a3_3 a3_4 a3_5 = some (r1, r2)) :
    Calls Try.prog 14 #[.agg #[.slice A0_0 l0_0.length c0_0, .slice A0_1 l0_1.length c0_1], .int .i64 a1, .int .i64 a2, .agg #[.int .i64 a3_0, .int .i64 a3_1, .int .u8 a3_2, .int .i64 a3_3, .int .i64 a3_4, .float .f64 a3_5]] w fun e w' => ∃ v0_ : Value, e = .returned (.tuple #[v0_, .bool r2]) ∧ Kd.R k48 48 w' w.heap.size (fun _ => True) v0_ r1 ∧ Below w.heap.size w w' := by
  have hu31 := Try.underlying31; have hu35 := Try.underlying35; have hu65 := Try.underlying65; have HR0_0 := zD.mk hr0_0; have HC0_0 := zD.mk hc0_0; clear hr0_0 hc0_0; have HR0_1 := zD.mk hr0_1; have HC0_1 := zD.mk hc0_1; clear hr0_1 hc0_1; have HB := zD.mk (Below.refl w.heap.size w); have H : (if a1 ≥ a2 then (some (([] : List (S48)), true)) else (if 0 ≤ (wrap64 ((wrap64 (a2 - a1)) + 1)) then (if (wrap64 ((wrap64 (a2 - a1)) + 1) : Int).toNat ≤ 17592186044416 then (best_Break.l0 k a1 a2 (List.replicate (wrap64 ((wrap64 (a2 - a1)) + 1) : Int).toNat z65) (wrap64 (a2 - 1)) l0_0 l0_1 a3_0 a3_1 a3_2 a3_3 a3_4 a3_5) else (none)) else (none))) = some (r1, r2) := h
  clear h; by_cases c5 : a1 ≥ a2
  · rw [if_pos c5] at H
    have c5b0 : decide (a2 ≤ a1) = true := decide_eq_true c5
    clear c5; simp only [Option.some.injEq, Prod.mk.injEq] at H; obtain ⟨rfl, rfl⟩ := H; go_enter Try.func14, Try.ntmps14
    go_wp2_with (first | ((with_reducible refine gate_dst (N := 4) rfl ?_); refine box_event ?hg (N := 4) ?hd (cs := #[.slice A0_0 l0_0.length c0_0, .slice A0_1 l0_1.length c0_1]) (t := 31) ?hr ?_; (case hd => rfl); (case hg => rfl); (case hr => first | (go_simp; done) | (go_simp; rfl)); intro gb150 hg w6 hbox hb; have n0_ := zD.mk (below_step (by repeat (first | (with_reducible first | exact HB.out | apply zJ | apply zF | apply zI) | exact HB.out)) hb); have n1_ := zD.mk (hbox); have n2_ := zD.mk ((by rw [hg]; exact (zM (by repeat (first | (with_reducible first | exact HB.out | apply zJ | apply zF | apply zI) | exact HB.out))) : w.heap.size ≤ gb150)); have n3_ := zD.mk ((by rw [hg]; exact (zM (by repeat (first | (with_reducible first | exact HB.out | apply zJ | apply zF | apply zI) | exact HB.out))) : w.heap.size ≤ gb150)); clear HB; have HB := n0_; have BK150 := n1_; have GW150 := n2_; have GE150 := n3_; clear n0_ n1_ n2_ n3_; clear hb hbox hg) | ((with_reducible refine gate_dst (N := 7) rfl ?_); refine box_event ?hg (N := 7) ?hd (cs := #[.int .i64 a3_0, .int .i64 a3_1, .int .u8 a3_2, .int .i64 a3_3, .int .i64 a3_4, .float .f64 a3_5]) (t := 35) ?hr ?_; (case hd => rfl); (case hg => rfl); (case hr => first | (go_simp; done) | (go_simp; rfl)); intro gb151 hg w7 hbox hb; have n0_ := zD.mk (zK (g := gb150) (o := .cells #[.slice A0_0 l0_0.length c0_0, .slice A0_1 l0_1.length c0_1] 31 (0, 0)) (by (with_reducible repeat (first | refine zB ?_ _ | refine zC ?_ | refine zA ?_ _)); exact BK150.out) hb); have n1_ := zD.mk (below_step (by repeat (first | (with_reducible first | exact HB.out | apply zJ | apply zF | apply zI | refine zE ?_ GE150.out) | exact HB.out)) hb); have n2_ := zD.mk (hbox); have n3_ := zD.mk ((by rw [hg]; exact (zM (by repeat (first | (with_reducible first | exact HB.out | apply zJ | apply zF | apply zI | refine zE ?_ GE150.out) | exact HB.out))) : w.heap.size ≤ gb151)); have n4_ := zD.mk ((by rw [hg]; exact (zM (by repeat (first | (with_reducible first | exact HB.out | apply zJ | apply zF | apply zI | refine zE ?_ GE150.out) | exact HB.out))) : w.heap.size ≤ gb151)); have n5_ := zD.mk ((by rw [hg]; exact Nat.ne_of_lt (blk_lt (g := gb150) (o := .cells #[.slice A0_0 l0_0.length c0_0, .slice A0_1 l0_1.length c0_1] 31 (0, 0)) (by (with_reducible repeat (first | refine zB ?_ _ | refine zC ?_ | refine zA ?_ _)); exact BK150.out)) : gb150 ≠ gb151)); have n6_ := zD.mk ((by rw [hg]; exact Nat.ne_of_gt (blk_lt (g := gb150) (o := .cells #[.slice A0_0 l0_0.length c0_0, .slice A0_1 l0_1.length c0_1] 31 (0, 0)) (by (with_reducible repeat (first | refine zB ?_ _ | refine zC ?_ | refine zA ?_ _)); exact BK150.out)) : gb151 ≠ gb150)); clear BK150; clear HB; have BK150 := n0_; have HB := n1_; have BK151 := n2_; have GW151 := n3_; have GE151 := n4_; have NB150_151 := n5_; have NB151_150 := n6_; clear n0_ n1_ n2_ n3_ n4_ n5_ n6_; clear hb hbox hg))
    go_ret2
    exact ⟨_, by first | rfl | (simp [errW_none, errW_some] <;> rfl) | (simp [*, errW_none, errW_some] <;> rfl), by first | exact Kd.R_nil _ _ _ _ _ | exact Kd.N_nil _ _ _ _ _ | exact Kd.V_nil _ _ _ _ _ | exact Kd.Q_nil _ _ _ _ _ | exact Kd.S_nil _ _ _ _ _, by repeat (first | (with_reducible first | exact HB.out | apply zJ | apply zF | apply zI | refine zE ?_ GE150.out | refine zE ?_ GE151.out) | exact HB.out)⟩
  rw [if_neg c5] at H; have c5b0 : decide (a2 ≤ a1) = false := decide_eq_false c5
  clear c5; obtain ⟨ji8, hji8⟩ : ∃ j_ : Int, (wrap64 ((wrap64 (a2 - a1)) + 1)) = j_ := ⟨_, rfl⟩; replace H : (if 0 ≤ (ji8) then (if (ji8 : Int).toNat ≤ 17592186044416 then (best_Break.l0 k a1 a2 (List.replicate (ji8 : Int).toNat z65) (wrap64 (a2 - 1)) l0_0 l0_1 a3_0 a3_1 a3_2 a3_3 a3_4 a3_5) else (none)) else (none)) = some (r1, r2) := by first | (rw [hji8] at H; exact H) | (simp only [hji8] at H ⊢; exact H)
  have hji8w : (IntKind.i64.wrap ((wrap64 (a2 - a1)) + 1)) = ji8 := (i64_w _).trans hji8
  by_cases c9 : 0 ≤ (ji8)
  rotate_left
  · rw [if_neg c9] at H
    exact absurd H (by simp)
  rw [if_pos c9] at H; have c9b0 := eq_true c9; have c9b1 : decide (0 ≤ (ji8)) = true := decide_eq_true c9
  clear c9; by_cases c10 : (ji8 : Int).toNat ≤ 17592186044416
  rotate_left
  · rw [if_neg c10] at H
    exact absurd H (by simp)
  rw [if_pos c10] at H; have c10b0 := eq_true c10; have c10b1 : decide ((ji8 : Int).toNat ≤ 17592186044416) = true := decide_eq_true c10
  clear c10; obtain ⟨y152, hy152⟩ : ∃ y_ : List (S65), y_ = (List.replicate (ji8 : Int).toNat z65) := ⟨_, rfl⟩; replace H : (best_Break.l0 k a1 a2 y152 (wrap64 (a2 - 1)) l0_0 l0_1 a3_0 a3_1 a3_2 a3_3 a3_4 a3_5) = some (r1, r2) := by first | (rw [hy152]; with_reducible exact H) | (have H2_ := (Option.bind_some _ _).symm.trans H; rw [hy152]; with_reducible exact H2_) | (have H2_ := (Option.bind_some _ _).symm.trans H; with_reducible exact H2_) | with_reducible exact H | (rw [hy152]; exact H) | exact H
  have Ny152 := zD.mk hy152; clear hy152; have H' := zD.mk H
  clear H; go_enter Try.func14, Try.ntmps14
  go_wp2_with (first | ((with_reducible refine gate_dst (N := 4) rfl ?_); refine box_event ?hg (N := 4) ?hd (cs := #[.slice A0_0 l0_0.length c0_0, .slice A0_1 l0_1.length c0_1]) (t := 31) ?hr ?_; (case hd => rfl); (case hg => rfl); (case hr => first | (go_simp; done) | (go_simp; rfl)); intro gb150 hg w11 hbox hb; have n0_ := zD.mk (below_step (by repeat (first | (with_reducible first | exact HB.out | apply zJ | apply zF | apply zI) | exact HB.out)) hb); have n1_ := zD.mk (hbox); have n2_ := zD.mk ((by rw [hg]; exact (zM (by repeat (first | (with_reducible first | exact HB.out | apply zJ | apply zF | apply zI) | exact HB.out))) : w.heap.size ≤ gb150)); have n3_ := zD.mk ((by rw [hg]; exact (zM (by repeat (first | (with_reducible first | exact HB.out | apply zJ | apply zF | apply zI) | exact HB.out))) : w.heap.size ≤ gb150)); clear HB; have HB := n0_; have BK150 := n1_; have GW150 := n2_; have GE150 := n3_; clear n0_ n1_ n2_ n3_; clear hb hbox hg) | ((with_reducible refine gate_dst (N := 7) rfl ?_); refine box_event ?hg (N := 7) ?hd (cs := #[.int .i64 a3_0, .int .i64 a3_1, .int .u8 a3_2, .int .i64 a3_3, .int .i64 a3_4, .float .f64 a3_5]) (t := 35) ?hr ?_; (case hd => rfl); (case hg => rfl); (case hr => first | (go_simp; done) | (go_simp; rfl)); intro gb151 hg w12 hbox hb; have n0_ := zD.mk (zK (g := gb150) (o := .cells #[.slice A0_0 l0_0.length c0_0, .slice A0_1 l0_1.length c0_1] 31 (0, 0)) (by (with_reducible repeat (first | refine zB ?_ _ | refine zC ?_ | refine zA ?_ _)); exact BK150.out) hb); have n1_ := zD.mk (below_step (by repeat (first | (with_reducible first | exact HB.out | apply zJ | apply zF | apply zI | refine zE ?_ GE150.out) | exact HB.out)) hb); have n2_ := zD.mk (hbox); have n3_ := zD.mk ((by rw [hg]; exact (zM (by repeat (first | (with_reducible first | exact HB.out | apply zJ | apply zF | apply zI | refine zE ?_ GE150.out) | exact HB.out))) : w.heap.size ≤ gb151)); have n4_ := zD.mk ((by rw [hg]; exact (zM (by repeat (first | (with_reducible first | exact HB.out | apply zJ | apply zF | apply zI | refine zE ?_ GE150.out) | exact HB.out))) : w.heap.size ≤ gb151)); have n5_ := zD.mk ((by rw [hg]; exact Nat.ne_of_lt (blk_lt (g := gb150) (o := .cells #[.slice A0_0 l0_0.length c0_0, .slice A0_1 l0_1.length c0_1] 31 (0, 0)) (by (with_reducible repeat (first | refine zB ?_ _ | refine zC ?_ | refine zA ?_ _)); exact BK150.out)) : gb150 ≠ gb151)); have n6_ := zD.mk ((by rw [hg]; exact Nat.ne_of_gt (blk_lt (g := gb150) (o := .cells #[.slice A0_0 l0_0.length c0_0, .slice A0_1 l0_1.length c0_1] 31 (0, 0)) (by (with_reducible repeat (first | refine zB ?_ _ | refine zC ?_ | refine zA ?_ _)); exact BK150.out)) : gb151 ≠ gb150)); clear BK150; clear HB; have BK150 := n0_; have HB := n1_; have BK151 := n2_; have GW151 := n3_; have GE151 := n4_; have NB150_151 := n5_; have NB151_150 := n6_; clear n0_ n1_ n2_ n3_ n4_ n5_ n6_; clear hb hbox hg) | ((with_reducible refine gate_dst (N := 22) rfl ?_); refine Kd.R_make k65 _ 65 rfl (N := 22) rfl 63 _ _ rfl ji8 rfl rfl Try.underlying63 (.agg #[(.int .i64 0), (.int .i64 0)]) 16 info65 rfl (by decide) (by omega) z65 (ok := fun _ => True) (okp := fun _ => True) (k65_mkM _ _ _ z65 ) (fun _ hk => hk) trivial (of_decide_eq_true (by first | (with_reducible assumption) | assumption)) (Nat.le_trans (Nat.mul_le_mul_right _ (of_decide_eq_true (by first | (with_reducible assumption) | assumption) : ji8.toNat ≤ 17592186044416)) (by omega)) (Below.refl _ _) (Nat.le_refl _) ?_; intro v153 w13 ho14 hb hg_ hnew_; clear hg_ hnew_; (first | rw [← Ny152.out] at ho14 | (simp only [Int.reduceToNat] at ho14; rw [← Ny152.out] at ho14)); have n0_ := zD.mk (Kd.R_lower ho14 (zM (by repeat (first | (with_reducible first | exact HB.out | apply zJ | apply zF | apply zI | refine zE ?_ GE150.out | refine zE ?_ GE151.out) | exact HB.out)))); have n1_ := zD.mk (zK (g := gb150) (o := .cells #[.slice A0_0 l0_0.length c0_0, .slice A0_1 l0_1.length c0_1] 31 (0, 0)) (by (with_reducible repeat (first | refine zB ?_ _ | refine zC ?_ | refine zA ?_ _)); exact BK150.out) hb); have n2_ := zD.mk (zK (g := gb151) (o := .cells #[.int .i64 a3_0, .int .i64 a3_1, .int .u8 a3_2, .int .i64 a3_3, .int .i64 a3_4, .float .f64 a3_5] 35 (0, 0)) (by (with_reducible repeat (first | refine zB ?_ _ | refine zC ?_ | refine zA ?_ _)); exact BK151.out) hb); have n3_ := zD.mk (below_step (by repeat (first | (with_reducible first | exact HB.out | apply zJ | apply zF | apply zI | refine zE ?_ GE150.out | refine zE ?_ GE151.out) | exact HB.out)) hb); clear BK150; clear BK151; clear HB; have HO154 := n0_; have BK150 := n1_; have BK151 := n2_; have HB := n3_; clear n0_ n1_ n2_ n3_; clear hb ho14))
  go_loopg [11] k (fun kq v11 w' => ∃ (x10_1 : List (S65)) (x11_1 : Int), v11 = .int .i64 x11_1 ∧ zD (best_Break.l0 kq a1 a2 x10_1 x11_1 l0_0 l0_1 a3_0 a3_1 a3_2 a3_3 a3_4 a3_5 = some (r1, r2)) ∧ zD (kq ≤ k) ∧ zD (Kd.R k65 65 w' w.heap.size (fun _ => True) v153 x10_1) ∧ zD (w'.heap[gb150]? = some (.cells #[(.slice A0_0 l0_0.length c0_0), (.slice A0_1 l0_1.length c0_1)] 31 (0, 0))) ∧ zD (w'.heap[gb151]? = some (.cells #[.int .i64 a3_0, .int .i64 a3_1, .int .u8 a3_2, .int .i64 a3_3, .int .i64 a3_4, .float .f64 a3_5] 35 (0, 0))) ∧ zD (Below w.heap.size w w'))
  case atStart => exact ⟨(y152), (wrap64 (a2 - 1)), (by first | rfl | (simp; done) | (simp [*]; done)), H', ⟨Nat.le_refl _⟩, ⟨by (with_reducible repeat (first | apply Kd.R_alloc | apply Kd.R_drewN | apply Kd.R_drew)); exact HO154.out⟩, ⟨by (with_reducible repeat (first | refine zB ?_ _ | refine zC ?_ | refine zA ?_ _)); exact BK150.out⟩, ⟨by (with_reducible repeat (first | refine zB ?_ _ | refine zC ?_ | refine zA ?_ _)); exact BK151.out⟩, ⟨by repeat (first | (with_reducible first | exact HB.out | apply zJ | apply zF | apply zI | refine zE ?_ GE150.out | refine zE ?_ GE151.out) | exact HB.out)⟩⟩
  clear H'; try clear c1
  try clear p2
  try clear c5
  try clear c5b0
  try clear p6
  try clear c9
  try clear c9b0
  try clear c9b1
  try clear c10
  try clear c10b0
  try clear c10b1
  try clear c14
  obtain ⟨x10_1, x11_1, rfl, HA, HK1, HO_10, BK150, BK151, HB⟩ := hrel; cases gk with
  | zero => exact absurd HA.out (by simp [best_Break.l0])
  | succ k1 =>
    have H := HA.out; clear HA; simp only [best_Break.l0] at H; by_cases c15 : x11_1 ≥ a1
    rotate_left
    · rw [if_neg c15] at H
      have c15b0 : decide (a1 ≤ x11_1) = false := decide_eq_false c15
      clear c15; by_cases c48 : 0 < (x10_1.length : Int)
      rotate_left
      · rw [if_neg c48] at H
        exact absurd H (by simp)
      rw [if_pos c48] at H; have c48b0 : decide (0 < (x10_1.length : Int)) = true := decide_eq_true c48
      have c48b1 : decide (0 < x10_1.length) = true := decide_eq_true (by omega)
      clear c48; by_cases c49 : ((rd_T65 x10_1 0).f1) < 0
      · rw [if_pos c49] at H
        have c49b0 : decide (((rd_T65 x10_1 0).f1) < 0) = true := decide_eq_true c49
        clear c49; simp only [Option.some.injEq, Prod.mk.injEq] at H; obtain ⟨rfl, rfl⟩ := H; obtain ⟨Ao50, co50, eo50⟩ := Kd.R_slice HO_10.out; subst eo50; have p163 : 0 ≤ (0 : Int) := (by omega)
        have q163 : 0 < (x10_1.length : Int) := of_decide_eq_true (by first | (with_reducible assumption) | assumption)
        obtain ⟨ad163, e163, hx163_0, hx163_1⟩ := at_T65 (Kd.R_reads' HO_10.out).2.2 0 p163 q163; cases e163
        have qi163 : (0 < x10_1.length) = True := eq_true (by omega)
        (try rw [show ((0 : Int)).toNat = 0 from rfl] at hx163_0)
        (try rw [show 0 * 2 = 0 from rfl] at hx163_0)
        (try rw [Addr.add_zero'] at hx163_0)
        (try rw [show ((0 : Int)).toNat = 0 from rfl] at hx163_1)
        (try rw [show 0 * 2 = 0 from rfl] at hx163_1)
        (try rw [Addr.add_zero'] at hx163_1)
        replace p163 := eq_true p163; replace q163 := eq_true q163; go_wp2
        go_ret2
        exact ⟨_, by first | rfl | (simp [errW_none, errW_some] <;> rfl) | (simp only [← hji8]; first | rfl | (simp [errW_none, errW_some] <;> rfl)) | (simp [*, errW_none, errW_some] <;> rfl), by first | exact Kd.R_nil _ _ _ _ _ | exact Kd.N_nil _ _ _ _ _ | exact Kd.V_nil _ _ _ _ _ | exact Kd.Q_nil _ _ _ _ _ | exact Kd.S_nil _ _ _ _ _, by repeat (first | (with_reducible first | exact HB.out | apply zJ | apply zF | apply zI | refine zE ?_ GE150.out | refine zE ?_ GE151.out) | exact HB.out)⟩
      rw [if_neg c49] at H; have c49b0 : decide (((rd_T65 x10_1 0).f1) < 0) = false := decide_eq_false c49
      clear c49; have H' := zD.mk H
      clear H; obtain ⟨Ao51, co51, eo51⟩ := Kd.R_slice HO_10.out; subst eo51; have p163 : 0 ≤ (0 : Int) := (by omega)
      have q163 : 0 < (x10_1.length : Int) := of_decide_eq_true (by first | (with_reducible assumption) | assumption)
      obtain ⟨ad163, e163, hx163_0, hx163_1⟩ := at_T65 (Kd.R_reads' HO_10.out).2.2 0 p163 q163; cases e163
      have qi163 : (0 < x10_1.length) = True := eq_true (by omega)
      (try rw [show ((0 : Int)).toNat = 0 from rfl] at hx163_0)
      (try rw [show 0 * 2 = 0 from rfl] at hx163_0)
      (try rw [Addr.add_zero'] at hx163_0)
      (try rw [show ((0 : Int)).toNat = 0 from rfl] at hx163_1)
      (try rw [show 0 * 2 = 0 from rfl] at hx163_1)
      (try rw [Addr.add_zero'] at hx163_1)
      replace p163 := eq_true p163; replace q163 := eq_true q163; go_wp2
      go_loopg [12, 13] k1 (fun kq v12 v13 w' => ∃ (x12_2 : List (S48)) (x13_2 : Int), v13 = .int .i64 x13_2 ∧ zD (best_Break.l1 kq a1 a2 x10_1 x12_2 x13_2 l0_0 l0_1 a3_0 a3_1 a3_2 a3_3 a3_4 a3_5 = some (r1, r2)) ∧ zD (kq ≤ k1) ∧ zD (Kd.R k65 65 w' w.heap.size (fun _ => True) (.slice (some ad163) x10_1.length co51) x10_1) ∧ zD (Kd.R k48 48 w' w.heap.size (fun _ => True) v12 x12_2) ∧ zD (w'.heap[gb150]? = some (.cells #[(.slice A0_0 l0_0.length c0_0), (.slice A0_1 l0_1.length c0_1)] 31 (0, 0))) ∧ zD (w'.heap[gb151]? = some (.cells #[.int .i64 a3_0, .int .i64 a3_1, .int .u8 a3_2, .int .i64 a3_3, .int .i64 a3_4, .float .f64 a3_5] 35 (0, 0))) ∧ zD (Below w.heap.size w w'))
      case atStart => exact ⟨(([] : List (S48))), (a1), (by first | rfl | (simp; done) | (simp [*]; done)), H', ⟨Nat.le_refl _⟩, ⟨by (with_reducible repeat (first | apply Kd.R_alloc | apply Kd.R_drewN | apply Kd.R_drew)); exact HO_10.out⟩, ⟨by first | exact Kd.R_nil _ _ _ _ _ | exact Kd.N_nil _ _ _ _ _ | exact Kd.V_nil _ _ _ _ _ | exact Kd.Q_nil _ _ _ _ _ | exact Kd.S_nil _ _ _ _ _⟩, ⟨by (with_reducible repeat (first | refine zB ?_ _ | refine zC ?_ | refine zA ?_ _)); exact BK150.out⟩, ⟨by (with_reducible repeat (first | refine zB ?_ _ | refine zC ?_ | refine zA ?_ _)); exact BK151.out⟩, ⟨by repeat (first | (with_reducible first | exact HB.out | apply zJ | apply zF | apply zI | refine zE ?_ GE150.out | refine zE ?_ GE151.out) | exact HB.out)⟩⟩
      clear H'; try clear c1
      try clear p1
      try clear q1
      try clear hx1
      try clear qi1
      try clear c2
      try clear p2
      try clear q2
      try clear hx2
      try clear c3
      try clear p3
      try clear q3
      try clear hx3
      try clear c4
      try clear hx4
      try clear hf4
      try clear c5
      try clear c5b0
      try clear p6
      try clear c9
      try clear c9b0
      try clear c9b1
      try clear c10
      try clear c10b0
      try clear c10b1
      try clear c14
      try clear c15
      try clear c15b0
      try clear p15
      try clear q15
      try clear hx15
      try clear p16
      try clear q16
      try clear hx16
      try clear qi16
      try clear c17
      try clear c17b0
      try clear c18
      try clear c18b0
      try clear c19
      try clear p19
      try clear q19
      try clear hx19
      try clear hf19
      try clear c20
      try clear c20b0
      try clear c20b1
      try clear c22
      try clear p22
      try clear q22
      try clear hx22
      try clear hf22
      try clear c23
      try clear hx23
      try clear hf23
      try clear c24
      try clear c25
      try clear c29
      try clear hx29
      try clear hf29
      try clear c31
      try clear c31b0
      try clear c32
      try clear c32b0
      try clear c33
      try clear c33b0
      try clear c33b1
      try clear c34
      try clear hx34
      try clear hf34
      try clear c36
      try clear c39
      try clear p39
      try clear q39
      try clear hx39
      try clear hf39
      try clear c40
      try clear hx40
      try clear hf40
      try clear c42
      try clear c46
      try clear hx46
      try clear hf46
      try clear c48
      try clear c48b0
      try clear c48b1
      try clear c49
      try clear c49b0
      try clear hcz26_0
      try clear hcz26_1
      try clear hcz27_0
      try clear hcz27_1
      try clear hcz27_2
      try clear hcz27_3
      try clear hcz27_4
      try clear hcz27_5
      try clear hcz37_0
      try clear hcz37_1
      try clear hcz43_0
      try clear hcz43_1
      try clear hcz44_0
      try clear hcz44_1
      try clear hcz44_2
      try clear hcz44_3
      try clear hcz44_4
      try clear hcz44_5
      try clear hfz26_0
      try clear hfz26_1
      try clear hfz27_0
      try clear hfz27_1
      try clear hfz27_2
      try clear hfz27_3
      try clear hfz27_4
      try clear hfz27_5
      try clear hfz37_0
      try clear hfz37_1
      try clear hfz43_0
      try clear hfz43_1
      try clear hfz44_0
      try clear hfz44_1
      try clear hfz44_2
      try clear hfz44_3
      try clear hfz44_4
      try clear hfz44_5
      try clear hx159_0
      try clear hx163_0
      try clear hx163_1
      try clear hx19_0
      try clear hx19_1
      try clear hx22_0
      try clear hx22_1
      try clear hx23_0
      try clear hx23_1
      try clear hx29_0
      try clear hx29_1
      try clear hx34_0
      try clear hx34_1
      try clear hx39_0
      try clear hx39_1
      try clear hx40_0
      try clear hx40_1
      try clear hx46_0
      try clear hx46_1
      try clear p159
      try clear p163
      try clear p19
      try clear p2
      try clear p22
      try clear p39
      try clear p6
      try clear q159
      try clear q163
      try clear q19
      try clear q22
      try clear q39
      obtain ⟨x12_2, x13_2, rfl, HA, HK2, HO_10, HO_12, BK150, BK151, HB⟩ := hrel; cases gk with
      | zero => exact absurd HA.out (by simp [best_Break.l1])
      | succ k2 =>
        have H := HA.out; clear HA; simp only [best_Break.l1] at H; by_cases c52 : x13_2 < a2
        rotate_left
        · rw [if_neg c52] at H
          have c52b0 : decide (x13_2 < a2) = false := decide_eq_false c52
          clear c52; simp only [Option.some.injEq, Prod.mk.injEq] at H; obtain ⟨rfl, rfl⟩ := H; go_wp2
          go_ret2
          exact ⟨_, by first | rfl | (simp [errW_none, errW_some] <;> rfl) | (simp only [← hji8]; first | rfl | (simp [errW_none, errW_some] <;> rfl)) | (simp [*, errW_none, errW_some] <;> rfl), by (with_reducible repeat (first | apply Kd.R_alloc | apply Kd.R_drewN | apply Kd.R_drew)); exact HO_12.out, by repeat (first | (with_reducible first | exact HB.out | apply zJ | apply zF | apply zI | refine zE ?_ GE150.out | refine zE ?_ GE151.out) | exact HB.out)⟩
        rw [if_pos c52] at H; have c52b0 : decide (x13_2 < a2) = true := decide_eq_true c52
        clear c52; obtain ⟨ji53, hji53⟩ : ∃ j_ : Int, (wrap64 (x13_2 - a1)) = j_ := ⟨_, rfl⟩; replace H : (if 0 ≤ (ji53) then (if (ji53) < (x10_1.length : Int) then (if 0 ≤ ((rd_T65 x10_1 (ji53)).f1) then (if ((rd_T65 x10_1 (ji53)).f1) < (l0_1.length : Int) then ((span_Make.f k2 l0_0 l0_1 x13_2 ((rd_T65 x10_1 (ji53)).f1) (rd l0_1 ((rd_T65 x10_1 (ji53)).f1)) a3_1).bind fun bt166 => (if x12_2.length < 4398046511104 then (best_Break.l1 k2 a1 a2 x10_1 (x12_2 ++ [(⟨bt166.1, bt166.2.1, bt166.2.2.1, bt166.2.2.2⟩ : S48)]) ((rd_T65 x10_1 (ji53)).f1) l0_0 l0_1 a3_0 a3_1 a3_2 a3_3 a3_4 a3_5) else (none))) else (none)) else (none)) else (none)) else (none)) = some (r1, r2) := by first | (rw [hji53] at H; exact H) | (simp only [hji53] at H ⊢; exact H)
        have hji53w : (IntKind.i64.wrap (x13_2 - a1)) = ji53 := (i64_w _).trans hji53
        by_cases c54 : 0 ≤ (ji53)
        rotate_left
        · rw [if_neg c54] at H
          exact absurd H (by simp)
        rw [if_pos c54] at H; have c54b0 : decide (0 ≤ (ji53)) = true := decide_eq_true c54
        clear c54; by_cases c55 : (ji53) < (x10_1.length : Int)
        rotate_left
        · rw [if_neg c55] at H
          exact absurd H (by simp)
        rw [if_pos c55] at H; have c55b0 : decide ((ji53) < (x10_1.length : Int)) = true := decide_eq_true c55
        clear c55; by_cases c56 : 0 ≤ ((rd_T65 x10_1 (ji53)).f1)
        rotate_left
        · rw [if_neg c56] at H
          exact absurd H (by simp)
        rw [if_pos c56] at H; have c56b0 : decide (0 ≤ ((rd_T65 x10_1 (ji53)).f1)) = true := decide_eq_true c56
        clear c56; by_cases c57 : ((rd_T65 x10_1 (ji53)).f1) < (l0_1.length : Int)
        rotate_left
        · rw [if_neg c57] at H
          exact absurd H (by simp)
        rw [if_pos c57] at H; have c57b0 : decide (((rd_T65 x10_1 (ji53)).f1) < (l0_1.length : Int)) = true := decide_eq_true c57
        clear c57; replace H := Option.bind_eq_some_iff.mp H; obtain ⟨⟨t166, t167, t168, t169⟩, A580, H⟩ := H; replace H : (if x12_2.length < 4398046511104 then (best_Break.l1 k2 a1 a2 x10_1 (x12_2 ++ [(⟨t166, t167, t168, t169⟩ : S48)]) ((rd_T65 x10_1 (ji53)).f1) l0_0 l0_1 a3_0 a3_1 a3_2 a3_3 a3_4 a3_5) else (none)) = some (r1, r2) := H; have A58 := zD.mk A580; clear A580; by_cases c59 : x12_2.length < 4398046511104
        rotate_left
        · rw [if_neg c59] at H
          exact absurd H (by simp)
        rw [if_pos c59] at H; have LMc59 := zD.mk c59; clear c59; obtain ⟨y170, hy170⟩ : ∃ y_ : List (S48), y_ = (x12_2 ++ [(⟨t166, t167, t168, t169⟩ : S48)]) := ⟨_, rfl⟩; replace H : (best_Break.l1 k2 a1 a2 x10_1 y170 ((rd_T65 x10_1 (ji53)).f1) l0_0 l0_1 a3_0 a3_1 a3_2 a3_3 a3_4 a3_5) = some (r1, r2) := by first | (rw [hy170]; with_reducible exact H) | (have H2_ := (Option.bind_some _ _).symm.trans H; rw [hy170]; with_reducible exact H2_) | (have H2_ := (Option.bind_some _ _).symm.trans H; with_reducible exact H2_) | with_reducible exact H | (rw [hy170]; exact H) | exact H
        have Ny170 := zD.mk hy170; clear hy170; have H' := zD.mk H
        clear H; have p164 : 0 ≤ ((ji53) : Int) := of_decide_eq_true (by first | (with_reducible assumption) | assumption)
        have q164 : (ji53) < (x10_1.length : Int) := of_decide_eq_true (by first | (with_reducible assumption) | assumption)
        obtain ⟨ad164, e164, hx164_0, hx164_1⟩ := at_T65 (Kd.R_reads' HO_10.out).2.2 (ji53) p164 q164; obtain rfl : ad163 = ad164 := (by injection e164)
        replace p164 := eq_true p164; replace q164 := eq_true q164; try go_wp2
        have n0_ := zD.mk (Kd.R_drew HO_10.out); have n1_ := zD.mk (Kd.R_drew HO_12.out); have n2_ := zD.mk (zC BK150.out); have n3_ := zD.mk (zC BK151.out); have n4_ := zD.mk (zI HB.out); clear HO_10; clear HO_12; clear BK150; clear BK151; clear HB; have HO_10 := n0_; have HO_12 := n1_; have BK150 := n2_; have BK151 := n3_; have HB := n4_; clear n0_ n1_ n2_ n3_ n4_; have p165 : 0 ≤ (((rd_T65 x10_1 (ji53)).f1) : Int) := of_decide_eq_true (by first | (with_reducible assumption) | assumption)
        have q165 : ((rd_T65 x10_1 (ji53)).f1) < (l0_1.length : Int) := of_decide_eq_true (by first | (with_reducible assumption) | assumption)
        obtain ⟨ad165, e165, hx165_0⟩ := Kd.at_int HR0_1.out ((rd_T65 x10_1 (ji53)).f1) p165 q165; have hw165_0 := hx165_0; cases e165
        replace hx165_0 := (HB.out.cell (World.block_lt_of_cell? w _ hx165_0)).trans hx165_0; replace p165 := eq_true p165; replace q165 := eq_true q165; refine start_ (n := 15) (S := fun w' => w'.cell? ⟨gb150, 0, none⟩ = some (.slice A0_0 l0_0.length c0_0) ∧ w'.cell? ⟨gb150, 1, none⟩ = some (.slice (some ad165) l0_1.length c0_1) ∧ w'.cell? ⟨gb151, 0, none⟩ = some (.int .i64 a3_0) ∧ w'.cell? ⟨gb151, 1, none⟩ = some (.int .i64 a3_1) ∧ w'.cell? ⟨gb151, 2, none⟩ = some (.int .u8 a3_2) ∧ w'.cell? ⟨gb151, 3, none⟩ = some (.int .i64 a3_3) ∧ w'.cell? ⟨gb151, 4, none⟩ = some (.int .i64 a3_4) ∧ w'.cell? ⟨gb151, 5, none⟩ = some (.float .f64 a3_5) ∧ w'.cell? (ad165.add (((rd_T65 x10_1 (ji53)).f1)).toNat) = some (.int .u8 (rd l0_1 ((rd_T65 x10_1 (ji53)).f1)))) (ds := []) #[false, false, false, false, false, false, false, false, false, false, false, false, false, false, false] (by kernel_rfl) rfl rfl ⟨(zH BK150.out 0).trans rfl, (zH BK150.out 1).trans rfl, (zH BK151.out 0).trans rfl, (zH BK151.out 1).trans rfl, (zH BK151.out 2).trans rfl, (zH BK151.out 3).trans rfl, (zH BK151.out 4).trans rfl, (zH BK151.out 5).trans rfl, ((HB.out.cell (World.block_lt_of_cell? w _ hw165_0)).trans hw165_0)⟩ (fun hHeld => ?_); refine with_tabW best_Break.tab16 best_Break.bits16 (fun HT_ HW_ => ?_)
        generalize wr.drew = w60 at HO_10 HO_12 BK150 BK151 HB hx165_0 hHeld ⊢
        refine pure_ (i := 0) (N := some 75) (v := ?_) (a' := ?_) (tf_ 1 15) rfl rfl (any_of HT_.out (by kernel_rfl)) (fun _ _ _ h => h) (Or.inl ⟨by rfl, ?_⟩) ?_ ?_
        rotate_left
        · intro w'
          go_simp
          with_reducible rfl
        rotate_left
        · simp only [Act.put, sA_, sB_, sC_, i64_w, i32_w]
          rfl
        refine pure_ (i := 2) (N := some 77) (v := ?_) (a' := ?_) #[true, false, true, false, false, false, false, false, false, false, false, false, false, false, false] rfl rfl (any_of HT_.out (by kernel_rfl)) (fun _ _ _ h => h) (Or.inl ⟨by rfl, ?_⟩) ?_ ?_
        rotate_left
        · intro w'
          go_simp
          with_reducible rfl
        rotate_left
        · simp only [Act.put, sA_, sB_, sC_, i64_w, i32_w]
          rfl
        refine pure_ (i := 3) (N := some 78) (v := ?_) (a' := ?_) #[true, false, true, true, false, false, false, false, false, false, false, false, false, false, false] rfl rfl (any_of HT_.out (by kernel_rfl)) (fun _ _ _ h => h) (Or.inl ⟨by rfl, ?_⟩) ?_ ?_
        rotate_left
        · intro w'
          go_simp
          with_reducible rfl
        rotate_left
        · simp only [Act.put, sA_, sB_, sC_, i64_w, i32_w]
          rfl
        refine pure_ (i := 4) (N := some 79) (v := ?_) (a' := ?_) #[true, false, true, true, true, false, false, false, false, false, false, false, false, false, false] rfl rfl (any_of HT_.out (by kernel_rfl)) (fun _ _ _ h => h) (Or.inl ⟨by rfl, ?_⟩) ?_ ?_
        rotate_left
        · intro w'
          go_simp
          with_reducible rfl
        rotate_left
        · simp only [Act.put, sA_, sB_, sC_, i64_w, i32_w]
          rfl
        refine pure_ (i := 6) (N := some 81) (v := ?_) (a' := ?_) #[true, false, true, true, true, false, true, false, false, false, false, false, false, false, false] rfl rfl (any_of HT_.out (by kernel_rfl)) (fun _ _ _ h => h) (Or.inl ⟨by rfl, ?_⟩) ?_ ?_
        rotate_left
        · intro w'
          go_simp
          with_reducible rfl
        rotate_left
        · simp only [Act.put, sA_, sB_, sC_, i64_w, i32_w]
          rfl
        refine pure_ (i := 9) (N := some 84) (v := ?_) (a' := ?_) #[true, false, true, true, true, false, true, false, false, true, false, false, false, false, false] rfl rfl (any_of HT_.out (by kernel_rfl)) (fun _ _ _ h => h) (Or.inl ⟨by rfl, ?_⟩) ?_ ?_
        rotate_left
        · intro w'
          go_simp
          with_reducible rfl
        rotate_left
        · simp only [Act.put, sA_, sB_, sC_, i64_w, i32_w]
          rfl
        refine take_ (i := 1) (N := some 76) (v := ?_) (a' := ?_) #[true, true, true, true, true, false, true, false, false, true, false, false, false, false, false] rfl rfl (take_ofW HT_.out HW_.out (by kernel_rfl)) (fun _ _ _ h => h) (Or.inl ⟨by rfl, ?_⟩) hHeld ?_ ?_
        rotate_left
        · rintro w' ⟨s0, s1, s2, s3, s4, s5, s6, s7, s8⟩
          go_simp
          with_reducible rfl
        rotate_left
        · simp only [Act.put, sA_, sB_, sC_, i64_w, i32_w]
          rfl
        refine take_ (i := 5) (N := some 80) (v := ?_) (a' := ?_) #[true, true, true, true, true, true, true, false, false, true, false, false, false, false, false] rfl rfl (take_ofW HT_.out HW_.out (by kernel_rfl)) (fun _ _ _ h => h) (Or.inl ⟨by rfl, ?_⟩) hHeld ?_ ?_
        rotate_left
        · rintro w' ⟨s0, s1, s2, s3, s4, s5, s6, s7, s8⟩
          go_simp
          with_reducible rfl
        rotate_left
        · simp only [Act.put, sA_, sB_, sC_, i64_w, i32_w]
          rfl
        refine pure_ (i := 7) (N := some 82) (v := ?_) (a' := ?_) #[true, true, true, true, true, true, true, true, false, true, false, false, false, false, false] rfl rfl (any_of HT_.out (by kernel_rfl)) (fun _ _ _ h => h) (Or.inl ⟨by rfl, ?_⟩) ?_ ?_
        rotate_left
        · intro w'
          go_simp
          with_reducible rfl
        rotate_left
        · simp only [Act.put, sA_, sB_, sC_, i64_w, i32_w]
          rfl
        refine take_ (i := 8) (N := some 83) (v := ?_) (a' := ?_) (tf_ 10 15) rfl rfl (take_ofW HT_.out HW_.out (by kernel_rfl)) (fun _ _ _ h => h) (Or.inl ⟨by rfl, ?_⟩) hHeld ?_ ?_
        rotate_left
        · rintro w' ⟨s0, s1, s2, s3, s4, s5, s6, s7, s8⟩
          go_simp
          with_reducible rfl
        rotate_left
        · simp only [Act.put, sA_, sB_, sC_, i64_w, i32_w]
          rfl
        refine take_ (i := 10) (N := some 85) (v := ?_) (a' := ?_) (tf_ 11 15) rfl rfl (take_ofW HT_.out HW_.out (by kernel_rfl)) (fun _ _ _ h => h) (Or.inl ⟨by rfl, ?_⟩) hHeld ?_ ?_
        rotate_left
        · rintro w' ⟨s0, s1, s2, s3, s4, s5, s6, s7, s8⟩
          go_simp
          with_reducible rfl
        rotate_left
        · simp only [Act.put, sA_, sB_, sC_, i64_w, i32_w]
          rfl
        refine one_ (i := 11) (N := some 86) #[true, true, true, true, true, true, true, true, true, true, true, true, false, false, false] rfl rfl (one_of HT_.out (by kernel_rfl)) (by decide) (fun K hK => ?_)
        refine goes_ Try.func25 (by kernel_rfl) rfl #[.agg #[.slice A0_0 l0_0.length c0_0, .slice (some ad165) l0_1.length c0_1], .int .i64 x13_2, .int .i64 ((rd_T65 x10_1 (ji53)).f1), .int .u8 (rd l0_1 ((rd_T65 x10_1 (ji53)).f1)), .int .i64 a3_1] (by rfl) rfl rfl (by (try simp only [List.map_toArray, List.map_cons, List.map_nil]); first | done | (simp only [hji53]; rfl) | rfl | (simp only [List.length_drop, List.length_take]; rfl)) ?_
        with_reducible refine (span_Make.calls k2 _ _ l0_0 _ _ l0_1 x13_2 ((rd_T65 x10_1 (ji53)).f1) (rd l0_1 ((rd_T65 x10_1 (ji53)).f1)) a3_1 t166 t167 t168 t169 _ ?side1 ?side2 ?side3 ?side4 A58.out).mono ?_
        (case side1 => repeat (first | exact (Kd.C_below HR0_0.out HB.out) | (with_reducible refine Kd.C_alloc ?_ _) | (with_reducible refine Kd.C_drewN ?_ _) | (with_reducible refine Kd.C_drew ?_)))
        (case side2 => exact HC0_0.out)
        (case side3 => repeat (first | exact (Kd.C_below HR0_1.out HB.out) | (with_reducible refine Kd.C_alloc ?_ _) | (with_reducible refine Kd.C_drewN ?_ _) | (with_reducible refine Kd.C_drew ?_)))
        (case side4 => exact HC0_1.out)
        rintro e w61 ⟨rfl, hb⟩
        refine ⟨_, rfl, ?_⟩
        have n0_ := zD.mk (Kd.R_below (by (with_reducible repeat (first | apply Kd.R_alloc | apply Kd.R_drewN | apply Kd.R_drew)); exact HO_10.out) hb)
        have n1_ := zD.mk (Kd.R_below (by (with_reducible repeat (first | apply Kd.R_alloc | apply Kd.R_drewN | apply Kd.R_drew)); exact HO_12.out) hb)
        have n2_ := zD.mk (zK (g := gb150) (o := .cells #[.slice A0_0 l0_0.length c0_0, .slice (some ad165) l0_1.length c0_1] 31 (0, 0)) (by (with_reducible repeat (first | refine zB ?_ _ | refine zC ?_ | refine zA ?_ _)); exact BK150.out) hb)
        have n3_ := zD.mk (zK (g := gb151) (o := .cells #[.int .i64 a3_0, .int .i64 a3_1, .int .u8 a3_2, .int .i64 a3_3, .int .i64 a3_4, .float .f64 a3_5] 35 (0, 0)) (by (with_reducible repeat (first | refine zB ?_ _ | refine zC ?_ | refine zA ?_ _)); exact BK151.out) hb)
        have n4_ := zD.mk (below_step (by repeat (first | (with_reducible first | exact HB.out | apply zJ | apply zF | apply zI | refine zE ?_ GE150.out | refine zE ?_ GE151.out) | exact HB.out)) hb)
        clear HO_10 HO_12 BK150 BK151 HB; have HO_10 := n0_; have HO_12 := n1_; have BK150 := n2_; have BK151 := n3_; have HB := n4_; clear n0_ n1_ n2_ n3_ n4_; (try clear hb)
        (try clear hb2)
        (try clear hk)
        (try clear hi)
        refine hK.out _ _ ⟨(zH BK150.out 0).trans rfl, (zH BK150.out 1).trans rfl, (zH BK151.out 0).trans rfl, (zH BK151.out 1).trans rfl, (zH BK151.out 2).trans rfl, (zH BK151.out 3).trans rfl, (zH BK151.out 4).trans rfl, (zH BK151.out 5).trans rfl, ((HB.out.cell (World.block_lt_of_cell? w _ hw165_0)).trans hw165_0)⟩ (fun hHeld => ?_)
        clear hK K; refine norm_ (a' := ?_) ?_ ?_
        rotate_left
        · show Act.put _ (some 86) _ = _
          simp only [Act.put, sA_, sB_, sC_, i64_w, i32_w]; rfl
        refine one_ (i := 12) (N := some 87) #[true, true, true, true, true, true, true, true, true, true, true, true, true, false, false] rfl rfl (one_of HT_.out (by kernel_rfl)) (by decide) (fun K hK => ?_)
        refine value_ (w1 := ?_) (v := ?_) (by rfl) rfl ?_ ?_
        rotate_left 2
        · go_simp
          constructor
          · rfl
          rfl
        refine hK.out _ _ ⟨(zH (zA BK150.out _) 0).trans rfl, (zH (zA BK150.out _) 1).trans rfl, (zH (zA BK151.out _) 0).trans rfl, (zH (zA BK151.out _) 1).trans rfl, (zH (zA BK151.out _) 2).trans rfl, (zH (zA BK151.out _) 3).trans rfl, (zH (zA BK151.out _) 4).trans rfl, (zH (zA BK151.out _) 5).trans rfl, (World.cell?_alloc_lt _ _ _ (World.block_lt_of_cell? _ _ (((HB.out.cell (World.block_lt_of_cell? w _ hw165_0)).trans hw165_0)))).trans (((HB.out.cell (World.block_lt_of_cell? w _ hw165_0)).trans hw165_0))⟩ (fun hHeld => ?_)
        clear hK K; refine norm_ (a' := ?_) ?_ ?_
        rotate_left
        · show Act.put _ (some 87) _ = _
          simp only [Act.put, sA_, sB_, sC_, i64_w, i32_w]; rfl
        refine one_ (i := 13) (N := some 88) #[true, true, true, true, true, true, true, true, true, true, true, true, true, true, false] rfl rfl (one_of HT_.out (by kernel_rfl)) (by decide) (fun K hK => ?_)
        refine Kd.R_append_step k48 (w0 := w) w.heap.size (by rfl) (.tmp 75) (.tmp 87) 39 48 (.agg #[(.int .i64 0), (.int .i64 0), (.int .i64 0), (.int .u8 0)]) 32 rfl Try.underlying39 info48 rfl (by decide) (by omega) u12 x12_2 (⟨t166, t167, t168, t169⟩ : S48) [.int .i64 t166, .int .i64 t167, .int .i64 t168, .int .u8 t169] (fun _ => True) (fun _ => False) rfl rfl ?aP (fun _ hk => hk.elim) ?aF ?aO ?aB ?aS ?aL ?_
        (case aP => exact k48_mkM _ _ _ (⟨t166, t167, t168, t169⟩ : S48))
        (case aB => exact (by repeat (first | (with_reducible first | exact HB.out | apply zJ | apply zF | apply zI | refine zE ?_ GE150.out | refine zE ?_ GE151.out) | exact HB.out)))
        (case aF => exact (fun _ _ => trivial))
        (case aO => exact (by (with_reducible repeat (first | apply Kd.R_alloc | apply Kd.R_drewN | apply Kd.R_drew)); exact HO_12.out))
        (case aS => exact (zM (by repeat (first | (with_reducible first | exact HB.out | apply zJ | apply zF | apply zI | refine zE ?_ GE150.out | refine zE ?_ GE151.out) | exact HB.out))))
        (case aL => have := LMc59.out; omega)
        intro v171 w62 ho hb hg hat
        rw [← Ny170.out] at ho; have n0_ := zD.mk (Kd.R_over' (by (with_reducible repeat (first | apply Kd.R_alloc | apply Kd.R_drewN | apply Kd.R_drew)); exact HO_10.out) (Kd.R_typed (by (with_reducible repeat (first | apply Kd.R_alloc | apply Kd.R_drewN | apply Kd.R_drew)); exact HO_12.out)) (by decide) hg)
        have n1_ := zD.mk (blk_grown (g := gb150) (o := .cells #[.slice A0_0 l0_0.length c0_0, .slice (some ad165) l0_1.length c0_1] 31 (0, 0)) (by (with_reducible repeat (first | refine zB ?_ _ | refine zC ?_ | refine zA ?_ _)); exact BK150.out) hg (Kd.R_ne HO_12.out BK150.out (by decide)))
        have n2_ := zD.mk (blk_grown (g := gb151) (o := .cells #[.int .i64 a3_0, .int .i64 a3_1, .int .u8 a3_2, .int .i64 a3_3, .int .i64 a3_4, .float .f64 a3_5] 35 (0, 0)) (by (with_reducible repeat (first | refine zB ?_ _ | refine zC ?_ | refine zA ?_ _)); exact BK151.out) hg (Kd.R_ne HO_12.out BK151.out (by decide)))
        have n3_ := zD.mk (hb); have n4_ := zD.mk (ho); clear HO_10; clear BK150; clear BK151; clear HB; clear HO_12; have HO_10 := n0_; have BK150 := n1_; have BK151 := n2_; have HB := n3_; have HO172 := n4_; clear n0_ n1_ n2_ n3_ n4_; clear ho hb hg hat; refine hK.out _ _ ⟨(zH BK150.out 0).trans rfl, (zH BK150.out 1).trans rfl, (zH BK151.out 0).trans rfl, (zH BK151.out 1).trans rfl, (zH BK151.out 2).trans rfl, (zH BK151.out 3).trans rfl, (zH BK151.out 4).trans rfl, (zH BK151.out 5).trans rfl, ((HB.out.cell (World.block_lt_of_cell? w _ hw165_0)).trans hw165_0)⟩ (fun hHeld => ?_)
        clear hK K; refine norm_ (a' := ?_) ?_ ?_
        rotate_left
        · show Act.put _ (some 88) _ = _
          simp only [Act.put, sA_, sB_, sC_, i64_w, i32_w]; rfl
        refine pure_ (i := 14) (N := some 12) (v := ?_) (a' := ?_) #[true, true, true, true, true, true, true, true, true, true, true, true, true, true, true] rfl rfl (any_of HT_.out (by kernel_rfl)) (fun _ _ _ h => h) (Or.inl ⟨by rfl, ?_⟩) ?_ ?_
        rotate_left
        · intro w'
          go_simp
          with_reducible rfl
        rotate_left
        · simp only [Act.put, sA_, sB_, sC_, i64_w, i32_w]
          rfl
        refine done_ (done_of HT_.out (by kernel_rfl)) ?_
        try go_wp2
        go_roundg k2
        case measure => have := HK1.out; have := HK2.out; omega
        case rel => exact ⟨(y170), ((rd_T65 x10_1 (ji53)).f1), (by first | rfl | (simp; done) | (simp only [← hji53] <;> (first | rfl | simp)) | (simp [*]; done)), H', ⟨by have := HK1.out; have := HK2.out; omega⟩, ⟨by (with_reducible repeat (first | apply Kd.R_alloc | apply Kd.R_drewN | apply Kd.R_drew)); exact HO_10.out⟩, ⟨by (with_reducible repeat (first | apply Kd.R_alloc | apply Kd.R_drewN | apply Kd.R_drew)); exact HO172.out⟩, ⟨by (with_reducible repeat (first | refine zB ?_ _ | refine zC ?_ | refine zA ?_ _)); exact BK150.out⟩, ⟨by (with_reducible repeat (first | refine zB ?_ _ | refine zC ?_ | refine zA ?_ _)); exact BK151.out⟩, ⟨by repeat (first | (with_reducible first | exact HB.out | apply zJ | apply zF | apply zI | refine zE ?_ GE150.out | refine zE ?_ GE151.out) | exact HB.out)⟩⟩
    rw [if_pos c15] at H; have c15b0 : decide (a1 ≤ x11_1) = true := decide_eq_true c15
    clear c15; obtain ⟨ji16, hji16⟩ : ∃ j_ : Int, (wrap64 (x11_1 - a1)) = j_ := ⟨_, rfl⟩; replace H : (if 0 ≤ (ji16) then (if (ji16) < (x10_1.length : Int) then ((some (x10_1.set ((ji16) : Int).toNat (⟨0, (-1)⟩ : S65) : List (S65))).bind fun y155 => (if x11_1 = a1 then ((best_next.f k1 l0_0 l0_1 x11_1 a1 a2 y155 a3_0 a3_1 a3_2 a3_3 a3_4 a3_5).bind fun bt156 => (best_Break.l0 k1 a1 a2 (y155.set ((ji16) : Int).toNat (⟨bt156.1, bt156.2⟩ : S65)) (wrap64 (x11_1 - 1)) l0_0 l0_1 a3_0 a3_1 a3_2 a3_3 a3_4 a3_5)) else (if 0 ≤ x11_1 then (if x11_1 < (l0_1.length : Int) then (if (rd l0_1 x11_1) = 0 then (best_Break.l0 k1 a1 a2 y155 (wrap64 (x11_1 - 1)) l0_0 l0_1 a3_0 a3_1 a3_2 a3_3 a3_4 a3_5) else ((best_next.f k1 l0_0 l0_1 x11_1 a1 a2 y155 a3_0 a3_1 a3_2 a3_3 a3_4 a3_5).bind fun bt160 => (best_Break.l0 k1 a1 a2 (y155.set ((ji16) : Int).toNat (⟨bt160.1, bt160.2⟩ : S65)) (wrap64 (x11_1 - 1)) l0_0 l0_1 a3_0 a3_1 a3_2 a3_3 a3_4 a3_5))) else (none)) else (none)))) else (none)) else (none)) = some (r1, r2) := by first | (rw [hji16] at H; exact H) | (simp only [hji16] at H ⊢; exact H)
    have hji16w : (IntKind.i64.wrap (x11_1 - a1)) = ji16 := (i64_w _).trans hji16
    by_cases c17 : 0 ≤ (ji16)
    rotate_left
    · rw [if_neg c17] at H
      exact absurd H (by simp)
    rw [if_pos c17] at H; have c17b0 : decide (0 ≤ (ji16)) = true := decide_eq_true c17
    clear c17; by_cases c18 : (ji16) < (x10_1.length : Int)
    rotate_left
    · rw [if_neg c18] at H
      exact absurd H (by simp)
    rw [if_pos c18] at H; have c18b0 : decide ((ji16) < (x10_1.length : Int)) = true := decide_eq_true c18
    clear c18; obtain ⟨y155, hy155⟩ : ∃ y_ : List (S65), y_ = (x10_1.set ((ji16) : Int).toNat (⟨0, (-1)⟩ : S65)) := ⟨_, rfl⟩; replace H : (if x11_1 = a1 then ((best_next.f k1 l0_0 l0_1 x11_1 a1 a2 y155 a3_0 a3_1 a3_2 a3_3 a3_4 a3_5).bind fun bt156 => (best_Break.l0 k1 a1 a2 (y155.set ((ji16) : Int).toNat (⟨bt156.1, bt156.2⟩ : S65)) (wrap64 (x11_1 - 1)) l0_0 l0_1 a3_0 a3_1 a3_2 a3_3 a3_4 a3_5)) else (if 0 ≤ x11_1 then (if x11_1 < (l0_1.length : Int) then (if (rd l0_1 x11_1) = 0 then (best_Break.l0 k1 a1 a2 y155 (wrap64 (x11_1 - 1)) l0_0 l0_1 a3_0 a3_1 a3_2 a3_3 a3_4 a3_5) else ((best_next.f k1 l0_0 l0_1 x11_1 a1 a2 y155 a3_0 a3_1 a3_2 a3_3 a3_4 a3_5).bind fun bt160 => (best_Break.l0 k1 a1 a2 (y155.set ((ji16) : Int).toNat (⟨bt160.1, bt160.2⟩ : S65)) (wrap64 (x11_1 - 1)) l0_0 l0_1 a3_0 a3_1 a3_2 a3_3 a3_4 a3_5))) else (none)) else (none))) = some (r1, r2) := by first | (rw [hy155]; with_reducible exact H) | (have H2_ := (Option.bind_some _ _).symm.trans H; rw [hy155]; with_reducible exact H2_) | (have H2_ := (Option.bind_some _ _).symm.trans H; with_reducible exact H2_) | with_reducible exact H | (rw [hy155]; exact H) | exact H
    have Ny155 := zD.mk hy155; clear hy155; by_cases c20 : x11_1 = a1
    · rw [if_pos c20] at H
      have c20b0 : (x11_1 == a1) = true := beq_iff_eq.mpr c20
      have c20b1 : (x11_1 != a1) = false := bne_eq_false_iff_eq.mpr c20
      clear c20; replace H := Option.bind_eq_some_iff.mp H; obtain ⟨⟨t156, t157⟩, A210, H⟩ := H; replace H : (best_Break.l0 k1 a1 a2 (y155.set ((ji16) : Int).toNat (⟨t156, t157⟩ : S65)) (wrap64 (x11_1 - 1)) l0_0 l0_1 a3_0 a3_1 a3_2 a3_3 a3_4 a3_5) = some (r1, r2) := H; have A21 := zD.mk A210; clear A210; obtain ⟨y158, hy158⟩ : ∃ y_ : List (S65), y_ = (y155.set ((ji16) : Int).toNat (⟨t156, t157⟩ : S65)) := ⟨_, rfl⟩; replace H : (best_Break.l0 k1 a1 a2 y158 (wrap64 (x11_1 - 1)) l0_0 l0_1 a3_0 a3_1 a3_2 a3_3 a3_4 a3_5) = some (r1, r2) := by first | (rw [hy158]; with_reducible exact H) | (have H2_ := (Option.bind_some _ _).symm.trans H; rw [hy158]; with_reducible exact H2_) | (have H2_ := (Option.bind_some _ _).symm.trans H; with_reducible exact H2_) | with_reducible exact H | (rw [hy158]; exact H) | exact H
      have Ny158 := zD.mk hy158; clear hy158; have H' := zD.mk H
      clear H; have p19 : 0 ≤ ((ji16) : Int) := of_decide_eq_true (by first | (with_reducible assumption) | assumption)
      have q19 : ((ji16) : Int) < ((x10_1.length : Int) : Int) := of_decide_eq_true (by first | (with_reducible assumption) | assumption)
      obtain ⟨go19, co19, eo19, gb19, gl19, cl19, HG19⟩ := Kd.R_form HO_10.out (by omega)
      (first | cases eo19 | (injection eo19 with ea_ en_ ec_; (first | subst ea_ | (injection ea_ with ea_; subst ea_)); subst ec_; clear en_))
      have GB19 := zD.mk gb19; have GG19 := zD.mk HG19; clear gb19 gl19 HG19; obtain ⟨ce19, hcl19, hM19, hcc19, hfr19⟩ := Kd.R_elem HO_10.out z65 ((ji16) : Int) p19 q19; obtain rfl := k65_openM hM19
      have hx19_0 : wr.cell? ⟨go19, ((ji16) : Int).toNat * 2, none⟩ = some (.int .i64 ((rd_T65 x10_1 (ji16)).f0)) := hcc19 0 _ rfl
      have hx19_1 : wr.cell? ⟨go19, ((ji16) : Int).toNat * 2 + 1, none⟩ = some (.int .i64 ((rd_T65 x10_1 (ji16)).f1)) := hcc19 1 _ rfl
      have hf19_0 : wr.frozen? ⟨go19, ((ji16) : Int).toNat * 2, none⟩ = false := hfr19 0
      have hf19_1 : wr.frozen? ⟨go19, ((ji16) : Int).toNat * 2 + 1, none⟩ = false := hfr19 1
      clear hcl19 hcc19 hfr19 hM19; replace p19 := eq_true p19; replace q19 := eq_true q19; have HX23 := zD.mk (show Kd.R k65 65 wr w.heap.size (fun _ => True) (.slice (some ⟨go19, 0, none⟩) x10_1.length co19) x10_1 from (by (with_reducible repeat (first | apply Kd.R_alloc | apply Kd.R_drewN | apply Kd.R_drew)); exact HO_10.out))
      obtain ⟨ce23, hcl23, hM23, hcc23, hfr23⟩ := Kd.R_elem HX23.out z65 ((ji16) : Int) (of_decide_eq_true (by first | (with_reducible assumption) | assumption)) (by have h_ : ((ji16) : Int) < ((x10_1.length : Int) : Int) := of_decide_eq_true (by first | (with_reducible assumption) | assumption); first | exact h_ | (have e_ := (Kd.R_reads' HO_10.out).1; omega) | simpa using h_)
      obtain rfl := k65_openM hM23
      have HP23 := Kd.R_seg HX23.out ((ji16) : Int) (of_decide_eq_true (by first | (with_reducible assumption) | assumption)) (by have h_ : ((ji16) : Int) < ((x10_1.length : Int) : Int) := of_decide_eq_true (by first | (with_reducible assumption) | assumption); first | exact h_ | (have e_ := (Kd.R_reads' HO_10.out).1; omega) | simpa using h_) (seg := [.int .i64 0, .int .i64 (-1)]) (j := 0) hcl23 hcc23 (show 2 ≤ 2 from by decide) (x' := (⟨0, (-1)⟩ : S65)) (k65_mkM _ _ _ (⟨0, (-1)⟩ : S65) ) (fun _ hk => hk)
      have hx23_0 := hcc23 0 _ rfl; (try simp only [show (k65).sz = 2 from rfl, Nat.mul_one, Nat.add_zero] at hx23_0)
      have hf23_0 := hfr23 0; (try simp only [show (k65).sz = 2 from rfl, Nat.mul_one, Nat.add_zero] at hf23_0)
      have hx23_1 := hcc23 1 _ rfl; (try simp only [show (k65).sz = 2 from rfl, Nat.mul_one, Nat.add_zero] at hx23_1)
      have hf23_1 := hfr23 1; (try simp only [show (k65).sz = 2 from rfl, Nat.mul_one, Nat.add_zero] at hf23_1)
      clear hcl23 hcc23 hfr23 hM23; go_wp2_with (first | ((with_reducible refine gate_store (t := 65) (p := 35) rfl ?_); refine store_event (t := 65) (p := 35) (v := ?vo_w24) (w1 := ((wr.setCell ⟨go19, ((ji16) : Int).toNat * 2, none⟩ (.int .i64 0)).setCell ⟨go19, ((ji16) : Int).toNat * 2 + 1, none⟩ (.int .i64 (-1)))) ?hg ?ho ?hn ?hr ?_; (case ho => rfl); (case hg => rfl); (case hn => rfl); (case hr => first | (go_simp; done) | (go_simp; rfl)); intro w24 hw; have hg : wr.grownBy w24 (some go19) := (by rw [hw]; exact HP23.2); have hp_ : Kd.R k65 65 w24 w.heap.size (fun _ => True) (.slice (some ⟨go19, 0, none⟩) x10_1.length co19) y155 := (by rw [hw, Ny155.out]; exact HP23.1); clear HP23; have n0_ := zD.mk (hp_); have n1_ := zD.mk (blk_grown (g := gb150) (o := .cells #[.slice A0_0 l0_0.length c0_0, .slice A0_1 l0_1.length c0_1] 31 (0, 0)) (by (with_reducible repeat (first | refine zB ?_ _ | refine zC ?_ | refine zA ?_ _)); exact BK150.out) hg (Kd.R_ne HO_10.out BK150.out (by decide))); have n2_ := zD.mk (blk_grown (g := gb151) (o := .cells #[.int .i64 a3_0, .int .i64 a3_1, .int .u8 a3_2, .int .i64 a3_3, .int .i64 a3_4, .float .f64 a3_5] 35 (0, 0)) (by (with_reducible repeat (first | refine zB ?_ _ | refine zC ?_ | refine zA ?_ _)); exact BK151.out) hg (Kd.R_ne HO_10.out BK151.out (by decide))); have n3_ := zD.mk ((by rw [hw]; exact zE (zE (HB.out) GB19.out) GB19.out : Below w.heap.size w w24)); clear HO_10; clear BK150; clear BK151; clear HB; have HO_10 := n0_; have BK150 := n1_; have BK151 := n2_; have HB := n3_; clear n0_ n1_ n2_ n3_; clear hg hw hp_; have hnb25 := NB150_151.out; have hnc25 := NB151_150.out; have hcz26_0 : w24.cell? ⟨gb150, 0, none⟩ = some (.slice A0_0 l0_0.length c0_0) := (zH BK150.out 0).trans rfl; have hcz26_1 : w24.cell? ⟨gb150, 1, none⟩ = some (.slice A0_1 l0_1.length c0_1) := (zH BK150.out 1).trans rfl; have hfz26_0 := zG BK150.out 0; have hfz26_1 := zG BK150.out 1; have hcz27_0 : w24.cell? ⟨gb151, 0, none⟩ = some (.int .i64 a3_0) := (zH BK151.out 0).trans rfl; have hcz27_1 : w24.cell? ⟨gb151, 1, none⟩ = some (.int .i64 a3_1) := (zH BK151.out 1).trans rfl; have hcz27_2 : w24.cell? ⟨gb151, 2, none⟩ = some (.int .u8 a3_2) := (zH BK151.out 2).trans rfl; have hcz27_3 : w24.cell? ⟨gb151, 3, none⟩ = some (.int .i64 a3_3) := (zH BK151.out 3).trans rfl; have hcz27_4 : w24.cell? ⟨gb151, 4, none⟩ = some (.int .i64 a3_4) := (zH BK151.out 4).trans rfl; have hcz27_5 : w24.cell? ⟨gb151, 5, none⟩ = some (.float .f64 a3_5) := (zH BK151.out 5).trans rfl; have hfz27_0 := zG BK151.out 0; have hfz27_1 := zG BK151.out 1; have hfz27_2 := zG BK151.out 2; have hfz27_3 := zG BK151.out 3; have hfz27_4 := zG BK151.out 4; have hfz27_5 := zG BK151.out 5) | ((with_reducible refine gate_callee (f := 24) rfl ?_); refine goesL_ (some 57) rfl rfl Try.func24 (by kernel_rfl) rfl #[.agg #[.slice A0_0 l0_0.length c0_0, .slice A0_1 l0_1.length c0_1], .int .i64 x11_1, .int .i64 a1, .int .i64 a2, .slice (some ⟨go19, 0, none⟩) y155.length co19, .agg #[.int .i64 a3_0, .int .i64 a3_1, .int .u8 a3_2, .int .i64 a3_3, .int .i64 a3_4, .float .f64 a3_5]] rfl (by (try simp only [List.map_toArray, List.map_cons, List.map_nil]); first | done | (rw [show y155.length = x10_1.length from (Kd.R_reads' HO_10.out).1.symm] <;> rfl) | rfl | (simp only [List.length_drop, List.length_take]; rfl)) ?_; (with_reducible refine (best_next.calls k1 _ _ l0_0 _ _ l0_1 x11_1 a1 a2 _ _ y155 a3_0 a3_1 a3_2 a3_3 a3_4 a3_5 t156 t157 _ ?side1 ?side2 ?side3 ?side4 ?side5 ?side6 A21.out).mono ?_); (case side1 => repeat (first | exact (Kd.C_below HR0_0.out HB.out) | (with_reducible refine Kd.C_alloc ?_ _) | (with_reducible refine Kd.C_drewN ?_ _) | (with_reducible refine Kd.C_drew ?_))); (case side2 => exact HC0_0.out); (case side3 => repeat (first | exact (Kd.C_below HR0_1.out HB.out) | (with_reducible refine Kd.C_alloc ?_ _) | (with_reducible refine Kd.C_drewN ?_ _) | (with_reducible refine Kd.C_drew ?_))); (case side4 => exact HC0_1.out); (case side5 => repeat (first | exact (Kd.R_reads' HO_10.out).2.2 | (with_reducible refine Kd.C_alloc ?_ _) | (with_reducible refine Kd.C_drewN ?_ _) | (with_reducible refine Kd.C_drew ?_))); (case side6 => rw [show y155.length = x10_1.length from (Kd.R_reads' HO_10.out).1.symm]; exact (Kd.R_reads' HO_10.out).2.1); rintro e w28 ⟨rfl, hb⟩; refine ⟨_, rfl, ?_⟩; have n0_ := zD.mk (Kd.R_below (by (with_reducible repeat (first | apply Kd.R_alloc | apply Kd.R_drewN | apply Kd.R_drew)); exact HO_10.out) hb); have n1_ := zD.mk (zK (g := gb150) (o := .cells #[.slice A0_0 l0_0.length c0_0, .slice A0_1 l0_1.length c0_1] 31 (0, 0)) (by (with_reducible repeat (first | refine zB ?_ _ | refine zC ?_ | refine zA ?_ _)); exact BK150.out) hb); have n2_ := zD.mk (zK (g := gb151) (o := .cells #[.int .i64 a3_0, .int .i64 a3_1, .int .u8 a3_2, .int .i64 a3_3, .int .i64 a3_4, .float .f64 a3_5] 35 (0, 0)) (by (with_reducible repeat (first | refine zB ?_ _ | refine zC ?_ | refine zA ?_ _)); exact BK151.out) hb); have n3_ := zD.mk (below_step (by repeat (first | (with_reducible first | exact HB.out | apply zJ | apply zF | apply zI | refine zE ?_ GE150.out | refine zE ?_ GE151.out) | exact HB.out)) hb); clear HO_10; clear BK150; clear BK151; clear HB; have HO_10 := n0_; have BK150 := n1_; have BK151 := n2_; have HB := n3_; clear n0_ n1_ n2_ n3_; (try clear hb); (try clear hb2); (try clear hk); (try clear hi); have p22 : 0 ≤ ((ji16) : Int) := of_decide_eq_true (by first | (with_reducible assumption) | assumption); have q22 : ((ji16) : Int) < ((x10_1.length : Int) : Int) := of_decide_eq_true (by first | (with_reducible assumption) | assumption); obtain ⟨ce22, hcl22, hM22, hcc22, hfr22⟩ := Kd.R_elem HO_10.out z65 ((ji16) : Int) p22 q22; obtain rfl := k65_openM hM22; have hx22_0 : w28.cell? ⟨go19, ((ji16) : Int).toNat * 2, none⟩ = some (.int .i64 ((rd_T65 y155 (ji16)).f0)) := hcc22 0 _ rfl; have hx22_1 : w28.cell? ⟨go19, ((ji16) : Int).toNat * 2 + 1, none⟩ = some (.int .i64 ((rd_T65 y155 (ji16)).f1)) := hcc22 1 _ rfl; have hf22_0 : w28.frozen? ⟨go19, ((ji16) : Int).toNat * 2, none⟩ = false := hfr22 0; have hf22_1 : w28.frozen? ⟨go19, ((ji16) : Int).toNat * 2 + 1, none⟩ = false := hfr22 1; clear hcl22 hcc22 hfr22 hM22; replace p22 := eq_true p22; replace q22 := eq_true q22; have HX29 := zD.mk (show Kd.R k65 65 w28 w.heap.size (fun _ => True) (.slice (some ⟨go19, 0, none⟩) x10_1.length co19) y155 from (by (with_reducible repeat (first | apply Kd.R_alloc | apply Kd.R_drewN | apply Kd.R_drew)); exact HO_10.out)); obtain ⟨ce29, hcl29, hM29, hcc29, hfr29⟩ := Kd.R_elem HX29.out z65 ((ji16) : Int) (of_decide_eq_true (by first | (with_reducible assumption) | assumption)) (by have h_ : ((ji16) : Int) < ((x10_1.length : Int) : Int) := of_decide_eq_true (by first | (with_reducible assumption) | assumption); first | exact h_ | (have e_ := (Kd.R_reads' HO_10.out).1; omega) | simpa using h_); obtain rfl := k65_openM hM29; have HP29 := Kd.R_seg HX29.out ((ji16) : Int) (of_decide_eq_true (by first | (with_reducible assumption) | assumption)) (by have h_ : ((ji16) : Int) < ((x10_1.length : Int) : Int) := of_decide_eq_true (by first | (with_reducible assumption) | assumption); first | exact h_ | (have e_ := (Kd.R_reads' HO_10.out).1; omega) | simpa using h_) (seg := [.int .i64 t156, .int .i64 t157]) (j := 0) hcl29 hcc29 (show 2 ≤ 2 from by decide) (x' := (⟨t156, t157⟩ : S65)) (k65_mkM _ _ _ (⟨t156, t157⟩ : S65) ) (fun _ hk => hk); have hx29_0 := hcc29 0 _ rfl; (try simp only [show (k65).sz = 2 from rfl, Nat.mul_one, Nat.add_zero] at hx29_0); have hf29_0 := hfr29 0; (try simp only [show (k65).sz = 2 from rfl, Nat.mul_one, Nat.add_zero] at hf29_0); have hx29_1 := hcc29 1 _ rfl; (try simp only [show (k65).sz = 2 from rfl, Nat.mul_one, Nat.add_zero] at hx29_1); have hf29_1 := hfr29 1; (try simp only [show (k65).sz = 2 from rfl, Nat.mul_one, Nat.add_zero] at hf29_1); clear hcl29 hcc29 hfr29 hM29) | ((with_reducible refine gate_store (t := 65) (p := 58) rfl ?_); refine store_event (t := 65) (p := 58) (v := ?vo_w30) (w1 := ((w28.setCell ⟨go19, ((ji16) : Int).toNat * 2, none⟩ (.int .i64 t156)).setCell ⟨go19, ((ji16) : Int).toNat * 2 + 1, none⟩ (.int .i64 t157))) ?hg ?ho ?hn ?hr ?_; (case ho => rfl); (case hg => rfl); (case hn => rfl); (case hr => first | (go_simp; done) | (go_simp; rfl)); intro w30 hw; have hg : w28.grownBy w30 (some go19) := (by rw [hw]; exact HP29.2); have hp_ : Kd.R k65 65 w30 w.heap.size (fun _ => True) (.slice (some ⟨go19, 0, none⟩) x10_1.length co19) y158 := (by rw [hw, Ny158.out]; exact HP29.1); clear HP29; have n0_ := zD.mk (hp_); have n1_ := zD.mk (blk_grown (g := gb150) (o := .cells #[.slice A0_0 l0_0.length c0_0, .slice A0_1 l0_1.length c0_1] 31 (0, 0)) (by (with_reducible repeat (first | refine zB ?_ _ | refine zC ?_ | refine zA ?_ _)); exact BK150.out) hg (Kd.R_ne HO_10.out BK150.out (by decide))); have n2_ := zD.mk (blk_grown (g := gb151) (o := .cells #[.int .i64 a3_0, .int .i64 a3_1, .int .u8 a3_2, .int .i64 a3_3, .int .i64 a3_4, .float .f64 a3_5] 35 (0, 0)) (by (with_reducible repeat (first | refine zB ?_ _ | refine zC ?_ | refine zA ?_ _)); exact BK151.out) hg (Kd.R_ne HO_10.out BK151.out (by decide))); have n3_ := zD.mk ((by rw [hw]; exact zE (zE (HB.out) GB19.out) GB19.out : Below w.heap.size w w30)); clear HO_10; clear BK150; clear BK151; clear HB; have HO_10 := n0_; have BK150 := n1_; have BK151 := n2_; have HB := n3_; clear n0_ n1_ n2_ n3_; clear hg hw hp_))
      go_roundg k1
      case measure => have := HK1.out; omega
      case rel => exact ⟨(y158), (wrap64 (x11_1 - 1)), (by first | rfl | (simp; done) | (simp [*]; done)), H', ⟨by have := HK1.out; omega⟩, ⟨by (with_reducible repeat (first | apply Kd.R_alloc | apply Kd.R_drewN | apply Kd.R_drew)); exact HO_10.out⟩, ⟨by (with_reducible repeat (first | refine zB ?_ _ | refine zC ?_ | refine zA ?_ _)); exact BK150.out⟩, ⟨by (with_reducible repeat (first | refine zB ?_ _ | refine zC ?_ | refine zA ?_ _)); exact BK151.out⟩, ⟨by repeat (first | (with_reducible first | exact HB.out | apply zJ | apply zF | apply zI | refine zE ?_ GE150.out | refine zE ?_ GE151.out) | exact HB.out)⟩⟩
    rw [if_neg c20] at H; have c20b0 : (x11_1 == a1) = false := beq_eq_false_iff_ne.mpr c20
    have c20b1 : (x11_1 != a1) = true := bne_iff_ne.mpr c20
    by_cases c31 : 0 ≤ x11_1
    rotate_left
    · rw [if_neg c31] at H
      exact absurd H (by simp)
    rw [if_pos c31] at H; have c31b0 : decide (0 ≤ x11_1) = true := decide_eq_true c31
    clear c31; by_cases c32 : x11_1 < (l0_1.length : Int)
    rotate_left
    · rw [if_neg c32] at H
      exact absurd H (by simp)
    rw [if_pos c32] at H; have c32b0 : decide (x11_1 < (l0_1.length : Int)) = true := decide_eq_true c32
    clear c32; by_cases c33 : (rd l0_1 x11_1) = 0
    · rw [if_pos c33] at H
      have c33b0 : ((rd l0_1 x11_1) == 0) = true := beq_iff_eq.mpr c33
      have c33b1 : ((rd l0_1 x11_1) != 0) = false := bne_eq_false_iff_eq.mpr c33
      clear c33; have H' := zD.mk H
      clear H; have p19 : 0 ≤ ((ji16) : Int) := of_decide_eq_true (by first | (with_reducible assumption) | assumption)
      have q19 : ((ji16) : Int) < ((x10_1.length : Int) : Int) := of_decide_eq_true (by first | (with_reducible assumption) | assumption)
      obtain ⟨go19, co19, eo19, gb19, gl19, cl19, HG19⟩ := Kd.R_form HO_10.out (by omega)
      (first | cases eo19 | (injection eo19 with ea_ en_ ec_; (first | subst ea_ | (injection ea_ with ea_; subst ea_)); subst ec_; clear en_))
      have GB19 := zD.mk gb19; have GG19 := zD.mk HG19; clear gb19 gl19 HG19; obtain ⟨ce19, hcl19, hM19, hcc19, hfr19⟩ := Kd.R_elem HO_10.out z65 ((ji16) : Int) p19 q19; obtain rfl := k65_openM hM19
      have hx19_0 : wr.cell? ⟨go19, ((ji16) : Int).toNat * 2, none⟩ = some (.int .i64 ((rd_T65 x10_1 (ji16)).f0)) := hcc19 0 _ rfl
      have hx19_1 : wr.cell? ⟨go19, ((ji16) : Int).toNat * 2 + 1, none⟩ = some (.int .i64 ((rd_T65 x10_1 (ji16)).f1)) := hcc19 1 _ rfl
      have hf19_0 : wr.frozen? ⟨go19, ((ji16) : Int).toNat * 2, none⟩ = false := hfr19 0
      have hf19_1 : wr.frozen? ⟨go19, ((ji16) : Int).toNat * 2 + 1, none⟩ = false := hfr19 1
      clear hcl19 hcc19 hfr19 hM19; replace p19 := eq_true p19; replace q19 := eq_true q19; have HX34 := zD.mk (show Kd.R k65 65 wr w.heap.size (fun _ => True) (.slice (some ⟨go19, 0, none⟩) x10_1.length co19) x10_1 from (by (with_reducible repeat (first | apply Kd.R_alloc | apply Kd.R_drewN | apply Kd.R_drew)); exact HO_10.out))
      obtain ⟨ce34, hcl34, hM34, hcc34, hfr34⟩ := Kd.R_elem HX34.out z65 ((ji16) : Int) (of_decide_eq_true (by first | (with_reducible assumption) | assumption)) (by have h_ : ((ji16) : Int) < ((x10_1.length : Int) : Int) := of_decide_eq_true (by first | (with_reducible assumption) | assumption); first | exact h_ | (have e_ := (Kd.R_reads' HO_10.out).1; omega) | simpa using h_)
      obtain rfl := k65_openM hM34
      have HP34 := Kd.R_seg HX34.out ((ji16) : Int) (of_decide_eq_true (by first | (with_reducible assumption) | assumption)) (by have h_ : ((ji16) : Int) < ((x10_1.length : Int) : Int) := of_decide_eq_true (by first | (with_reducible assumption) | assumption); first | exact h_ | (have e_ := (Kd.R_reads' HO_10.out).1; omega) | simpa using h_) (seg := [.int .i64 0, .int .i64 (-1)]) (j := 0) hcl34 hcc34 (show 2 ≤ 2 from by decide) (x' := (⟨0, (-1)⟩ : S65)) (k65_mkM _ _ _ (⟨0, (-1)⟩ : S65) ) (fun _ hk => hk)
      have hx34_0 := hcc34 0 _ rfl; (try simp only [show (k65).sz = 2 from rfl, Nat.mul_one, Nat.add_zero] at hx34_0)
      have hf34_0 := hfr34 0; (try simp only [show (k65).sz = 2 from rfl, Nat.mul_one, Nat.add_zero] at hf34_0)
      have hx34_1 := hcc34 1 _ rfl; (try simp only [show (k65).sz = 2 from rfl, Nat.mul_one, Nat.add_zero] at hx34_1)
      have hf34_1 := hfr34 1; (try simp only [show (k65).sz = 2 from rfl, Nat.mul_one, Nat.add_zero] at hf34_1)
      clear hcl34 hcc34 hfr34 hM34; go_wp2_with (first | ((with_reducible refine gate_store (t := 65) (p := 35) rfl ?_); refine store_event (t := 65) (p := 35) (v := ?vo_w35) (w1 := ((wr.setCell ⟨go19, ((ji16) : Int).toNat * 2, none⟩ (.int .i64 0)).setCell ⟨go19, ((ji16) : Int).toNat * 2 + 1, none⟩ (.int .i64 (-1)))) ?hg ?ho ?hn ?hr ?_; (case ho => rfl); (case hg => rfl); (case hn => rfl); (case hr => first | (go_simp; done) | (go_simp; rfl)); intro w35 hw; have hg : wr.grownBy w35 (some go19) := (by rw [hw]; exact HP34.2); have hp_ : Kd.R k65 65 w35 w.heap.size (fun _ => True) (.slice (some ⟨go19, 0, none⟩) x10_1.length co19) y155 := (by rw [hw, Ny155.out]; exact HP34.1); clear HP34; have n0_ := zD.mk (hp_); have n1_ := zD.mk (blk_grown (g := gb150) (o := .cells #[.slice A0_0 l0_0.length c0_0, .slice A0_1 l0_1.length c0_1] 31 (0, 0)) (by (with_reducible repeat (first | refine zB ?_ _ | refine zC ?_ | refine zA ?_ _)); exact BK150.out) hg (Kd.R_ne HO_10.out BK150.out (by decide))); have n2_ := zD.mk (blk_grown (g := gb151) (o := .cells #[.int .i64 a3_0, .int .i64 a3_1, .int .u8 a3_2, .int .i64 a3_3, .int .i64 a3_4, .float .f64 a3_5] 35 (0, 0)) (by (with_reducible repeat (first | refine zB ?_ _ | refine zC ?_ | refine zA ?_ _)); exact BK151.out) hg (Kd.R_ne HO_10.out BK151.out (by decide))); have n3_ := zD.mk ((by rw [hw]; exact zE (zE (HB.out) GB19.out) GB19.out : Below w.heap.size w w35)); clear HO_10; clear BK150; clear BK151; clear HB; have HO_10 := n0_; have BK150 := n1_; have BK151 := n2_; have HB := n3_; clear n0_ n1_ n2_ n3_; clear hg hw hp_; have hnb36 := NB150_151.out; have hnc36 := NB151_150.out; have hcz37_0 : w35.cell? ⟨gb150, 0, none⟩ = some (.slice A0_0 l0_0.length c0_0) := (zH BK150.out 0).trans rfl; have hcz37_1 : w35.cell? ⟨gb150, 1, none⟩ = some (.slice A0_1 l0_1.length c0_1) := (zH BK150.out 1).trans rfl; have hfz37_0 := zG BK150.out 0; have hfz37_1 := zG BK150.out 1; have p159 : 0 ≤ (x11_1 : Int) := of_decide_eq_true (by first | (with_reducible assumption) | assumption); have q159 : x11_1 < (l0_1.length : Int) := of_decide_eq_true (by first | (with_reducible assumption) | assumption); obtain ⟨ad159, e159, hx159_0⟩ := Kd.at_int HR0_1.out x11_1 p159 q159; cases e159; replace hx159_0 := (HB.out.cell (World.block_lt_of_cell? w _ hx159_0)).trans hx159_0; replace p159 := eq_true p159; replace q159 := eq_true q159))
      go_roundg k1
      case measure => have := HK1.out; omega
      case rel => exact ⟨(y155), (wrap64 (x11_1 - 1)), (by first | rfl | (simp; done) | (simp [*]; done)), H', ⟨by have := HK1.out; omega⟩, ⟨by (with_reducible repeat (first | apply Kd.R_alloc | apply Kd.R_drewN | apply Kd.R_drew)); exact HO_10.out⟩, ⟨by (with_reducible repeat (first | refine zB ?_ _ | refine zC ?_ | refine zA ?_ _)); exact BK150.out⟩, ⟨by (with_reducible repeat (first | refine zB ?_ _ | refine zC ?_ | refine zA ?_ _)); exact BK151.out⟩, ⟨by repeat (first | (with_reducible first | exact HB.out | apply zJ | apply zF | apply zI | refine zE ?_ GE150.out | refine zE ?_ GE151.out) | exact HB.out)⟩⟩
    rw [if_neg c33] at H; have c33b0 : ((rd l0_1 x11_1) == 0) = false := beq_eq_false_iff_ne.mpr c33
    have c33b1 : ((rd l0_1 x11_1) != 0) = true := bne_iff_ne.mpr c33
    replace H := Option.bind_eq_some_iff.mp H; obtain ⟨⟨t160, t161⟩, A380, H⟩ := H; replace H : (best_Break.l0 k1 a1 a2 (y155.set ((ji16) : Int).toNat (⟨t160, t161⟩ : S65)) (wrap64 (x11_1 - 1)) l0_0 l0_1 a3_0 a3_1 a3_2 a3_3 a3_4 a3_5) = some (r1, r2) := H; have A38 := zD.mk A380; clear A380; obtain ⟨y162, hy162⟩ : ∃ y_ : List (S65), y_ = (y155.set ((ji16) : Int).toNat (⟨t160, t161⟩ : S65)) := ⟨_, rfl⟩; replace H : (best_Break.l0 k1 a1 a2 y162 (wrap64 (x11_1 - 1)) l0_0 l0_1 a3_0 a3_1 a3_2 a3_3 a3_4 a3_5) = some (r1, r2) := by first | (rw [hy162]; with_reducible exact H) | (have H2_ := (Option.bind_some _ _).symm.trans H; rw [hy162]; with_reducible exact H2_) | (have H2_ := (Option.bind_some _ _).symm.trans H; with_reducible exact H2_) | with_reducible exact H | (rw [hy162]; exact H) | exact H
    have Ny162 := zD.mk hy162; clear hy162; have H' := zD.mk H
    clear H; have p19 : 0 ≤ ((ji16) : Int) := of_decide_eq_true (by first | (with_reducible assumption) | assumption)
    have q19 : ((ji16) : Int) < ((x10_1.length : Int) : Int) := of_decide_eq_true (by first | (with_reducible assumption) | assumption)
    obtain ⟨go19, co19, eo19, gb19, gl19, cl19, HG19⟩ := Kd.R_form HO_10.out (by omega)
    (first | cases eo19 | (injection eo19 with ea_ en_ ec_; (first | subst ea_ | (injection ea_ with ea_; subst ea_)); subst ec_; clear en_))
    have GB19 := zD.mk gb19; have GG19 := zD.mk HG19; clear gb19 gl19 HG19; obtain ⟨ce19, hcl19, hM19, hcc19, hfr19⟩ := Kd.R_elem HO_10.out z65 ((ji16) : Int) p19 q19; obtain rfl := k65_openM hM19
    have hx19_0 : wr.cell? ⟨go19, ((ji16) : Int).toNat * 2, none⟩ = some (.int .i64 ((rd_T65 x10_1 (ji16)).f0)) := hcc19 0 _ rfl
    have hx19_1 : wr.cell? ⟨go19, ((ji16) : Int).toNat * 2 + 1, none⟩ = some (.int .i64 ((rd_T65 x10_1 (ji16)).f1)) := hcc19 1 _ rfl
    have hf19_0 : wr.frozen? ⟨go19, ((ji16) : Int).toNat * 2, none⟩ = false := hfr19 0
    have hf19_1 : wr.frozen? ⟨go19, ((ji16) : Int).toNat * 2 + 1, none⟩ = false := hfr19 1
    clear hcl19 hcc19 hfr19 hM19; replace p19 := eq_true p19; replace q19 := eq_true q19; have HX40 := zD.mk (show Kd.R k65 65 wr w.heap.size (fun _ => True) (.slice (some ⟨go19, 0, none⟩) x10_1.length co19) x10_1 from (by (with_reducible repeat (first | apply Kd.R_alloc | apply Kd.R_drewN | apply Kd.R_drew)); exact HO_10.out))
    obtain ⟨ce40, hcl40, hM40, hcc40, hfr40⟩ := Kd.R_elem HX40.out z65 ((ji16) : Int) (of_decide_eq_true (by first | (with_reducible assumption) | assumption)) (by have h_ : ((ji16) : Int) < ((x10_1.length : Int) : Int) := of_decide_eq_true (by first | (with_reducible assumption) | assumption); first | exact h_ | (have e_ := (Kd.R_reads' HO_10.out).1; omega) | simpa using h_)
    obtain rfl := k65_openM hM40
    have HP40 := Kd.R_seg HX40.out ((ji16) : Int) (of_decide_eq_true (by first | (with_reducible assumption) | assumption)) (by have h_ : ((ji16) : Int) < ((x10_1.length : Int) : Int) := of_decide_eq_true (by first | (with_reducible assumption) | assumption); first | exact h_ | (have e_ := (Kd.R_reads' HO_10.out).1; omega) | simpa using h_) (seg := [.int .i64 0, .int .i64 (-1)]) (j := 0) hcl40 hcc40 (show 2 ≤ 2 from by decide) (x' := (⟨0, (-1)⟩ : S65)) (k65_mkM _ _ _ (⟨0, (-1)⟩ : S65) ) (fun _ hk => hk)
    have hx40_0 := hcc40 0 _ rfl; (try simp only [show (k65).sz = 2 from rfl, Nat.mul_one, Nat.add_zero] at hx40_0)
    have hf40_0 := hfr40 0; (try simp only [show (k65).sz = 2 from rfl, Nat.mul_one, Nat.add_zero] at hf40_0)
    have hx40_1 := hcc40 1 _ rfl; (try simp only [show (k65).sz = 2 from rfl, Nat.mul_one, Nat.add_zero] at hx40_1)
    have hf40_1 := hfr40 1; (try simp only [show (k65).sz = 2 from rfl, Nat.mul_one, Nat.add_zero] at hf40_1)
    clear hcl40 hcc40 hfr40 hM40; go_wp2_with (first | ((with_reducible refine gate_store (t := 65) (p := 35) rfl ?_); refine store_event (t := 65) (p := 35) (v := ?vo_w41) (w1 := ((wr.setCell ⟨go19, ((ji16) : Int).toNat * 2, none⟩ (.int .i64 0)).setCell ⟨go19, ((ji16) : Int).toNat * 2 + 1, none⟩ (.int .i64 (-1)))) ?hg ?ho ?hn ?hr ?_; (case ho => rfl); (case hg => rfl); (case hn => rfl); (case hr => first | (go_simp; done) | (go_simp; rfl)); intro w41 hw; have hg : wr.grownBy w41 (some go19) := (by rw [hw]; exact HP40.2); have hp_ : Kd.R k65 65 w41 w.heap.size (fun _ => True) (.slice (some ⟨go19, 0, none⟩) x10_1.length co19) y155 := (by rw [hw, Ny155.out]; exact HP40.1); clear HP40; have n0_ := zD.mk (hp_); have n1_ := zD.mk (blk_grown (g := gb150) (o := .cells #[.slice A0_0 l0_0.length c0_0, .slice A0_1 l0_1.length c0_1] 31 (0, 0)) (by (with_reducible repeat (first | refine zB ?_ _ | refine zC ?_ | refine zA ?_ _)); exact BK150.out) hg (Kd.R_ne HO_10.out BK150.out (by decide))); have n2_ := zD.mk (blk_grown (g := gb151) (o := .cells #[.int .i64 a3_0, .int .i64 a3_1, .int .u8 a3_2, .int .i64 a3_3, .int .i64 a3_4, .float .f64 a3_5] 35 (0, 0)) (by (with_reducible repeat (first | refine zB ?_ _ | refine zC ?_ | refine zA ?_ _)); exact BK151.out) hg (Kd.R_ne HO_10.out BK151.out (by decide))); have n3_ := zD.mk ((by rw [hw]; exact zE (zE (HB.out) GB19.out) GB19.out : Below w.heap.size w w41)); clear HO_10; clear BK150; clear BK151; clear HB; have HO_10 := n0_; have BK150 := n1_; have BK151 := n2_; have HB := n3_; clear n0_ n1_ n2_ n3_; clear hg hw hp_; have hnb42 := NB150_151.out; have hnc42 := NB151_150.out; have hcz43_0 : w41.cell? ⟨gb150, 0, none⟩ = some (.slice A0_0 l0_0.length c0_0) := (zH BK150.out 0).trans rfl; have hcz43_1 : w41.cell? ⟨gb150, 1, none⟩ = some (.slice A0_1 l0_1.length c0_1) := (zH BK150.out 1).trans rfl; have hfz43_0 := zG BK150.out 0; have hfz43_1 := zG BK150.out 1; have p159 : 0 ≤ (x11_1 : Int) := of_decide_eq_true (by first | (with_reducible assumption) | assumption); have q159 : x11_1 < (l0_1.length : Int) := of_decide_eq_true (by first | (with_reducible assumption) | assumption); obtain ⟨ad159, e159, hx159_0⟩ := Kd.at_int HR0_1.out x11_1 p159 q159; cases e159; replace hx159_0 := (HB.out.cell (World.block_lt_of_cell? w _ hx159_0)).trans hx159_0; replace p159 := eq_true p159; replace q159 := eq_true q159; have hcz44_0 : w41.cell? ⟨gb151, 0, none⟩ = some (.int .i64 a3_0) := (zH BK151.out 0).trans rfl; have hcz44_1 : w41.cell? ⟨gb151, 1, none⟩ = some (.int .i64 a3_1) := (zH BK151.out 1).trans rfl; have hcz44_2 : w41.cell? ⟨gb151, 2, none⟩ = some (.int .u8 a3_2) := (zH BK151.out 2).trans rfl; have hcz44_3 : w41.cell? ⟨gb151, 3, none⟩ = some (.int .i64 a3_3) := (zH BK151.out 3).trans rfl; have hcz44_4 : w41.cell? ⟨gb151, 4, none⟩ = some (.int .i64 a3_4) := (zH BK151.out 4).trans rfl; have hcz44_5 : w41.cell? ⟨gb151, 5, none⟩ = some (.float .f64 a3_5) := (zH BK151.out 5).trans rfl; have hfz44_0 := zG BK151.out 0; have hfz44_1 := zG BK151.out 1; have hfz44_2 := zG BK151.out 2; have hfz44_3 := zG BK151.out 3; have hfz44_4 := zG BK151.out 4; have hfz44_5 := zG BK151.out 5) | ((with_reducible refine gate_callee (f := 24) rfl ?_); refine goesL_ (some 57) rfl rfl Try.func24 (by kernel_rfl) rfl #[.agg #[.slice A0_0 l0_0.length c0_0, .slice (some ad159) l0_1.length c0_1], .int .i64 x11_1, .int .i64 a1, .int .i64 a2, .slice (some ⟨go19, 0, none⟩) y155.length co19, .agg #[.int .i64 a3_0, .int .i64 a3_1, .int .u8 a3_2, .int .i64 a3_3, .int .i64 a3_4, .float .f64 a3_5]] rfl (by (try simp only [List.map_toArray, List.map_cons, List.map_nil]); first | done | (rw [show y155.length = x10_1.length from (Kd.R_reads' HO_10.out).1.symm] <;> rfl) | rfl | (simp only [List.length_drop, List.length_take]; rfl)) ?_; (with_reducible refine (best_next.calls k1 _ _ l0_0 _ _ l0_1 x11_1 a1 a2 _ _ y155 a3_0 a3_1 a3_2 a3_3 a3_4 a3_5 t160 t161 _ ?side1 ?side2 ?side3 ?side4 ?side5 ?side6 A38.out).mono ?_); (case side1 => repeat (first | exact (Kd.C_below HR0_0.out HB.out) | (with_reducible refine Kd.C_alloc ?_ _) | (with_reducible refine Kd.C_drewN ?_ _) | (with_reducible refine Kd.C_drew ?_))); (case side2 => exact HC0_0.out); (case side3 => repeat (first | exact (Kd.C_below HR0_1.out HB.out) | (with_reducible refine Kd.C_alloc ?_ _) | (with_reducible refine Kd.C_drewN ?_ _) | (with_reducible refine Kd.C_drew ?_))); (case side4 => exact HC0_1.out); (case side5 => repeat (first | exact (Kd.R_reads' HO_10.out).2.2 | (with_reducible refine Kd.C_alloc ?_ _) | (with_reducible refine Kd.C_drewN ?_ _) | (with_reducible refine Kd.C_drew ?_))); (case side6 => rw [show y155.length = x10_1.length from (Kd.R_reads' HO_10.out).1.symm]; exact (Kd.R_reads' HO_10.out).2.1); rintro e w45 ⟨rfl, hb⟩; refine ⟨_, rfl, ?_⟩; have n0_ := zD.mk (Kd.R_below (by (with_reducible repeat (first | apply Kd.R_alloc | apply Kd.R_drewN | apply Kd.R_drew)); exact HO_10.out) hb); have n1_ := zD.mk (zK (g := gb150) (o := .cells #[.slice A0_0 l0_0.length c0_0, .slice (some ad159) l0_1.length c0_1] 31 (0, 0)) (by (with_reducible repeat (first | refine zB ?_ _ | refine zC ?_ | refine zA ?_ _)); exact BK150.out) hb); have n2_ := zD.mk (zK (g := gb151) (o := .cells #[.int .i64 a3_0, .int .i64 a3_1, .int .u8 a3_2, .int .i64 a3_3, .int .i64 a3_4, .float .f64 a3_5] 35 (0, 0)) (by (with_reducible repeat (first | refine zB ?_ _ | refine zC ?_ | refine zA ?_ _)); exact BK151.out) hb); have n3_ := zD.mk (below_step (by repeat (first | (with_reducible first | exact HB.out | apply zJ | apply zF | apply zI | refine zE ?_ GE150.out | refine zE ?_ GE151.out) | exact HB.out)) hb); clear HO_10; clear BK150; clear BK151; clear HB; have HO_10 := n0_; have BK150 := n1_; have BK151 := n2_; have HB := n3_; clear n0_ n1_ n2_ n3_; (try clear hb); (try clear hb2); (try clear hk); (try clear hi); have p39 : 0 ≤ ((ji16) : Int) := of_decide_eq_true (by first | (with_reducible assumption) | assumption); have q39 : ((ji16) : Int) < ((x10_1.length : Int) : Int) := of_decide_eq_true (by first | (with_reducible assumption) | assumption); obtain ⟨ce39, hcl39, hM39, hcc39, hfr39⟩ := Kd.R_elem HO_10.out z65 ((ji16) : Int) p39 q39; obtain rfl := k65_openM hM39; have hx39_0 : w45.cell? ⟨go19, ((ji16) : Int).toNat * 2, none⟩ = some (.int .i64 ((rd_T65 y155 (ji16)).f0)) := hcc39 0 _ rfl; have hx39_1 : w45.cell? ⟨go19, ((ji16) : Int).toNat * 2 + 1, none⟩ = some (.int .i64 ((rd_T65 y155 (ji16)).f1)) := hcc39 1 _ rfl; have hf39_0 : w45.frozen? ⟨go19, ((ji16) : Int).toNat * 2, none⟩ = false := hfr39 0; have hf39_1 : w45.frozen? ⟨go19, ((ji16) : Int).toNat * 2 + 1, none⟩ = false := hfr39 1; clear hcl39 hcc39 hfr39 hM39; replace p39 := eq_true p39; replace q39 := eq_true q39; have HX46 := zD.mk (show Kd.R k65 65 w45 w.heap.size (fun _ => True) (.slice (some ⟨go19, 0, none⟩) x10_1.length co19) y155 from (by (with_reducible repeat (first | apply Kd.R_alloc | apply Kd.R_drewN | apply Kd.R_drew)); exact HO_10.out)); obtain ⟨ce46, hcl46, hM46, hcc46, hfr46⟩ := Kd.R_elem HX46.out z65 ((ji16) : Int) (of_decide_eq_true (by first | (with_reducible assumption) | assumption)) (by have h_ : ((ji16) : Int) < ((x10_1.length : Int) : Int) := of_decide_eq_true (by first | (with_reducible assumption) | assumption); first | exact h_ | (have e_ := (Kd.R_reads' HO_10.out).1; omega) | simpa using h_); obtain rfl := k65_openM hM46; have HP46 := Kd.R_seg HX46.out ((ji16) : Int) (of_decide_eq_true (by first | (with_reducible assumption) | assumption)) (by have h_ : ((ji16) : Int) < ((x10_1.length : Int) : Int) := of_decide_eq_true (by first | (with_reducible assumption) | assumption); first | exact h_ | (have e_ := (Kd.R_reads' HO_10.out).1; omega) | simpa using h_) (seg := [.int .i64 t160, .int .i64 t161]) (j := 0) hcl46 hcc46 (show 2 ≤ 2 from by decide) (x' := (⟨t160, t161⟩ : S65)) (k65_mkM _ _ _ (⟨t160, t161⟩ : S65) ) (fun _ hk => hk); have hx46_0 := hcc46 0 _ rfl; (try simp only [show (k65).sz = 2 from rfl, Nat.mul_one, Nat.add_zero] at hx46_0); have hf46_0 := hfr46 0; (try simp only [show (k65).sz = 2 from rfl, Nat.mul_one, Nat.add_zero] at hf46_0); have hx46_1 := hcc46 1 _ rfl; (try simp only [show (k65).sz = 2 from rfl, Nat.mul_one, Nat.add_zero] at hx46_1); have hf46_1 := hfr46 1; (try simp only [show (k65).sz = 2 from rfl, Nat.mul_one, Nat.add_zero] at hf46_1); clear hcl46 hcc46 hfr46 hM46) | ((with_reducible refine gate_store (t := 65) (p := 58) rfl ?_); refine store_event (t := 65) (p := 58) (v := ?vo_w47) (w1 := ((w45.setCell ⟨go19, ((ji16) : Int).toNat * 2, none⟩ (.int .i64 t160)).setCell ⟨go19, ((ji16) : Int).toNat * 2 + 1, none⟩ (.int .i64 t161))) ?hg ?ho ?hn ?hr ?_; (case ho => rfl); (case hg => rfl); (case hn => rfl); (case hr => first | (go_simp; done) | (go_simp; rfl)); intro w47 hw; have hg : w45.grownBy w47 (some go19) := (by rw [hw]; exact HP46.2); have hp_ : Kd.R k65 65 w47 w.heap.size (fun _ => True) (.slice (some ⟨go19, 0, none⟩) x10_1.length co19) y162 := (by rw [hw, Ny162.out]; exact HP46.1); clear HP46; have n0_ := zD.mk (hp_); have n1_ := zD.mk (blk_grown (g := gb150) (o := .cells #[.slice A0_0 l0_0.length c0_0, .slice (some ad159) l0_1.length c0_1] 31 (0, 0)) (by (with_reducible repeat (first | refine zB ?_ _ | refine zC ?_ | refine zA ?_ _)); exact BK150.out) hg (Kd.R_ne HO_10.out BK150.out (by decide))); have n2_ := zD.mk (blk_grown (g := gb151) (o := .cells #[.int .i64 a3_0, .int .i64 a3_1, .int .u8 a3_2, .int .i64 a3_3, .int .i64 a3_4, .float .f64 a3_5] 35 (0, 0)) (by (with_reducible repeat (first | refine zB ?_ _ | refine zC ?_ | refine zA ?_ _)); exact BK151.out) hg (Kd.R_ne HO_10.out BK151.out (by decide))); have n3_ := zD.mk ((by rw [hw]; exact zE (zE (HB.out) GB19.out) GB19.out : Below w.heap.size w w47)); clear HO_10; clear BK150; clear BK151; clear HB; have HO_10 := n0_; have BK150 := n1_; have BK151 := n2_; have HB := n3_; clear n0_ n1_ n2_ n3_; clear hg hw hp_))
    go_roundg k1
    case measure => have := HK1.out; omega
    case rel => exact ⟨(y162), (wrap64 (x11_1 - 1)), (by first | rfl | (simp; done) | (simp [*]; done)), H', ⟨by have := HK1.out; omega⟩, ⟨by (with_reducible repeat (first | apply Kd.R_alloc | apply Kd.R_drewN | apply Kd.R_drew)); exact HO_10.out⟩, ⟨by (with_reducible repeat (first | refine zB ?_ _ | refine zC ?_ | refine zA ?_ _)); exact BK150.out⟩, ⟨by (with_reducible repeat (first | refine zB ?_ _ | refine zC ?_ | refine zA ?_ _)); exact BK151.out⟩, ⟨by repeat (first | (with_reducible first | exact HB.out | apply zJ | apply zF | apply zI | refine zE ?_ GE150.out | refine zE ?_ GE151.out) | exact HB.out)⟩⟩
end Go.Proofs.Ytlgclhhkgohanaa.F
end
section
namespace Go.Proofs.Ytlgclhhkgohanaa.F
open Go.RowKit Go.Proofs.YtlgclhhkgohanaaW.PrintWords Go.Proofs.YtlgclhhkgohanaaW.PrintLast Go.Proofs.YtlgclhhkgohanaaW.PrintMore
attribute [local go_sem] max2_int min2_int max_two min_two max_three min_three max_four min_four   -- for this text's walks alone
set_option linter.unusedVariables false
set_option linter.unusedSimpArgs false
def stanzalaw14_Text.l0 : Nat → List (S45) → List Int → Int → Int → Option ((List (S62)) × List Int)
  | 0, _, _, _, _ => none
  | k + 1, x3, x8, x9, x10 => if x10 < x9 then (if 0 ≤ x10 then (if x10 < (x8.length : Int) then (if (rd x8 x10) = 32 then (if x3.length < 35184372088832 then (stanzalaw14_Text.l0 k (x3 ++ [(⟨1, 1, 0, 1⟩ : S45)]) x8 x9 (wrap64 (x10 + 1))) else (none)) else (if x3.length < 35184372088832 then (stanzalaw14_Text.l0 k (x3 ++ [(⟨1, 0, 0, 0⟩ : S45)]) x8 x9 (wrap64 (x10 + 1))) else (none))) else (none)) else (none)) else ((stanzahand03_Para.f k x3).bind fun bt205 => (some (bt205.1, bt205.2)))
def stanzalaw14_Text.f (k : Nat) (a0 : ByteArray) : Option ((List (S62)) × List Int) := if (a0.size : Int) ≤ 140737488355327 then ((some (bytesOf a0 : List Int)).bind fun y193 => (stanzalaw14_Text.l0 k ([] : List (S45)) y193 (y193.length : Int) 0)) else (none)
theorem stanzalaw14_Text.mono_l : ∀ k, (∀ y0 y1 y2 y3, LeO (stanzalaw14_Text.l0 k y0 y1 y2 y3) (stanzalaw14_Text.l0 (k + 1) y0 y1 y2 y3))
  | 0 => fun _ _ _ _ r h => by simp [stanzalaw14_Text.l0] at h
  | k + 1 => by
    have ih0 := stanzalaw14_Text.mono_l k
    · intro y0 y1 y2 y3
      unfold stanzalaw14_Text.l0
      repeat' first
      | (with_reducible exact ih0 _ _ _ _)
      | (with_reducible exact stanzahand03_Para.mono _ _)
      | (with_reducible exact LeO.refl _)
      | (with_reducible exact LeO.none _)
      | (with_reducible refine LeO.ite ?_ ?_)
      | (with_reducible refine LeO.bind ?_ (fun _ => ?_))
      | exact ih0 _ _ _ _
      | exact stanzahand03_Para.mono _ _
      | exact LeO.none _
      | refine LeO.ite ?_ ?_
      | refine LeO.bind ?_ (fun _ => ?_)
theorem stanzalaw14_Text.mono : ∀ a0 k, LeO (stanzalaw14_Text.f k a0) (stanzalaw14_Text.f (k + 1) a0) := by
  intro a0 k
  have ih0 := stanzalaw14_Text.mono_l k; unfold stanzalaw14_Text.f
  repeat' first
      | (with_reducible exact ih0 _ _ _ _)
      | (with_reducible exact stanzahand03_Para.mono _ _)
      | (with_reducible exact LeO.refl _)
      | (with_reducible exact LeO.none _)
      | (with_reducible refine LeO.ite ?_ ?_)
      | (with_reducible refine LeO.bind ?_ (fun _ => ?_))
      | exact ih0 _ _ _ _
      | exact stanzahand03_Para.mono _ _
      | exact LeO.none _
      | refine LeO.ite ?_ ?_
      | refine LeO.bind ?_ (fun _ => ?_)
set_option maxHeartbeats 8000000 in
set_option maxRecDepth 100000 in
theorem stanzalaw14_Text.calls (k : Nat) (a0 : ByteArray) (r1 : List (S62)) (r2 : List Int) (w : World) (h : stanzalaw14_Text.f k a0 = some (r1, r2)) :
    Calls Try.prog 23 #[.string a0] w fun e w' => ∃ v0_ v1_ : Value, e = .returned (.agg #[v0_, v1_]) ∧ Kd.R k62 62 w' w.heap.size (fun _ => True) v0_ r1 ∧ Kd.R (Kd.int .u8) 46 w' w.heap.size (fun _ => True) v1_ r2 ∧ Below w.heap.size w w' := by
  have hu31 := Try.underlying31; have hu45 := Try.underlying45; have HB := zD.mk (Below.refl w.heap.size w); have H : (if (a0.size : Int) ≤ 140737488355327 then ((some (bytesOf a0 : List Int)).bind fun y193 => (stanzalaw14_Text.l0 k ([] : List (S45)) y193 (y193.length : Int) 0)) else (none)) = some (r1, r2) := h
  clear h; by_cases c2 : (a0.size : Int) ≤ 140737488355327
  rotate_left
  · rw [if_neg c2] at H
    exact absurd H (by simp)
  rw [if_pos c2] at H; have c2b0 := eq_true c2; have c2b1 : decide ((a0.size : Int) ≤ 140737488355327) = true := decide_eq_true c2
  clear c2; obtain ⟨y193, hy193⟩ : ∃ y_ : List Int, y_ = (bytesOf a0) := ⟨_, rfl⟩; replace H : (stanzalaw14_Text.l0 k ([] : List (S45)) y193 (y193.length : Int) 0) = some (r1, r2) := by first | (rw [hy193]; with_reducible exact H) | (have H2_ := (Option.bind_some _ _).symm.trans H; rw [hy193]; with_reducible exact H2_) | (have H2_ := (Option.bind_some _ _).symm.trans H; with_reducible exact H2_) | with_reducible exact H | (rw [hy193]; exact H) | exact H
  have Ny193 := zD.mk hy193; clear hy193; have H' := zD.mk H
  clear H; go_enter Try.func23, Try.ntmps23
  go_wp2_with (first | ((with_reducible refine gate_dst (N := 2) rfl ?_); refine box_event ?hg (N := 2) ?hd (cs := #[.slice none 0 0, .slice none 0 0]) (t := 31) ?hr ?_; (case hd => rfl); (case hg => rfl); (case hr => first | (go_simp; done) | (go_simp; rfl)); intro gb191 hg w3 hbox hb; have n0_ := zD.mk (below_step (by repeat (first | (with_reducible first | exact HB.out | apply zJ | apply zF | apply zI) | exact HB.out)) hb); have n1_ := zD.mk (hbox); have n2_ := zD.mk ((by rw [hg]; exact (zM (by repeat (first | (with_reducible first | exact HB.out | apply zJ | apply zF | apply zI) | exact HB.out))) : w.heap.size ≤ gb191)); have n3_ := zD.mk ((by rw [hg]; exact (zM (by repeat (first | (with_reducible first | exact HB.out | apply zJ | apply zF | apply zI) | exact HB.out))) : w.heap.size ≤ gb191)); clear HB; have HB := n0_; have BK191 := n1_; have GW191 := n2_; have GE191 := n3_; clear n0_ n1_ n2_ n3_; clear hb hbox hg) | ((with_reducible refine gate_dst (N := 8) rfl ?_); refine conv_event ?hg (N := 8) ?hd (src := 9) (dst := 76) (e := 5) (s := a0) (x := ?cx) ?ho ?hx Try.underlying9 Try.underlying76 Try.underlying5 (of_decide_eq_true (by first | (with_reducible assumption) | assumption)) y193 Ny193.out ?_; (case hd => rfl); (case hg => rfl); (case ho => rfl); (case hx => first | rfl | (go_simp; done)); intro gb192 hg cv192 ob192 w4 hcap hcv hbox hb; have HV192 := zD.mk hcv; have HC196 := zD.mk hcap; clear hcv hcap; have n0_ := zD.mk (zK (g := gb191) (o := .cells #[.slice none 0 0, .slice none 0 0] 31 (0, 0)) (by (with_reducible repeat (first | refine zB ?_ _ | refine zC ?_ | refine zA ?_ _)); exact BK191.out) hb); have n1_ := zD.mk (below_step (by repeat (first | (with_reducible first | exact HB.out | apply zJ | apply zF | apply zI | refine zE ?_ GE191.out) | exact HB.out)) hb); have n2_ := zD.mk (hbox); have n3_ := zD.mk ((by rw [hg]; exact (zM (by repeat (first | (with_reducible first | exact HB.out | apply zJ | apply zF | apply zI | refine zE ?_ GE191.out) | exact HB.out))) : w.heap.size ≤ gb192)); have n4_ := zD.mk ((by rw [hg]; exact (zM (by repeat (first | (with_reducible first | exact HB.out | apply zJ | apply zF | apply zI | refine zE ?_ GE191.out) | exact HB.out))) : w.heap.size ≤ gb192)); have n5_ := zD.mk ((by rw [hg]; exact Nat.ne_of_lt (blk_lt (g := gb191) (o := .cells #[.slice none 0 0, .slice none 0 0] 31 (0, 0)) (by (with_reducible repeat (first | refine zB ?_ _ | refine zC ?_ | refine zA ?_ _)); exact BK191.out)) : gb191 ≠ gb192)); have n6_ := zD.mk ((by rw [hg]; exact Nat.ne_of_gt (blk_lt (g := gb191) (o := .cells #[.slice none 0 0, .slice none 0 0] 31 (0, 0)) (by (with_reducible repeat (first | refine zB ?_ _ | refine zC ?_ | refine zA ?_ _)); exact BK191.out)) : gb192 ≠ gb191)); clear BK191; clear HB; have BK191 := n0_; have HB := n1_; have BK192 := n2_; have GW192 := n3_; have GE192 := n4_; have NB191_192 := n5_; have NB192_191 := n6_; clear n0_ n1_ n2_ n3_ n4_ n5_ n6_; clear hb hbox hg))
  go_loopg [3, 10] k (fun kq v3 v10 w' => ∃ (x3_1 : List (S45)) (x10_1 : Int), v10 = .int .i64 x10_1 ∧ zD (stanzalaw14_Text.l0 kq x3_1 y193 (y193.length : Int) x10_1 = some (r1, r2)) ∧ zD (kq ≤ k) ∧ zD (Kd.R k45 45 w' w.heap.size (fun k_ => k_ ≠ gb192) v3 x3_1) ∧ zD (w'.heap[gb191]? = some (.cells #[(.slice none 0 0), (.slice none 0 0)] 31 (0, 0))) ∧ zD (w'.heap[gb192]? = some ob192) ∧ zD (Below w.heap.size w w'))
  case atStart => exact ⟨(([] : List (S45))), (0), (by first | rfl | (simp; done) | (simp [*]; done)), H', ⟨Nat.le_refl _⟩, ⟨by first | exact Kd.R_nil _ _ _ _ _ | exact Kd.N_nil _ _ _ _ _ | exact Kd.V_nil _ _ _ _ _ | exact Kd.Q_nil _ _ _ _ _ | exact Kd.S_nil _ _ _ _ _⟩, ⟨by (with_reducible repeat (first | refine zB ?_ _ | refine zC ?_ | refine zA ?_ _)); exact BK191.out⟩, ⟨by (with_reducible repeat (first | refine zB ?_ _ | refine zC ?_ | refine zA ?_ _)); exact BK192.out⟩, ⟨by repeat (first | (with_reducible first | exact HB.out | apply zJ | apply zF | apply zI | refine zE ?_ GE191.out | refine zE ?_ GE192.out) | exact HB.out)⟩⟩
  clear H'; try clear c2
  try clear c2b0
  try clear c2b1
  try clear p2
  obtain ⟨x3_1, x10_1, rfl, HA, HK1, HO_3, BK191, BK192, HB⟩ := hrel; cases gk with
  | zero => exact absurd HA.out (by simp [stanzalaw14_Text.l0])
  | succ k1 =>
    have H := HA.out; clear HA; simp only [stanzalaw14_Text.l0] at H; by_cases c5 : x10_1 < (y193.length : Int)
    rotate_left
    · rw [if_neg c5] at H
      have c5b0 : decide (x10_1 < (y193.length : Int)) = false := decide_eq_false c5
      clear c5; replace H := Option.bind_eq_some_iff.mp H; obtain ⟨⟨t205, t208⟩, A270, H⟩ := H; replace H : (some (t205, t208)) = some (r1, r2) := H; have A27 := zD.mk A270; clear A270; simp only [Option.some.injEq, Prod.mk.injEq] at H; obtain ⟨rfl, rfl⟩ := H; obtain ⟨Ao28, co28, eo28⟩ := Kd.R_slice HO_3.out; subst eo28; go_wp2_with (first | ((with_reducible refine gate_callee (f := 11) rfl ?_); refine goesL_ (some 25) rfl rfl Try.func11 (by kernel_rfl) rfl #[.slice Ao28 x3_1.length co28] rfl (by (try simp only [List.map_toArray, List.map_cons, List.map_nil]); first | done | rfl | (simp only [List.length_drop, List.length_take]; rfl)) ?_; (with_reducible refine (stanzahand03_Para.calls k1 _ _ x3_1 t205 t208 _ ?side1 ?side2 A27.out).mono ?_); (case side1 => repeat (first | exact (Kd.R_reads' HO_3.out).2.2 | (with_reducible refine Kd.C_alloc ?_ _) | (with_reducible refine Kd.C_drewN ?_ _) | (with_reducible refine Kd.C_drew ?_))); (case side2 => exact (Kd.R_reads' HO_3.out).2.1); rintro e w29 ⟨v206, v209, rfl, ho0, ho1, hb⟩; refine ⟨_, rfl, ?_⟩; have n0_ := zD.mk (Kd.R_below (by (with_reducible repeat (first | apply Kd.R_alloc | apply Kd.R_drewN | apply Kd.R_drew)); exact HO_3.out) hb); have n1_ := zD.mk (Kd.R_lower (Kd.R_newB ho0 (g := gb192) (o := ob192) (by (with_reducible repeat (first | refine zB ?_ _ | refine zC ?_ | refine zA ?_ _)); exact BK192.out)) (zM (by repeat (first | (with_reducible first | exact HB.out | apply zJ | apply zF | apply zI | refine zE ?_ GE191.out | refine zE ?_ GE192.out) | exact HB.out)))); have n2_ := zD.mk (Kd.R_lower (Kd.R_newB ho1 (g := gb192) (o := ob192) (by (with_reducible repeat (first | refine zB ?_ _ | refine zC ?_ | refine zA ?_ _)); exact BK192.out)) (zM (by repeat (first | (with_reducible first | exact HB.out | apply zJ | apply zF | apply zI | refine zE ?_ GE191.out | refine zE ?_ GE192.out) | exact HB.out)))); have n3_ := zD.mk (zK (g := gb191) (o := .cells #[.slice none 0 0, .slice none 0 0] 31 (0, 0)) (by (with_reducible repeat (first | refine zB ?_ _ | refine zC ?_ | refine zA ?_ _)); exact BK191.out) hb); have n4_ := zD.mk (zK (g := gb192) (o := ob192) (by (with_reducible repeat (first | refine zB ?_ _ | refine zC ?_ | refine zA ?_ _)); exact BK192.out) hb); have n5_ := zD.mk (below_step (by repeat (first | (with_reducible first | exact HB.out | apply zJ | apply zF | apply zI | refine zE ?_ GE191.out | refine zE ?_ GE192.out) | exact HB.out)) hb); clear HO_3; clear BK191; clear BK192; clear HB; have HO_3 := n0_; have HO207 := n1_; have HO210 := n2_; have BK191 := n3_; have BK192 := n4_; have HB := n5_; clear n0_ n1_ n2_ n3_ n4_ n5_; (try clear hb); (try clear hb2); (try clear hk); (try clear hi); (try clear ho0); (try clear ho1); obtain ⟨Ao30, co30, eo30⟩ := Kd.R_slice HO207.out; subst eo30; have hnb31 := NB191_192.out; have hnc31 := NB192_191.out; have hcz32_0 : w29.cell? ⟨gb191, 0, none⟩ = some (.slice none 0 0) := (zH BK191.out 0).trans rfl; have hcz32_1 : w29.cell? ⟨gb191, 1, none⟩ = some (.slice none 0 0) := (zH BK191.out 1).trans rfl; have hfz32_0 := zG BK191.out 0; have hfz32_1 := zG BK191.out 1; obtain ⟨Ao33, co33, eo33⟩ := Kd.R_slice HO210.out; subst eo33) | ((with_reducible refine gate_store (t := 31) (p := 2) rfl ?_); refine store_event (t := 31) (p := 2) (v := ?vo_w34) (w1 := ((w29.setCell ⟨gb191, 0, none⟩ (.slice Ao30 t205.length co30)).setCell ⟨gb191, 1, none⟩ (.slice Ao33 t208.length co33))) ?hg ?ho ?hn ?hr ?_; (case ho => rfl); (case hg => rfl); (case hn => rfl); (case hr => first | (go_simp; done) | (go_simp; rfl)); intro w34 hw; have n0_ : zD (Kd.R k45 45 w34 w.heap.size (fun k_ => k_ ≠ gb192) (.slice Ao28 x3_1.length co28) x3_1) := ⟨(by rw [hw]; exact (by (with_reducible repeat (first | apply Kd.R_alloc | apply Kd.R_drewN | apply Kd.R_drew)); exact Kd.R_mono (Kd.R_far (p := ⟨gb191, 1, none⟩) (Kd.R_far (p := ⟨gb191, 0, none⟩) (Kd.R_types HO_3.out BK191.out (by decide)) (fun _ hk => hk.2) (.slice Ao30 t205.length co30)) (fun _ hk => hk.2) (.slice Ao33 t208.length co33)) (fun _ hk => hk.1)))⟩; have n1_ : zD (Kd.R k62 62 w34 w.heap.size (fun k_ => k_ ≠ gb192) (.slice Ao30 t205.length co30) t205) := ⟨(by rw [hw]; exact (by (with_reducible repeat (first | apply Kd.R_alloc | apply Kd.R_drewN | apply Kd.R_drew)); exact Kd.R_mono (Kd.R_far (p := ⟨gb191, 1, none⟩) (Kd.R_far (p := ⟨gb191, 0, none⟩) (Kd.R_types HO207.out BK191.out (by decide)) (fun _ hk => hk.2) (.slice Ao30 t205.length co30)) (fun _ hk => hk.2) (.slice Ao33 t208.length co33)) (fun _ hk => hk.1.2)))⟩; have n2_ : zD (Kd.R (Kd.int .u8) 46 w34 w.heap.size (fun k_ => k_ ≠ gb192) (.slice Ao33 t208.length co33) t208) := ⟨(by rw [hw]; exact (by (with_reducible repeat (first | apply Kd.R_alloc | apply Kd.R_drewN | apply Kd.R_drew)); exact Kd.R_mono (Kd.R_far (p := ⟨gb191, 1, none⟩) (Kd.R_far (p := ⟨gb191, 0, none⟩) (Kd.R_types HO210.out BK191.out (by decide)) (fun _ hk => hk.2) (.slice Ao30 t205.length co30)) (fun _ hk => hk.2) (.slice Ao33 t208.length co33)) (fun _ hk => hk.1.2)))⟩; have n3_ : zD (w34.heap[gb191]? = some (.cells #[.slice Ao30 t205.length co30, .slice Ao33 t208.length co33] 31 (0, 0))) := ⟨(by rw [hw]; exact (by (with_reducible repeat (first | refine zB ?_ _ | refine zC ?_ | refine zA ?_ _)); refine blk_put (cs := #[.slice Ao30 t205.length co30, .slice none 0 0]) ?_ 1 _ rfl; (with_reducible repeat (first | refine zB ?_ _ | refine zC ?_ | refine zA ?_ _)); refine blk_put (cs := #[.slice none 0 0, .slice none 0 0]) ?_ 0 _ rfl; (with_reducible repeat (first | refine zB ?_ _ | refine zC ?_ | refine zA ?_ _)); exact BK191.out))⟩; have n4_ : zD (w34.heap[gb192]? = some (ob192)) := ⟨(by rw [hw]; exact (by (with_reducible repeat (first | refine zB ?_ _ | refine zC ?_ | refine zA ?_ _)); refine blk_farO ?_ NB192_191.out _; (with_reducible repeat (first | refine zB ?_ _ | refine zC ?_ | refine zA ?_ _)); refine blk_farO ?_ NB192_191.out _; (with_reducible repeat (first | refine zB ?_ _ | refine zC ?_ | refine zA ?_ _)); exact BK192.out))⟩; have n5_ : zD (Below w.heap.size w w34) := ⟨(by rw [hw]; exact (by repeat (first | (with_reducible first | exact HB.out | apply zJ | apply zF | apply zI | refine zE ?_ GE191.out | refine zE ?_ GE192.out) | exact HB.out)))⟩; clear hw; clear HO_3; clear HO207; clear HO210; clear BK191; clear BK192; clear HB; have HO_3 := n0_; have HO207 := n1_; have HO210 := n2_; have BK191 := n3_; have BK192 := n4_; have HB := n5_; clear n0_ n1_ n2_ n3_ n4_ n5_))
      refine bodyPost_ret (results_cell_row rfl _ _ gb191 31 #[.slice Ao30 t205.length co30, .slice Ao33 t208.length co33] (0, 0) _ rfl (by (with_reducible repeat (first | refine zB ?_ _ | refine zC ?_ | refine zA ?_ _)); exact BK191.out) Try.underlying31 rfl (by kernel_rfl)) rfl ?_
      exact ⟨_, _, by first | rfl | (simp [errW_none, errW_some] <;> rfl) | (simp [*, errW_none, errW_some] <;> rfl), by (with_reducible repeat (first | apply Kd.R_alloc | apply Kd.R_drewN | apply Kd.R_drew)); exact Kd.R_mono HO207.out (fun _ hk => trivial), by (with_reducible repeat (first | apply Kd.R_alloc | apply Kd.R_drewN | apply Kd.R_drew)); exact Kd.R_mono HO210.out (fun _ hk => trivial), by repeat (first | (with_reducible first | exact HB.out | apply zJ | apply zF | apply zI | refine zE ?_ GE191.out | refine zE ?_ GE192.out) | exact HB.out)⟩
    rw [if_pos c5] at H; have c5b0 : decide (x10_1 < (y193.length : Int)) = true := decide_eq_true c5
    clear c5; by_cases c6 : 0 ≤ x10_1
    rotate_left
    · rw [if_neg c6] at H
      exact absurd H (by simp)
    rw [if_pos c6] at H; have c6b0 : decide (0 ≤ x10_1) = true := decide_eq_true c6
    clear c6; by_cases c7 : x10_1 < (y193.length : Int)
    rotate_left
    · rw [if_neg c7] at H
      exact absurd H (by simp)
    rw [if_pos c7] at H; have c7b0 : decide (x10_1 < (y193.length : Int)) = true := decide_eq_true c7
    clear c7; by_cases c8 : (rd y193 x10_1) = 32
    rotate_left
    · rw [if_neg c8] at H
      have c8b0 : ((rd y193 x10_1) == 32) = false := beq_eq_false_iff_ne.mpr c8
      have c8b1 : ((rd y193 x10_1) != 32) = true := bne_iff_ne.mpr c8
      by_cases c19 : x3_1.length < 35184372088832
      rotate_left
      · rw [if_neg c19] at H
        exact absurd H (by simp)
      rw [if_pos c19] at H; have LMc19 := zD.mk c19; clear c19; obtain ⟨y202, hy202⟩ : ∃ y_ : List (S45), y_ = (x3_1 ++ [(⟨1, 0, 0, 0⟩ : S45)]) := ⟨_, rfl⟩; replace H : (stanzalaw14_Text.l0 k1 y202 y193 (y193.length : Int) (wrap64 (x10_1 + 1))) = some (r1, r2) := by first | (rw [hy202]; with_reducible exact H) | (have H2_ := (Option.bind_some _ _).symm.trans H; rw [hy202]; with_reducible exact H2_) | (have H2_ := (Option.bind_some _ _).symm.trans H; with_reducible exact H2_) | with_reducible exact H | (rw [hy202]; exact H) | exact H
      have Ny202 := zD.mk hy202; clear hy202; have H' := zD.mk H
      clear H; have p197 : 0 ≤ (x10_1 : Int) := of_decide_eq_true (by first | (with_reducible assumption) | assumption)
      have q197 : x10_1 < (y193.length : Int) := of_decide_eq_true (by first | (with_reducible assumption) | assumption)
      obtain ⟨ad197, e197, hx197_0⟩ := Kd.at_int (HV192.out _ BK192.out) x10_1 p197 q197; obtain rfl : (⟨gb192, 0, none⟩ : Addr) = ad197 := (by injection e197)
      (first | simp only [add_plain] at hx197_0 | simp only [add_at] at hx197_0 | simp only [Addr.add, Nat.zero_add] at hx197_0 | skip)
      replace p197 := eq_true p197; replace q197 := eq_true q197; go_wp2_with (first | ((with_reducible refine gate_dst (N := 6) rfl ?_); refine box_event ?hg (N := 6) ?hd (cs := #[.int .u8 0, .int .u8 0, .int .u8 0, .int .u8 0]) (t := 45) ?hr ?_; (case hd => rfl); (case hg => rfl); (case hr => first | (go_simp; done) | (go_simp; rfl)); intro gb198 hg w20 hbox hb; have n0_ := zD.mk (Kd.R_below (Kd.R_elderB (by (with_reducible repeat (first | apply Kd.R_alloc | apply Kd.R_drewN | apply Kd.R_drew)); exact HO_3.out) gb198 (Nat.le_of_eq hg.symm)) hb); have n1_ := zD.mk (zK (g := gb191) (o := .cells #[.slice none 0 0, .slice none 0 0] 31 (0, 0)) (by (with_reducible repeat (first | refine zB ?_ _ | refine zC ?_ | refine zA ?_ _)); exact BK191.out) hb); have n2_ := zD.mk (zK (g := gb192) (o := ob192) (by (with_reducible repeat (first | refine zB ?_ _ | refine zC ?_ | refine zA ?_ _)); exact BK192.out) hb); have n3_ := zD.mk (below_step (by repeat (first | (with_reducible first | exact HB.out | apply zJ | apply zF | apply zI | refine zE ?_ GE191.out | refine zE ?_ GE192.out) | exact HB.out)) hb); have n4_ := zD.mk (hbox); have n5_ := zD.mk ((by rw [hg]; exact (zM (by repeat (first | (with_reducible first | exact HB.out | apply zJ | apply zF | apply zI | refine zE ?_ GE191.out | refine zE ?_ GE192.out) | exact HB.out))) : w.heap.size ≤ gb198)); have n6_ := zD.mk ((by rw [hg]; exact (zM (by repeat (first | (with_reducible first | exact HB.out | apply zJ | apply zF | apply zI | refine zE ?_ GE191.out | refine zE ?_ GE192.out) | exact HB.out))) : w.heap.size ≤ gb198)); have n7_ := zD.mk ((by rw [hg]; exact Nat.ne_of_lt (blk_lt (g := gb191) (o := .cells #[.slice none 0 0, .slice none 0 0] 31 (0, 0)) (by (with_reducible repeat (first | refine zB ?_ _ | refine zC ?_ | refine zA ?_ _)); exact BK191.out)) : gb191 ≠ gb198)); have n8_ := zD.mk ((by rw [hg]; exact Nat.ne_of_gt (blk_lt (g := gb191) (o := .cells #[.slice none 0 0, .slice none 0 0] 31 (0, 0)) (by (with_reducible repeat (first | refine zB ?_ _ | refine zC ?_ | refine zA ?_ _)); exact BK191.out)) : gb198 ≠ gb191)); have n9_ := zD.mk ((by rw [hg]; exact Nat.ne_of_lt (blk_lt (g := gb192) (o := ob192) (by (with_reducible repeat (first | refine zB ?_ _ | refine zC ?_ | refine zA ?_ _)); exact BK192.out)) : gb192 ≠ gb198)); have n10_ := zD.mk ((by rw [hg]; exact Nat.ne_of_gt (blk_lt (g := gb192) (o := ob192) (by (with_reducible repeat (first | refine zB ?_ _ | refine zC ?_ | refine zA ?_ _)); exact BK192.out)) : gb198 ≠ gb192)); clear HO_3; clear BK191; clear BK192; clear HB; have HO_3 := n0_; have BK191 := n1_; have BK192 := n2_; have HB := n3_; have BK198 := n4_; have GW198 := n5_; have GE198 := n6_; have NB191_198 := n7_; have NB198_191 := n8_; have NB192_198 := n9_; have NB198_192 := n10_; clear n0_ n1_ n2_ n3_ n4_ n5_ n6_ n7_ n8_ n9_ n10_; clear hb hbox hg; have hnb21 := NB198_191.out; have hnc21 := NB191_198.out; have hnb22 := NB198_192.out; have hnc22 := NB192_198.out; have hcz23_0 : w20.cell? ⟨gb198, 0, none⟩ = some (.int .u8 0) := (zH BK198.out 0).trans rfl; have hcz23_1 : w20.cell? ⟨gb198, 1, none⟩ = some (.int .u8 0) := (zH BK198.out 1).trans rfl; have hcz23_2 : w20.cell? ⟨gb198, 2, none⟩ = some (.int .u8 0) := (zH BK198.out 2).trans rfl; have hcz23_3 : w20.cell? ⟨gb198, 3, none⟩ = some (.int .u8 0) := (zH BK198.out 3).trans rfl; have hfz23_0 := zG BK198.out 0; have hfz23_1 := zG BK198.out 1; have hfz23_2 := zG BK198.out 2; have hfz23_3 := zG BK198.out 3) | ((with_reducible refine gate_store (t := 45) (p := 6) rfl ?_); refine store_event (t := 45) (p := 6) (v := ?vo_w24) (w1 := ((((w20.setCell ⟨gb198, 0, none⟩ (.int .u8 1)).setCell ⟨gb198, 1, none⟩ (.int .u8 0)).setCell ⟨gb198, 2, none⟩ (.int .u8 0)).setCell ⟨gb198, 3, none⟩ (.int .u8 0))) ?hg ?ho ?hn ?hr ?_; (case ho => rfl); (case hg => rfl); (case hn => rfl); (case hr => first | (go_simp; done) | (go_simp; rfl)); intro w24 hw; have n0_ : zD (Kd.R k45 45 w24 w.heap.size (fun k_ => k_ ≠ gb192 ∧ k_ ≠ gb198) u3 x3_1) := ⟨(by rw [hw]; exact (by (with_reducible repeat (first | apply Kd.R_alloc | apply Kd.R_drewN | apply Kd.R_drew)); exact Kd.R_mono (Kd.R_far (p := ⟨gb198, 3, none⟩) (Kd.R_far (p := ⟨gb198, 2, none⟩) (Kd.R_far (p := ⟨gb198, 1, none⟩) (Kd.R_far (p := ⟨gb198, 0, none⟩) (Kd.R_mono HO_3.out (fun k_ hk => (⟨hk, hk.2⟩ : _ ∧ k_ ≠ gb198))) (fun _ hk => hk.2) (.int .u8 1)) (fun _ hk => hk.2) (.int .u8 0)) (fun _ hk => hk.2) (.int .u8 0)) (fun _ hk => hk.2) (.int .u8 0)) (fun _ hk => ⟨hk.1.1, hk.1.2⟩)))⟩; have n1_ : zD (w24.heap[gb191]? = some (.cells #[.slice none 0 0, .slice none 0 0] 31 (0, 0))) := ⟨(by rw [hw]; exact (by (with_reducible repeat (first | refine zB ?_ _ | refine zC ?_ | refine zA ?_ _)); refine zL ?_ NB191_198.out _; (with_reducible repeat (first | refine zB ?_ _ | refine zC ?_ | refine zA ?_ _)); refine zL ?_ NB191_198.out _; (with_reducible repeat (first | refine zB ?_ _ | refine zC ?_ | refine zA ?_ _)); refine zL ?_ NB191_198.out _; (with_reducible repeat (first | refine zB ?_ _ | refine zC ?_ | refine zA ?_ _)); refine zL ?_ NB191_198.out _; (with_reducible repeat (first | refine zB ?_ _ | refine zC ?_ | refine zA ?_ _)); exact BK191.out))⟩; have n2_ : zD (w24.heap[gb192]? = some (ob192)) := ⟨(by rw [hw]; exact (by (with_reducible repeat (first | refine zB ?_ _ | refine zC ?_ | refine zA ?_ _)); refine blk_farO ?_ NB192_198.out _; (with_reducible repeat (first | refine zB ?_ _ | refine zC ?_ | refine zA ?_ _)); refine blk_farO ?_ NB192_198.out _; (with_reducible repeat (first | refine zB ?_ _ | refine zC ?_ | refine zA ?_ _)); refine blk_farO ?_ NB192_198.out _; (with_reducible repeat (first | refine zB ?_ _ | refine zC ?_ | refine zA ?_ _)); refine blk_farO ?_ NB192_198.out _; (with_reducible repeat (first | refine zB ?_ _ | refine zC ?_ | refine zA ?_ _)); exact BK192.out))⟩; have n3_ : zD (w24.heap[gb198]? = some (.cells #[.int .u8 1, .int .u8 0, .int .u8 0, .int .u8 0] 45 (0, 0))) := ⟨(by rw [hw]; exact (by (with_reducible repeat (first | refine zB ?_ _ | refine zC ?_ | refine zA ?_ _)); refine blk_put (cs := #[.int .u8 1, .int .u8 0, .int .u8 0, .int .u8 0]) ?_ 3 _ rfl; (with_reducible repeat (first | refine zB ?_ _ | refine zC ?_ | refine zA ?_ _)); refine blk_put (cs := #[.int .u8 1, .int .u8 0, .int .u8 0, .int .u8 0]) ?_ 2 _ rfl; (with_reducible repeat (first | refine zB ?_ _ | refine zC ?_ | refine zA ?_ _)); refine blk_put (cs := #[.int .u8 1, .int .u8 0, .int .u8 0, .int .u8 0]) ?_ 1 _ rfl; (with_reducible repeat (first | refine zB ?_ _ | refine zC ?_ | refine zA ?_ _)); refine blk_put (cs := #[.int .u8 0, .int .u8 0, .int .u8 0, .int .u8 0]) ?_ 0 _ rfl; (with_reducible repeat (first | refine zB ?_ _ | refine zC ?_ | refine zA ?_ _)); exact BK198.out))⟩; have n4_ : zD (Below w.heap.size w w24) := ⟨(by rw [hw]; exact (by repeat (first | (with_reducible first | exact HB.out | apply zJ | apply zF | apply zI | refine zE ?_ GE191.out | refine zE ?_ GE192.out | refine zE ?_ GE198.out) | exact HB.out)))⟩; clear hw; clear HO_3; clear BK191; clear BK192; clear BK198; clear HB; have HO_3 := n0_; have BK191 := n1_; have BK192 := n2_; have BK198 := n3_; have HB := n4_; clear n0_ n1_ n2_ n3_ n4_; have hcz25_0 : w24.cell? ⟨gb198, 0, none⟩ = some (.int .u8 1) := (zH BK198.out 0).trans rfl; have hcz25_1 : w24.cell? ⟨gb198, 1, none⟩ = some (.int .u8 0) := (zH BK198.out 1).trans rfl; have hcz25_2 : w24.cell? ⟨gb198, 2, none⟩ = some (.int .u8 0) := (zH BK198.out 2).trans rfl; have hcz25_3 : w24.cell? ⟨gb198, 3, none⟩ = some (.int .u8 0) := (zH BK198.out 3).trans rfl; have hfz25_0 := zG BK198.out 0; have hfz25_1 := zG BK198.out 1; have hfz25_2 := zG BK198.out 2; have hfz25_3 := zG BK198.out 3) | ((with_reducible refine gate_builtin (b := .append) (xs := #[.tmp 19, .tmp 21]) rfl ?_); at_builtin; refine Kd.R_append k45 (w0 := w) w.heap.size rfl (.tmp 19) (.tmp 21) 22 45 (.agg #[(.int .u8 0), (.int .u8 0), (.int .u8 0), (.int .u8 0)]) 4 rfl Try.underlying22 info45 rfl (by decide) (by omega) u3 x3_1 (⟨1, 0, 0, 0⟩ : S45) [.int .u8 1, .int .u8 0, .int .u8 0, .int .u8 0] (fun k_ => k_ ≠ gb192 ∧ k_ ≠ gb198) (fun _ => False) rfl rfl ?aP (fun _ hk => hk.elim) ?aF ?aO ?aB ?aS ?aL ?_; (case aP => exact k45_mkM _ _ _ (⟨1, 0, 0, 0⟩ : S45)); (case aB => exact (by repeat (first | (with_reducible first | exact HB.out | apply zJ | apply zF | apply zI | refine zE ?_ GE191.out | refine zE ?_ GE192.out | refine zE ?_ GE198.out) | exact HB.out))); (case aF => exact (fun k_ hk => ⟨Kd.freshB (g := gb192) (o := ob192) (by (with_reducible repeat (first | refine zB ?_ _ | refine zC ?_ | refine zA ?_ _)); exact BK192.out) k_ hk, Kd.freshB (g := gb198) (o := .cells #[.int .u8 1, .int .u8 0, .int .u8 0, .int .u8 0] 45 (0, 0)) (by (with_reducible repeat (first | refine zB ?_ _ | refine zC ?_ | refine zA ?_ _)); exact BK198.out) k_ hk⟩)); (case aO => exact (by (with_reducible repeat (first | apply Kd.R_alloc | apply Kd.R_drewN | apply Kd.R_drew)); exact HO_3.out)); (case aS => exact (zM (by repeat (first | (with_reducible first | exact HB.out | apply zJ | apply zF | apply zI | refine zE ?_ GE191.out | refine zE ?_ GE192.out | refine zE ?_ GE198.out) | exact HB.out)))); (case aL => have := LMc19.out; omega); intro v203 w26 ho hb hg hat; rw [← Ny202.out] at ho; have n0_ := zD.mk (blk_grown (g := gb191) (o := .cells #[.slice none 0 0, .slice none 0 0] 31 (0, 0)) (by (with_reducible repeat (first | refine zB ?_ _ | refine zC ?_ | refine zA ?_ _)); exact BK191.out) hg (Kd.R_ne HO_3.out BK191.out (by decide))); have n1_ := zD.mk (blk_grown (g := gb192) (o := ob192) (by (with_reducible repeat (first | refine zB ?_ _ | refine zC ?_ | refine zA ?_ _)); exact BK192.out) hg (Kd.R_away HO_3.out (fun _ hk => hk.1))); have n2_ := zD.mk (blk_grown (g := gb198) (o := .cells #[.int .u8 1, .int .u8 0, .int .u8 0, .int .u8 0] 45 (0, 0)) (by (with_reducible repeat (first | refine zB ?_ _ | refine zC ?_ | refine zA ?_ _)); exact BK198.out) hg (Kd.R_away HO_3.out (fun _ hk => hk.2))); have n3_ := zD.mk (hb); have n4_ := zD.mk (ho); clear BK191; clear BK192; clear BK198; clear HB; clear HO_3; have BK191 := n0_; have BK192 := n1_; have BK198 := n2_; have HB := n3_; have HO204 := n4_; clear n0_ n1_ n2_ n3_ n4_; clear ho hb hg hat))
      go_roundg k1
      case measure => have := HK1.out; omega
      case rel => exact ⟨(y202), (wrap64 (x10_1 + 1)), (by first | rfl | (simp; done) | (simp [*]; done)), H', ⟨by have := HK1.out; omega⟩, ⟨by (with_reducible repeat (first | apply Kd.R_alloc | apply Kd.R_drewN | apply Kd.R_drew)); exact Kd.R_mono HO204.out (fun _ hk => hk.1)⟩, ⟨by (with_reducible repeat (first | refine zB ?_ _ | refine zC ?_ | refine zA ?_ _)); exact BK191.out⟩, ⟨by (with_reducible repeat (first | refine zB ?_ _ | refine zC ?_ | refine zA ?_ _)); exact BK192.out⟩, ⟨by repeat (first | (with_reducible first | exact HB.out | apply zJ | apply zF | apply zI | refine zE ?_ GE191.out | refine zE ?_ GE192.out | refine zE ?_ GE198.out) | exact HB.out)⟩⟩
    rw [if_pos c8] at H; have c8b0 : ((rd y193 x10_1) == 32) = true := beq_iff_eq.mpr c8
    have c8b1 : ((rd y193 x10_1) != 32) = false := bne_eq_false_iff_eq.mpr c8
    clear c8; by_cases c9 : x3_1.length < 35184372088832
    rotate_left
    · rw [if_neg c9] at H
      exact absurd H (by simp)
    rw [if_pos c9] at H; have LMc9 := zD.mk c9; clear c9; obtain ⟨y199, hy199⟩ : ∃ y_ : List (S45), y_ = (x3_1 ++ [(⟨1, 1, 0, 1⟩ : S45)]) := ⟨_, rfl⟩; replace H : (stanzalaw14_Text.l0 k1 y199 y193 (y193.length : Int) (wrap64 (x10_1 + 1))) = some (r1, r2) := by first | (rw [hy199]; with_reducible exact H) | (have H2_ := (Option.bind_some _ _).symm.trans H; rw [hy199]; with_reducible exact H2_) | (have H2_ := (Option.bind_some _ _).symm.trans H; with_reducible exact H2_) | with_reducible exact H | (rw [hy199]; exact H) | exact H
    have Ny199 := zD.mk hy199; clear hy199; have H' := zD.mk H
    clear H; have p197 : 0 ≤ (x10_1 : Int) := of_decide_eq_true (by first | (with_reducible assumption) | assumption)
    have q197 : x10_1 < (y193.length : Int) := of_decide_eq_true (by first | (with_reducible assumption) | assumption)
    obtain ⟨ad197, e197, hx197_0⟩ := Kd.at_int (HV192.out _ BK192.out) x10_1 p197 q197; obtain rfl : (⟨gb192, 0, none⟩ : Addr) = ad197 := (by injection e197)
    (first | simp only [add_plain] at hx197_0 | simp only [add_at] at hx197_0 | simp only [Addr.add, Nat.zero_add] at hx197_0 | skip)
    replace p197 := eq_true p197; replace q197 := eq_true q197; go_wp2_with (first | ((with_reducible refine gate_dst (N := 6) rfl ?_); refine box_event ?hg (N := 6) ?hd (cs := #[.int .u8 0, .int .u8 0, .int .u8 0, .int .u8 0]) (t := 45) ?hr ?_; (case hd => rfl); (case hg => rfl); (case hr => first | (go_simp; done) | (go_simp; rfl)); intro gb198 hg w10 hbox hb; have n0_ := zD.mk (Kd.R_below (Kd.R_elderB (by (with_reducible repeat (first | apply Kd.R_alloc | apply Kd.R_drewN | apply Kd.R_drew)); exact HO_3.out) gb198 (Nat.le_of_eq hg.symm)) hb); have n1_ := zD.mk (zK (g := gb191) (o := .cells #[.slice none 0 0, .slice none 0 0] 31 (0, 0)) (by (with_reducible repeat (first | refine zB ?_ _ | refine zC ?_ | refine zA ?_ _)); exact BK191.out) hb); have n2_ := zD.mk (zK (g := gb192) (o := ob192) (by (with_reducible repeat (first | refine zB ?_ _ | refine zC ?_ | refine zA ?_ _)); exact BK192.out) hb); have n3_ := zD.mk (below_step (by repeat (first | (with_reducible first | exact HB.out | apply zJ | apply zF | apply zI | refine zE ?_ GE191.out | refine zE ?_ GE192.out) | exact HB.out)) hb); have n4_ := zD.mk (hbox); have n5_ := zD.mk ((by rw [hg]; exact (zM (by repeat (first | (with_reducible first | exact HB.out | apply zJ | apply zF | apply zI | refine zE ?_ GE191.out | refine zE ?_ GE192.out) | exact HB.out))) : w.heap.size ≤ gb198)); have n6_ := zD.mk ((by rw [hg]; exact (zM (by repeat (first | (with_reducible first | exact HB.out | apply zJ | apply zF | apply zI | refine zE ?_ GE191.out | refine zE ?_ GE192.out) | exact HB.out))) : w.heap.size ≤ gb198)); have n7_ := zD.mk ((by rw [hg]; exact Nat.ne_of_lt (blk_lt (g := gb191) (o := .cells #[.slice none 0 0, .slice none 0 0] 31 (0, 0)) (by (with_reducible repeat (first | refine zB ?_ _ | refine zC ?_ | refine zA ?_ _)); exact BK191.out)) : gb191 ≠ gb198)); have n8_ := zD.mk ((by rw [hg]; exact Nat.ne_of_gt (blk_lt (g := gb191) (o := .cells #[.slice none 0 0, .slice none 0 0] 31 (0, 0)) (by (with_reducible repeat (first | refine zB ?_ _ | refine zC ?_ | refine zA ?_ _)); exact BK191.out)) : gb198 ≠ gb191)); have n9_ := zD.mk ((by rw [hg]; exact Nat.ne_of_lt (blk_lt (g := gb192) (o := ob192) (by (with_reducible repeat (first | refine zB ?_ _ | refine zC ?_ | refine zA ?_ _)); exact BK192.out)) : gb192 ≠ gb198)); have n10_ := zD.mk ((by rw [hg]; exact Nat.ne_of_gt (blk_lt (g := gb192) (o := ob192) (by (with_reducible repeat (first | refine zB ?_ _ | refine zC ?_ | refine zA ?_ _)); exact BK192.out)) : gb198 ≠ gb192)); clear HO_3; clear BK191; clear BK192; clear HB; have HO_3 := n0_; have BK191 := n1_; have BK192 := n2_; have HB := n3_; have BK198 := n4_; have GW198 := n5_; have GE198 := n6_; have NB191_198 := n7_; have NB198_191 := n8_; have NB192_198 := n9_; have NB198_192 := n10_; clear n0_ n1_ n2_ n3_ n4_ n5_ n6_ n7_ n8_ n9_ n10_; clear hb hbox hg; have hnb11 := NB198_191.out; have hnc11 := NB191_198.out; have hnb12 := NB198_192.out; have hnc12 := NB192_198.out; have hcz13_0 : w10.cell? ⟨gb198, 0, none⟩ = some (.int .u8 0) := (zH BK198.out 0).trans rfl; have hcz13_1 : w10.cell? ⟨gb198, 1, none⟩ = some (.int .u8 0) := (zH BK198.out 1).trans rfl; have hcz13_2 : w10.cell? ⟨gb198, 2, none⟩ = some (.int .u8 0) := (zH BK198.out 2).trans rfl; have hcz13_3 : w10.cell? ⟨gb198, 3, none⟩ = some (.int .u8 0) := (zH BK198.out 3).trans rfl; have hfz13_0 := zG BK198.out 0; have hfz13_1 := zG BK198.out 1; have hfz13_2 := zG BK198.out 2; have hfz13_3 := zG BK198.out 3) | ((with_reducible refine gate_store (t := 45) (p := 6) rfl ?_); refine store_event (t := 45) (p := 6) (v := ?vo_w14) (w1 := ((((w10.setCell ⟨gb198, 0, none⟩ (.int .u8 1)).setCell ⟨gb198, 1, none⟩ (.int .u8 0)).setCell ⟨gb198, 2, none⟩ (.int .u8 0)).setCell ⟨gb198, 3, none⟩ (.int .u8 0))) ?hg ?ho ?hn ?hr ?_; (case ho => rfl); (case hg => rfl); (case hn => rfl); (case hr => first | (go_simp; done) | (go_simp; rfl)); intro w14 hw; have n0_ : zD (Kd.R k45 45 w14 w.heap.size (fun k_ => k_ ≠ gb192 ∧ k_ ≠ gb198) u3 x3_1) := ⟨(by rw [hw]; exact (by (with_reducible repeat (first | apply Kd.R_alloc | apply Kd.R_drewN | apply Kd.R_drew)); exact Kd.R_mono (Kd.R_far (p := ⟨gb198, 3, none⟩) (Kd.R_far (p := ⟨gb198, 2, none⟩) (Kd.R_far (p := ⟨gb198, 1, none⟩) (Kd.R_far (p := ⟨gb198, 0, none⟩) (Kd.R_mono HO_3.out (fun k_ hk => (⟨hk, hk.2⟩ : _ ∧ k_ ≠ gb198))) (fun _ hk => hk.2) (.int .u8 1)) (fun _ hk => hk.2) (.int .u8 0)) (fun _ hk => hk.2) (.int .u8 0)) (fun _ hk => hk.2) (.int .u8 0)) (fun _ hk => ⟨hk.1.1, hk.1.2⟩)))⟩; have n1_ : zD (w14.heap[gb191]? = some (.cells #[.slice none 0 0, .slice none 0 0] 31 (0, 0))) := ⟨(by rw [hw]; exact (by (with_reducible repeat (first | refine zB ?_ _ | refine zC ?_ | refine zA ?_ _)); refine zL ?_ NB191_198.out _; (with_reducible repeat (first | refine zB ?_ _ | refine zC ?_ | refine zA ?_ _)); refine zL ?_ NB191_198.out _; (with_reducible repeat (first | refine zB ?_ _ | refine zC ?_ | refine zA ?_ _)); refine zL ?_ NB191_198.out _; (with_reducible repeat (first | refine zB ?_ _ | refine zC ?_ | refine zA ?_ _)); refine zL ?_ NB191_198.out _; (with_reducible repeat (first | refine zB ?_ _ | refine zC ?_ | refine zA ?_ _)); exact BK191.out))⟩; have n2_ : zD (w14.heap[gb192]? = some (ob192)) := ⟨(by rw [hw]; exact (by (with_reducible repeat (first | refine zB ?_ _ | refine zC ?_ | refine zA ?_ _)); refine blk_farO ?_ NB192_198.out _; (with_reducible repeat (first | refine zB ?_ _ | refine zC ?_ | refine zA ?_ _)); refine blk_farO ?_ NB192_198.out _; (with_reducible repeat (first | refine zB ?_ _ | refine zC ?_ | refine zA ?_ _)); refine blk_farO ?_ NB192_198.out _; (with_reducible repeat (first | refine zB ?_ _ | refine zC ?_ | refine zA ?_ _)); refine blk_farO ?_ NB192_198.out _; (with_reducible repeat (first | refine zB ?_ _ | refine zC ?_ | refine zA ?_ _)); exact BK192.out))⟩; have n3_ : zD (w14.heap[gb198]? = some (.cells #[.int .u8 1, .int .u8 0, .int .u8 0, .int .u8 0] 45 (0, 0))) := ⟨(by rw [hw]; exact (by (with_reducible repeat (first | refine zB ?_ _ | refine zC ?_ | refine zA ?_ _)); refine blk_put (cs := #[.int .u8 1, .int .u8 0, .int .u8 0, .int .u8 0]) ?_ 3 _ rfl; (with_reducible repeat (first | refine zB ?_ _ | refine zC ?_ | refine zA ?_ _)); refine blk_put (cs := #[.int .u8 1, .int .u8 0, .int .u8 0, .int .u8 0]) ?_ 2 _ rfl; (with_reducible repeat (first | refine zB ?_ _ | refine zC ?_ | refine zA ?_ _)); refine blk_put (cs := #[.int .u8 1, .int .u8 0, .int .u8 0, .int .u8 0]) ?_ 1 _ rfl; (with_reducible repeat (first | refine zB ?_ _ | refine zC ?_ | refine zA ?_ _)); refine blk_put (cs := #[.int .u8 0, .int .u8 0, .int .u8 0, .int .u8 0]) ?_ 0 _ rfl; (with_reducible repeat (first | refine zB ?_ _ | refine zC ?_ | refine zA ?_ _)); exact BK198.out))⟩; have n4_ : zD (Below w.heap.size w w14) := ⟨(by rw [hw]; exact (by repeat (first | (with_reducible first | exact HB.out | apply zJ | apply zF | apply zI | refine zE ?_ GE191.out | refine zE ?_ GE192.out | refine zE ?_ GE198.out) | exact HB.out)))⟩; clear hw; clear HO_3; clear BK191; clear BK192; clear BK198; clear HB; have HO_3 := n0_; have BK191 := n1_; have BK192 := n2_; have BK198 := n3_; have HB := n4_; clear n0_ n1_ n2_ n3_ n4_; have hcz15_0 : w14.cell? ⟨gb198, 0, none⟩ = some (.int .u8 1) := (zH BK198.out 0).trans rfl; have hcz15_1 : w14.cell? ⟨gb198, 1, none⟩ = some (.int .u8 0) := (zH BK198.out 1).trans rfl; have hcz15_2 : w14.cell? ⟨gb198, 2, none⟩ = some (.int .u8 0) := (zH BK198.out 2).trans rfl; have hcz15_3 : w14.cell? ⟨gb198, 3, none⟩ = some (.int .u8 0) := (zH BK198.out 3).trans rfl; have hfz15_0 := zG BK198.out 0; have hfz15_1 := zG BK198.out 1; have hfz15_2 := zG BK198.out 2; have hfz15_3 := zG BK198.out 3) | ((with_reducible refine gate_store (t := 5) (p := 18) rfl ?_); refine store_event (t := 5) (p := 18) (v := ?vo_w16) (w1 := ((w14.setCell ⟨gb198, 1, none⟩ (.int .u8 1)).setCell ⟨gb198, 3, none⟩ (.int .u8 1))) ?hg ?ho ?hn ?hr ?_; (case ho => rfl); (case hg => rfl); (case hn => rfl); (case hr => first | (go_simp; done) | (go_simp; rfl)); intro w16 hw; have n0_ : zD (Kd.R k45 45 w16 w.heap.size (fun k_ => k_ ≠ gb192 ∧ k_ ≠ gb198) u3 x3_1) := ⟨(by rw [hw]; exact (by (with_reducible repeat (first | apply Kd.R_alloc | apply Kd.R_drewN | apply Kd.R_drew)); exact Kd.R_mono (Kd.R_far (p := ⟨gb198, 3, none⟩) (Kd.R_far (p := ⟨gb198, 1, none⟩) (Kd.R_mono HO_3.out (fun k_ hk => (⟨hk, hk.2⟩ : _ ∧ k_ ≠ gb198))) (fun _ hk => hk.2) (.int .u8 1)) (fun _ hk => hk.2) (.int .u8 1)) (fun _ hk => ⟨hk.1.1, hk.1.2⟩)))⟩; have n1_ : zD (w16.heap[gb191]? = some (.cells #[.slice none 0 0, .slice none 0 0] 31 (0, 0))) := ⟨(by rw [hw]; exact (by (with_reducible repeat (first | refine zB ?_ _ | refine zC ?_ | refine zA ?_ _)); refine zL ?_ NB191_198.out _; (with_reducible repeat (first | refine zB ?_ _ | refine zC ?_ | refine zA ?_ _)); refine zL ?_ NB191_198.out _; (with_reducible repeat (first | refine zB ?_ _ | refine zC ?_ | refine zA ?_ _)); exact BK191.out))⟩; have n2_ : zD (w16.heap[gb192]? = some (ob192)) := ⟨(by rw [hw]; exact (by (with_reducible repeat (first | refine zB ?_ _ | refine zC ?_ | refine zA ?_ _)); refine blk_farO ?_ NB192_198.out _; (with_reducible repeat (first | refine zB ?_ _ | refine zC ?_ | refine zA ?_ _)); refine blk_farO ?_ NB192_198.out _; (with_reducible repeat (first | refine zB ?_ _ | refine zC ?_ | refine zA ?_ _)); exact BK192.out))⟩; have n3_ : zD (w16.heap[gb198]? = some (.cells #[.int .u8 1, .int .u8 1, .int .u8 0, .int .u8 1] 45 (0, 0))) := ⟨(by rw [hw]; exact (by (with_reducible repeat (first | refine zB ?_ _ | refine zC ?_ | refine zA ?_ _)); refine blk_put (cs := #[.int .u8 1, .int .u8 1, .int .u8 0, .int .u8 0]) ?_ 3 _ rfl; (with_reducible repeat (first | refine zB ?_ _ | refine zC ?_ | refine zA ?_ _)); refine blk_put (cs := #[.int .u8 1, .int .u8 0, .int .u8 0, .int .u8 0]) ?_ 1 _ rfl; (with_reducible repeat (first | refine zB ?_ _ | refine zC ?_ | refine zA ?_ _)); exact BK198.out))⟩; have n4_ : zD (Below w.heap.size w w16) := ⟨(by rw [hw]; exact (by repeat (first | (with_reducible first | exact HB.out | apply zJ | apply zF | apply zI | refine zE ?_ GE191.out | refine zE ?_ GE192.out | refine zE ?_ GE198.out) | exact HB.out)))⟩; clear hw; clear HO_3; clear BK191; clear BK192; clear BK198; clear HB; have HO_3 := n0_; have BK191 := n1_; have BK192 := n2_; have BK198 := n3_; have HB := n4_; clear n0_ n1_ n2_ n3_ n4_; have hcz17_0 : w16.cell? ⟨gb198, 0, none⟩ = some (.int .u8 1) := (zH BK198.out 0).trans rfl; have hcz17_1 : w16.cell? ⟨gb198, 1, none⟩ = some (.int .u8 1) := (zH BK198.out 1).trans rfl; have hcz17_2 : w16.cell? ⟨gb198, 2, none⟩ = some (.int .u8 0) := (zH BK198.out 2).trans rfl; have hcz17_3 : w16.cell? ⟨gb198, 3, none⟩ = some (.int .u8 1) := (zH BK198.out 3).trans rfl; have hfz17_0 := zG BK198.out 0; have hfz17_1 := zG BK198.out 1; have hfz17_2 := zG BK198.out 2; have hfz17_3 := zG BK198.out 3) | ((with_reducible refine gate_builtin (b := .append) (xs := #[.tmp 19, .tmp 21]) rfl ?_); at_builtin; refine Kd.R_append k45 (w0 := w) w.heap.size rfl (.tmp 19) (.tmp 21) 22 45 (.agg #[(.int .u8 0), (.int .u8 0), (.int .u8 0), (.int .u8 0)]) 4 rfl Try.underlying22 info45 rfl (by decide) (by omega) u3 x3_1 (⟨1, 1, 0, 1⟩ : S45) [.int .u8 1, .int .u8 1, .int .u8 0, .int .u8 1] (fun k_ => k_ ≠ gb192 ∧ k_ ≠ gb198) (fun _ => False) rfl rfl ?aP (fun _ hk => hk.elim) ?aF ?aO ?aB ?aS ?aL ?_; (case aP => exact k45_mkM _ _ _ (⟨1, 1, 0, 1⟩ : S45)); (case aB => exact (by repeat (first | (with_reducible first | exact HB.out | apply zJ | apply zF | apply zI | refine zE ?_ GE191.out | refine zE ?_ GE192.out | refine zE ?_ GE198.out) | exact HB.out))); (case aF => exact (fun k_ hk => ⟨Kd.freshB (g := gb192) (o := ob192) (by (with_reducible repeat (first | refine zB ?_ _ | refine zC ?_ | refine zA ?_ _)); exact BK192.out) k_ hk, Kd.freshB (g := gb198) (o := .cells #[.int .u8 1, .int .u8 1, .int .u8 0, .int .u8 1] 45 (0, 0)) (by (with_reducible repeat (first | refine zB ?_ _ | refine zC ?_ | refine zA ?_ _)); exact BK198.out) k_ hk⟩)); (case aO => exact (by (with_reducible repeat (first | apply Kd.R_alloc | apply Kd.R_drewN | apply Kd.R_drew)); exact HO_3.out)); (case aS => exact (zM (by repeat (first | (with_reducible first | exact HB.out | apply zJ | apply zF | apply zI | refine zE ?_ GE191.out | refine zE ?_ GE192.out | refine zE ?_ GE198.out) | exact HB.out)))); (case aL => have := LMc9.out; omega); intro v200 w18 ho hb hg hat; rw [← Ny199.out] at ho; have n0_ := zD.mk (blk_grown (g := gb191) (o := .cells #[.slice none 0 0, .slice none 0 0] 31 (0, 0)) (by (with_reducible repeat (first | refine zB ?_ _ | refine zC ?_ | refine zA ?_ _)); exact BK191.out) hg (Kd.R_ne HO_3.out BK191.out (by decide))); have n1_ := zD.mk (blk_grown (g := gb192) (o := ob192) (by (with_reducible repeat (first | refine zB ?_ _ | refine zC ?_ | refine zA ?_ _)); exact BK192.out) hg (Kd.R_away HO_3.out (fun _ hk => hk.1))); have n2_ := zD.mk (blk_grown (g := gb198) (o := .cells #[.int .u8 1, .int .u8 1, .int .u8 0, .int .u8 1] 45 (0, 0)) (by (with_reducible repeat (first | refine zB ?_ _ | refine zC ?_ | refine zA ?_ _)); exact BK198.out) hg (Kd.R_away HO_3.out (fun _ hk => hk.2))); have n3_ := zD.mk (hb); have n4_ := zD.mk (ho); clear BK191; clear BK192; clear BK198; clear HB; clear HO_3; have BK191 := n0_; have BK192 := n1_; have BK198 := n2_; have HB := n3_; have HO201 := n4_; clear n0_ n1_ n2_ n3_ n4_; clear ho hb hg hat))
    go_roundg k1
    case measure => have := HK1.out; omega
    case rel => exact ⟨(y199), (wrap64 (x10_1 + 1)), (by first | rfl | (simp; done) | (simp [*]; done)), H', ⟨by have := HK1.out; omega⟩, ⟨by (with_reducible repeat (first | apply Kd.R_alloc | apply Kd.R_drewN | apply Kd.R_drew)); exact Kd.R_mono HO201.out (fun _ hk => hk.1)⟩, ⟨by (with_reducible repeat (first | refine zB ?_ _ | refine zC ?_ | refine zA ?_ _)); exact BK191.out⟩, ⟨by (with_reducible repeat (first | refine zB ?_ _ | refine zC ?_ | refine zA ?_ _)); exact BK192.out⟩, ⟨by repeat (first | (with_reducible first | exact HB.out | apply zJ | apply zF | apply zI | refine zE ?_ GE191.out | refine zE ?_ GE192.out | refine zE ?_ GE198.out) | exact HB.out)⟩⟩
end Go.Proofs.Ytlgclhhkgohanaa.F
end
section
namespace Go.Proofs.Ytlgclhhkgohanaa.F
open Go.RowKit Go.Proofs.YtlgclhhkgohanaaW.PrintWords Go.Proofs.YtlgclhhkgohanaaW.PrintLast Go.Proofs.YtlgclhhkgohanaaW.PrintMore
attribute [local go_sem] max2_int min2_int max_two min_two max_three min_three max_four min_four   -- for this text's walks alone
set_option linter.unusedVariables false
set_option linter.unusedSimpArgs false
def stanzalaw15_Awake.f (k : Nat)  : Option (Bool) := (stanzalaw14_Text.f k (⟨#[97, 97, 97, 32, 98, 98, 98, 32, 99, 32, 100, 100, 100, 100, 32, 101, 101, 101, 101, 101, 101, 101, 101, 101]⟩ : ByteArray)).bind fun bt211 => ((best_Break.f k bt211.1 bt211.2 0 24 9 8 1 0 0 4741671816366391296).bind fun bt218 => (if bt218.2 = true then (if (bt218.1.length : Int) = 3 then (if 0 < (bt218.1.length : Int) then (if ((rd_T48 bt218.1 0).f1) = 8 then (if 1 < (bt218.1.length : Int) then (if ((rd_T48 bt218.1 1).f1) = 15 then (some (((rd_T48 bt218.1 1).f2) == 6)) else (some false)) else (none)) else (some false)) else (none)) else (some false)) else (some false)))
theorem stanzalaw15_Awake.mono : ∀ k, LeO (stanzalaw15_Awake.f k ) (stanzalaw15_Awake.f (k + 1) ) := by
  intro  k
  unfold stanzalaw15_Awake.f
  repeat' first
      | (with_reducible exact best_Break.mono _ _ _ _ _ _ _ _ _ _ _)
      | (with_reducible exact stanzalaw14_Text.mono _ _)
      | (with_reducible exact LeO.refl _)
      | (with_reducible exact LeO.none _)
      | (with_reducible refine LeO.ite ?_ ?_)
      | (with_reducible refine LeO.bind ?_ (fun _ => ?_))
      | exact best_Break.mono _ _ _ _ _ _ _ _ _ _ _
      | exact stanzalaw14_Text.mono _ _
      | exact LeO.none _
      | refine LeO.ite ?_ ?_
      | refine LeO.bind ?_ (fun _ => ?_)
set_option maxHeartbeats 8000000 in
set_option maxRecDepth 100000 in
theorem stanzalaw15_Awake.calls (k : Nat)  (r : Bool) (w : World) (h : stanzalaw15_Awake.f k  = some r) (hrt_ : zD (r = true)) :
    Calls Try.prog 10 #[] w fun e w' => e = .returned (.bool r) ∧ Below w.heap.size w w' := by
  have hu31 := Try.underlying31; have hu35 := Try.underlying35; have HB := zD.mk (Below.refl w.heap.size w); have H : ((stanzalaw14_Text.f k (⟨#[97, 97, 97, 32, 98, 98, 98, 32, 99, 32, 100, 100, 100, 100, 32, 101, 101, 101, 101, 101, 101, 101, 101, 101]⟩ : ByteArray)).bind fun bt211 => ((best_Break.f k bt211.1 bt211.2 0 24 9 8 1 0 0 4741671816366391296).bind fun bt218 => (if bt218.2 = true then (if (bt218.1.length : Int) = 3 then (if 0 < (bt218.1.length : Int) then (if ((rd_T48 bt218.1 0).f1) = 8 then (if 1 < (bt218.1.length : Int) then (if ((rd_T48 bt218.1 1).f1) = 15 then (some (((rd_T48 bt218.1 1).f2) == 6)) else (some false)) else (none)) else (some false)) else (none)) else (some false)) else (some false)))) = some r := h
  clear h; replace H := Option.bind_eq_some_iff.mp H; obtain ⟨⟨t211, t214⟩, A10, H⟩ := H; replace H : ((best_Break.f k t211 t214 0 24 9 8 1 0 0 4741671816366391296).bind fun bt218 => (if bt218.2 = true then (if (bt218.1.length : Int) = 3 then (if 0 < (bt218.1.length : Int) then (if ((rd_T48 bt218.1 0).f1) = 8 then (if 1 < (bt218.1.length : Int) then (if ((rd_T48 bt218.1 1).f1) = 15 then (some (((rd_T48 bt218.1 1).f2) == 6)) else (some false)) else (none)) else (some false)) else (none)) else (some false)) else (some false))) = some r := H
  have A1 := zD.mk A10; clear A10; replace H := Option.bind_eq_some_iff.mp H; obtain ⟨⟨t218, t221⟩, A20, H⟩ := H; replace H : (if t221 = true then (if (t218.length : Int) = 3 then (if 0 < (t218.length : Int) then (if ((rd_T48 t218 0).f1) = 8 then (if 1 < (t218.length : Int) then (if ((rd_T48 t218 1).f1) = 15 then (some (((rd_T48 t218 1).f2) == 6)) else (some false)) else (none)) else (some false)) else (none)) else (some false)) else (some false)) = some r := H; have A2 := zD.mk A20; clear A20; by_cases c3 : t221 = true
  rotate_left
  · replace c3 := Bool.eq_false_iff.mpr c3
    subst c3; have H1 : (some false) = some r := by rw [if_neg (show ¬ (false = true) by decide)] at H; exact H
    clear H; have H := H1; clear H1; exact absurd ((Option.some.inj H).trans hrt_.out) (by decide)
  subst c3; have H1 : (if (t218.length : Int) = 3 then (if 0 < (t218.length : Int) then (if ((rd_T48 t218 0).f1) = 8 then (if 1 < (t218.length : Int) then (if ((rd_T48 t218 1).f1) = 15 then (some (((rd_T48 t218 1).f2) == 6)) else (some false)) else (none)) else (some false)) else (none)) else (some false)) = some r := by rw [if_pos rfl] at H; exact H
  clear H; have H := H1; clear H1; by_cases c4 : (t218.length : Int) = 3
  rotate_left
  · rw [if_neg c4] at H
    have c4b0 : ((t218.length : Int) == 3) = false := beq_eq_false_iff_ne.mpr c4
    have c4b1 : ((t218.length : Int) != 3) = true := bne_iff_ne.mpr c4
    exact absurd ((Option.some.inj H).trans hrt_.out) (by decide)
  rw [if_pos c4] at H; have c4b0 : ((t218.length : Int) == 3) = true := beq_iff_eq.mpr c4
  have c4b1 : ((t218.length : Int) != 3) = false := bne_eq_false_iff_eq.mpr c4
  clear c4; by_cases c5 : 0 < (t218.length : Int)
  rotate_left
  · rw [if_neg c5] at H
    exact absurd H (by simp)
  rw [if_pos c5] at H; have c5b0 : decide (0 < (t218.length : Int)) = true := decide_eq_true c5
  have c5b1 : decide (0 < t218.length) = true := decide_eq_true (by omega)
  clear c5; by_cases c6 : ((rd_T48 t218 0).f1) = 8
  rotate_left
  · rw [if_neg c6] at H
    have c6b0 : (((rd_T48 t218 0).f1) == 8) = false := beq_eq_false_iff_ne.mpr c6
    have c6b1 : (((rd_T48 t218 0).f1) != 8) = true := bne_iff_ne.mpr c6
    exact absurd ((Option.some.inj H).trans hrt_.out) (by decide)
  rw [if_pos c6] at H; have c6b0 : (((rd_T48 t218 0).f1) == 8) = true := beq_iff_eq.mpr c6
  have c6b1 : (((rd_T48 t218 0).f1) != 8) = false := bne_eq_false_iff_eq.mpr c6
  clear c6; by_cases c7 : 1 < (t218.length : Int)
  rotate_left
  · rw [if_neg c7] at H
    exact absurd H (by simp)
  rw [if_pos c7] at H; have c7b0 : decide (1 < (t218.length : Int)) = true := decide_eq_true c7
  have c7b1 : decide (1 < t218.length) = true := decide_eq_true (by omega)
  clear c7; by_cases c8 : ((rd_T48 t218 1).f1) = 15
  rotate_left
  · rw [if_neg c8] at H
    have c8b0 : (((rd_T48 t218 1).f1) == 15) = false := beq_eq_false_iff_ne.mpr c8
    have c8b1 : (((rd_T48 t218 1).f1) != 15) = true := bne_iff_ne.mpr c8
    exact absurd ((Option.some.inj H).trans hrt_.out) (by decide)
  rw [if_pos c8] at H; have c8b0 : (((rd_T48 t218 1).f1) == 15) = true := beq_iff_eq.mpr c8
  have c8b1 : (((rd_T48 t218 1).f1) != 15) = false := bne_eq_false_iff_eq.mpr c8
  clear c8; obtain rfl := Option.some.inj H
  go_enter Try.func10, Try.ntmps10
  go_wp2_with (first | ((with_reducible refine gate_callee (f := 23) rfl ?_); refine goesL_ (some 4) rfl rfl Try.func23 (by kernel_rfl) rfl #[.string (⟨#[97, 97, 97, 32, 98, 98, 98, 32, 99, 32, 100, 100, 100, 100, 32, 101, 101, 101, 101, 101, 101, 101, 101, 101]⟩ : ByteArray)] rfl (by (try simp only [List.map_toArray, List.map_cons, List.map_nil]); first | done | rfl | (simp only [List.length_drop, List.length_take]; rfl)) ?_; (with_reducible refine (stanzalaw14_Text.calls k (⟨#[97, 97, 97, 32, 98, 98, 98, 32, 99, 32, 100, 100, 100, 100, 32, 101, 101, 101, 101, 101, 101, 101, 101, 101]⟩ : ByteArray) t211 t214 _ A1.out).mono ?_); rintro e w9 ⟨v212, v215, rfl, ho0, ho1, hb⟩; refine ⟨_, rfl, ?_⟩; have n0_ := zD.mk (Kd.R_lower ho0 (zM (by repeat (first | (with_reducible first | exact HB.out | apply zJ | apply zF | apply zI) | exact HB.out)))); have n1_ := zD.mk (Kd.R_lower ho1 (zM (by repeat (first | (with_reducible first | exact HB.out | apply zJ | apply zF | apply zI) | exact HB.out)))); have n2_ := zD.mk (below_step (by repeat (first | (with_reducible first | exact HB.out | apply zJ | apply zF | apply zI) | exact HB.out)) hb); clear HB; have HO213 := n0_; have HO216 := n1_; have HB := n2_; clear n0_ n1_ n2_; (try clear hb); (try clear hb2); (try clear hk); (try clear hi); (try clear ho0); (try clear ho1)) | ((with_reducible refine gate_dst (N := 1) rfl ?_); (try (refine gate_guard (by rfl) ?_; dsimp only)); refine box_event ?hg (N := 1) ?hd (cs := #[.slice none 0 0, .slice none 0 0]) (t := 31) ?hr ?_; (case hd => rfl); (case hg => rfl); (case hr => first | (go_simp; done) | (go_simp; rfl)); intro gb217 hg w10 hbox hb; have n0_ := zD.mk (Kd.R_below (by (with_reducible repeat (first | apply Kd.R_alloc | apply Kd.R_drewN | apply Kd.R_drew)); exact HO213.out) hb); have n1_ := zD.mk (Kd.R_below (by (with_reducible repeat (first | apply Kd.R_alloc | apply Kd.R_drewN | apply Kd.R_drew)); exact HO216.out) hb); have n2_ := zD.mk (below_step (by repeat (first | (with_reducible first | exact HB.out | apply zJ | apply zF | apply zI) | exact HB.out)) hb); have n3_ := zD.mk (hbox); have n4_ := zD.mk ((by rw [hg]; exact (zM (by repeat (first | (with_reducible first | exact HB.out | apply zJ | apply zF | apply zI) | exact HB.out))) : w.heap.size ≤ gb217)); have n5_ := zD.mk ((by rw [hg]; exact (zM (by repeat (first | (with_reducible first | exact HB.out | apply zJ | apply zF | apply zI) | exact HB.out))) : w.heap.size ≤ gb217)); clear HO213; clear HO216; clear HB; have HO213 := n0_; have HO216 := n1_; have HB := n2_; have BK217 := n3_; have GW217 := n4_; have GE217 := n5_; clear n0_ n1_ n2_ n3_ n4_ n5_; clear hb hbox hg; obtain ⟨Ao11, co11, eo11⟩ := Kd.R_slice HO213.out; subst eo11; have hcz12_0 : w10.cell? ⟨gb217, 0, none⟩ = some (.slice none 0 0) := (zH BK217.out 0).trans rfl; have hcz12_1 : w10.cell? ⟨gb217, 1, none⟩ = some (.slice none 0 0) := (zH BK217.out 1).trans rfl; have hfz12_0 := zG BK217.out 0; have hfz12_1 := zG BK217.out 1; obtain ⟨Ao13, co13, eo13⟩ := Kd.R_slice HO216.out; subst eo13) | ((with_reducible refine gate_store (t := 31) (p := 1) rfl ?_); refine store_event (t := 31) (p := 1) (v := ?vo_w14) (w1 := ((w10.setCell ⟨gb217, 0, none⟩ (.slice Ao11 t211.length co11)).setCell ⟨gb217, 1, none⟩ (.slice Ao13 t214.length co13))) ?hg ?ho ?hn ?hr ?_; (case ho => rfl); (case hg => rfl); (case hn => rfl); (case hr => first | (go_simp; done) | (go_simp; rfl)); intro w14 hw; have n0_ : zD (Kd.R k62 62 w14 w.heap.size (fun _ => True) (.slice Ao11 t211.length co11) t211) := ⟨(by rw [hw]; exact (by (with_reducible repeat (first | apply Kd.R_alloc | apply Kd.R_drewN | apply Kd.R_drew)); exact Kd.R_mono (Kd.R_far (p := ⟨gb217, 1, none⟩) (Kd.R_far (p := ⟨gb217, 0, none⟩) (Kd.R_types HO213.out BK217.out (by decide)) (fun _ hk => hk.2) (.slice Ao11 t211.length co11)) (fun _ hk => hk.2) (.slice Ao13 t214.length co13)) (fun _ hk => trivial)))⟩; have n1_ : zD (Kd.R (Kd.int .u8) 46 w14 w.heap.size (fun _ => True) (.slice Ao13 t214.length co13) t214) := ⟨(by rw [hw]; exact (by (with_reducible repeat (first | apply Kd.R_alloc | apply Kd.R_drewN | apply Kd.R_drew)); exact Kd.R_mono (Kd.R_far (p := ⟨gb217, 1, none⟩) (Kd.R_far (p := ⟨gb217, 0, none⟩) (Kd.R_types HO216.out BK217.out (by decide)) (fun _ hk => hk.2) (.slice Ao11 t211.length co11)) (fun _ hk => hk.2) (.slice Ao13 t214.length co13)) (fun _ hk => trivial)))⟩; have n2_ : zD (w14.heap[gb217]? = some (.cells #[.slice Ao11 t211.length co11, .slice Ao13 t214.length co13] 31 (0, 0))) := ⟨(by rw [hw]; exact (by (with_reducible repeat (first | refine zB ?_ _ | refine zC ?_ | refine zA ?_ _)); refine blk_put (cs := #[.slice Ao11 t211.length co11, .slice none 0 0]) ?_ 1 _ rfl; (with_reducible repeat (first | refine zB ?_ _ | refine zC ?_ | refine zA ?_ _)); refine blk_put (cs := #[.slice none 0 0, .slice none 0 0]) ?_ 0 _ rfl; (with_reducible repeat (first | refine zB ?_ _ | refine zC ?_ | refine zA ?_ _)); exact BK217.out))⟩; have n3_ : zD (Below w.heap.size w w14) := ⟨(by rw [hw]; exact (by repeat (first | (with_reducible first | exact HB.out | apply zJ | apply zF | apply zI | refine zE ?_ GE217.out) | exact HB.out)))⟩; clear hw; clear HO213; clear HO216; clear BK217; clear HB; have HO213 := n0_; have HO216 := n1_; have BK217 := n2_; have HB := n3_; clear n0_ n1_ n2_ n3_; have hcz15_0 : w14.cell? ⟨gb217, 0, none⟩ = some (.slice Ao11 t211.length co11) := (zH BK217.out 0).trans rfl; have hcz15_1 : w14.cell? ⟨gb217, 1, none⟩ = some (.slice Ao13 t214.length co13) := (zH BK217.out 1).trans rfl; have hfz15_0 := zG BK217.out 0; have hfz15_1 := zG BK217.out 1) | ((with_reducible refine gate_callee (f := 14) rfl ?_); refine goesL_ (some 8) rfl rfl Try.func14 (by kernel_rfl) rfl #[.agg #[.slice Ao11 t211.length co11, .slice Ao13 t214.length co13], .int .i64 0, .int .i64 24, .agg #[.int .i64 9, .int .i64 8, .int .u8 1, .int .i64 0, .int .i64 0, .float .f64 4741671816366391296]] rfl (by (try simp only [List.map_toArray, List.map_cons, List.map_nil]); first | done | rfl | (simp only [List.length_drop, List.length_take]; rfl)) ?_; (with_reducible refine (best_Break.calls k _ _ t211 _ _ t214 0 24 9 8 1 0 0 4741671816366391296 t218 true _ ?side1 ?side2 ?side3 ?side4 A2.out).mono ?_); (case side1 => repeat (first | exact (Kd.R_reads' HO213.out).2.2 | (with_reducible refine Kd.C_alloc ?_ _) | (with_reducible refine Kd.C_drewN ?_ _) | (with_reducible refine Kd.C_drew ?_))); (case side2 => exact (Kd.R_reads' HO213.out).2.1); (case side3 => repeat (first | exact (Kd.R_reads' HO216.out).2.2 | (with_reducible refine Kd.C_alloc ?_ _) | (with_reducible refine Kd.C_drewN ?_ _) | (with_reducible refine Kd.C_drew ?_))); (case side4 => exact (Kd.R_reads' HO216.out).2.1); rintro e w16 ⟨v219, rfl, ho0, hb⟩; refine ⟨_, rfl, ?_⟩; have n0_ := zD.mk (Kd.R_below (by (with_reducible repeat (first | apply Kd.R_alloc | apply Kd.R_drewN | apply Kd.R_drew)); exact HO213.out) hb); have n1_ := zD.mk (Kd.R_below (by (with_reducible repeat (first | apply Kd.R_alloc | apply Kd.R_drewN | apply Kd.R_drew)); exact HO216.out) hb); have n2_ := zD.mk (Kd.R_lower ho0 (zM (by repeat (first | (with_reducible first | exact HB.out | apply zJ | apply zF | apply zI | refine zE ?_ GE217.out) | exact HB.out)))); have n3_ := zD.mk (zK (g := gb217) (o := .cells #[.slice Ao11 t211.length co11, .slice Ao13 t214.length co13] 31 (0, 0)) (by (with_reducible repeat (first | refine zB ?_ _ | refine zC ?_ | refine zA ?_ _)); exact BK217.out) hb); have n4_ := zD.mk (below_step (by repeat (first | (with_reducible first | exact HB.out | apply zJ | apply zF | apply zI | refine zE ?_ GE217.out) | exact HB.out)) hb); clear HO213; clear HO216; clear BK217; clear HB; have HO213 := n0_; have HO216 := n1_; have HO220 := n2_; have BK217 := n3_; have HB := n4_; clear n0_ n1_ n2_ n3_ n4_; (try clear hb); (try clear hb2); (try clear hk); (try clear hi); (try clear ho0); obtain ⟨Ao17, co17, eo17⟩ := Kd.R_slice HO220.out; subst eo17; have p222 : 0 ≤ (0 : Int) := (by omega); have q222 : 0 < (t218.length : Int) := of_decide_eq_true (by first | (with_reducible assumption) | assumption); obtain ⟨ad222, e222, hx222_0, hx222_1, hx222_2, hx222_3⟩ := at_T48 (Kd.R_reads' HO220.out).2.2 0 p222 q222; cases e222; have qi222 : (0 < t218.length) = True := eq_true (by omega); (try rw [show ((0 : Int)).toNat = 0 from rfl] at hx222_0); (try rw [show 0 * 4 = 0 from rfl] at hx222_0); (try rw [Addr.add_zero'] at hx222_0); (try rw [show ((0 : Int)).toNat = 0 from rfl] at hx222_1); (try rw [show 0 * 4 = 0 from rfl] at hx222_1); (try rw [Addr.add_zero'] at hx222_1); (try rw [show ((0 : Int)).toNat = 0 from rfl] at hx222_2); (try rw [show 0 * 4 = 0 from rfl] at hx222_2); (try rw [Addr.add_zero'] at hx222_2); (try rw [show ((0 : Int)).toNat = 0 from rfl] at hx222_3); (try rw [show 0 * 4 = 0 from rfl] at hx222_3); (try rw [Addr.add_zero'] at hx222_3); replace p222 := eq_true p222; replace q222 := eq_true q222; have p223 : 0 ≤ (1 : Int) := (by omega); have q223 : 1 < (t218.length : Int) := of_decide_eq_true (by first | (with_reducible assumption) | assumption); obtain ⟨ad223, e223, hx223_0, hx223_1, hx223_2, hx223_3⟩ := at_T48 (Kd.R_reads' HO220.out).2.2 1 p223 q223; obtain rfl : ad222 = ad223 := (by injection e223); (try simp only [show (1 : Int).toNat = 1 from rfl, Nat.reduceMul, Nat.reduceEqDiff, Go.Addr.add, ↓reduceIte] at hx223_0); (try simp only [show (1 : Int).toNat = 1 from rfl, Nat.reduceMul, Nat.reduceEqDiff, Go.Addr.add, ↓reduceIte] at hx223_1); (try simp only [show (1 : Int).toNat = 1 from rfl, Nat.reduceMul, Nat.reduceEqDiff, Go.Addr.add, ↓reduceIte] at hx223_2); (try simp only [show (1 : Int).toNat = 1 from rfl, Nat.reduceMul, Nat.reduceEqDiff, Go.Addr.add, ↓reduceIte] at hx223_3); have qi223 : (1 < t218.length) = True := eq_true (by omega); (try rw [show ((1 : Int)).toNat = 1 from rfl] at hx223_0); (try rw [show 1 * 4 = 4 from rfl] at hx223_0); (try rw [show ((1 : Int)).toNat = 1 from rfl] at hx223_1); (try rw [show 1 * 4 = 4 from rfl] at hx223_1); (try rw [show ((1 : Int)).toNat = 1 from rfl] at hx223_2); (try rw [show 1 * 4 = 4 from rfl] at hx223_2); (try rw [show ((1 : Int)).toNat = 1 from rfl] at hx223_3); (try rw [show 1 * 4 = 4 from rfl] at hx223_3); replace p223 := eq_true p223; replace q223 := eq_true q223; have p224 : 0 ≤ (1 : Int) := (by omega); have q224 : 1 < (t218.length : Int) := of_decide_eq_true (by first | (with_reducible assumption) | assumption); obtain ⟨ad224, e224, hx224_0, hx224_1, hx224_2, hx224_3⟩ := at_T48 (Kd.R_reads' HO220.out).2.2 1 p224 q224; obtain rfl : ad222 = ad224 := (by injection e224); (try simp only [show (1 : Int).toNat = 1 from rfl, Nat.reduceMul, Nat.reduceEqDiff, Go.Addr.add, ↓reduceIte] at hx224_0); (try simp only [show (1 : Int).toNat = 1 from rfl, Nat.reduceMul, Nat.reduceEqDiff, Go.Addr.add, ↓reduceIte] at hx224_1); (try simp only [show (1 : Int).toNat = 1 from rfl, Nat.reduceMul, Nat.reduceEqDiff, Go.Addr.add, ↓reduceIte] at hx224_2); (try simp only [show (1 : Int).toNat = 1 from rfl, Nat.reduceMul, Nat.reduceEqDiff, Go.Addr.add, ↓reduceIte] at hx224_3); have qi224 : (1 < t218.length) = True := eq_true (by omega); (try rw [show ((1 : Int)).toNat = 1 from rfl] at hx224_0); (try rw [show 1 * 4 = 4 from rfl] at hx224_0); (try rw [show ((1 : Int)).toNat = 1 from rfl] at hx224_1); (try rw [show 1 * 4 = 4 from rfl] at hx224_1); (try rw [show ((1 : Int)).toNat = 1 from rfl] at hx224_2); (try rw [show 1 * 4 = 4 from rfl] at hx224_2); (try rw [show ((1 : Int)).toNat = 1 from rfl] at hx224_3); (try rw [show 1 * 4 = 4 from rfl] at hx224_3); replace p224 := eq_true p224; replace q224 := eq_true q224))
  go_ret
  exact ⟨by first | rfl | (simp [errW_none, errW_some] <;> rfl) | (simp [*, errW_none, errW_some] <;> rfl), by repeat (first | (with_reducible first | exact HB.out | apply zJ | apply zF | apply zI | refine zE ?_ GE217.out) | exact HB.out)⟩
def stanzahand03_Config.f (a0_0 : Int) (a0_1 : Int) (a0_2 : Int) (a0_3 : Int) (a0_4 : Int) (a0_5 : Nat) : Option (Int × Int × Int × Int × Int × Nat) := some (wrap64 (1 + (wrap64 (a0_0))), wrap64 (1 + (wrap64 (Int.tmod a0_1 64))), Int.tmod a0_2 2, wrap64 (a0_3), wrap64 (a0_4), a0_5)
set_option maxHeartbeats 8000000 in
set_option maxRecDepth 100000 in
theorem stanzahand03_Config.calls (a0_0 : Int) (a0_1 : Int) (a0_2 : Int) (a0_3 : Int) (a0_4 : Int) (a0_5 : Nat) (r1 : Int) (r2 : Int) (r3 : Int) (r4 : Int) (r5 : Int) (r6 : Nat) (w : World) (h : stanzahand03_Config.f a0_0 a0_1 a0_2 a0_3 a0_4 a0_5 = some (r1, r2, r3, r4, r5, r6)) :
    Calls Try.prog 12 #[.agg #[.int .u8 a0_0, .int .u8 a0_1, .int .u8 a0_2, .int .u16 a0_3, .int .u16 a0_4, .float .f64 a0_5]] w fun e w' => e = .returned (.agg #[.int .i64 r1, .int .i64 r2, .int .u8 r3, .int .i64 r4, .int .i64 r5, .float .f64 r6]) ∧ Below w.heap.size w w' := by
  have hu26 := Try.underlying26; have hu35 := Try.underlying35; have HB := zD.mk (Below.refl w.heap.size w); have H : (some (wrap64 (1 + (wrap64 (a0_0))), wrap64 (1 + (wrap64 (Int.tmod a0_1 64))), Int.tmod a0_2 2, wrap64 (a0_3), wrap64 (a0_4), a0_5)) = some (r1, r2, r3, r4, r5, r6) := h
  clear h; simp only [Option.some.injEq, Prod.mk.injEq] at H; obtain ⟨rfl, rfl, rfl, rfl, rfl, rfl⟩ := H; go_enter Try.func12, Try.ntmps12
  go_wp2_with (first | ((with_reducible refine gate_dst (N := 1) rfl ?_); refine box_event ?hg (N := 1) ?hd (cs := #[.int .u8 a0_0, .int .u8 a0_1, .int .u8 a0_2, .int .u16 a0_3, .int .u16 a0_4, .float .f64 a0_5]) (t := 26) ?hr ?_; (case hd => rfl); (case hg => rfl); (case hr => first | (go_simp; done) | (go_simp; rfl)); intro gb225 hg w2 hbox hb; have n0_ := zD.mk (below_step (by repeat (first | (with_reducible first | exact HB.out | apply zJ | apply zF | apply zI) | exact HB.out)) hb); have n1_ := zD.mk (hbox); have n2_ := zD.mk ((by rw [hg]; exact (zM (by repeat (first | (with_reducible first | exact HB.out | apply zJ | apply zF | apply zI) | exact HB.out))) : w.heap.size ≤ gb225)); have n3_ := zD.mk ((by rw [hg]; exact (zM (by repeat (first | (with_reducible first | exact HB.out | apply zJ | apply zF | apply zI) | exact HB.out))) : w.heap.size ≤ gb225)); clear HB; have HB := n0_; have BK225 := n1_; have GW225 := n2_; have GE225 := n3_; clear n0_ n1_ n2_ n3_; clear hb hbox hg) | ((with_reducible refine gate_dst (N := 2) rfl ?_); refine box_event ?hg (N := 2) ?hd (cs := #[.int .i64 0, .int .i64 0, .int .u8 0, .int .i64 0, .int .i64 0, .float .f64 0]) (t := 35) ?hr ?_; (case hd => rfl); (case hg => rfl); (case hr => first | (go_simp; done) | (go_simp; rfl)); intro gb226 hg w3 hbox hb; have n0_ := zD.mk (zK (g := gb225) (o := .cells #[.int .u8 a0_0, .int .u8 a0_1, .int .u8 a0_2, .int .u16 a0_3, .int .u16 a0_4, .float .f64 a0_5] 26 (0, 0)) (by (with_reducible repeat (first | refine zB ?_ _ | refine zC ?_ | refine zA ?_ _)); exact BK225.out) hb); have n1_ := zD.mk (below_step (by repeat (first | (with_reducible first | exact HB.out | apply zJ | apply zF | apply zI | refine zE ?_ GE225.out) | exact HB.out)) hb); have n2_ := zD.mk (hbox); have n3_ := zD.mk ((by rw [hg]; exact (zM (by repeat (first | (with_reducible first | exact HB.out | apply zJ | apply zF | apply zI | refine zE ?_ GE225.out) | exact HB.out))) : w.heap.size ≤ gb226)); have n4_ := zD.mk ((by rw [hg]; exact (zM (by repeat (first | (with_reducible first | exact HB.out | apply zJ | apply zF | apply zI | refine zE ?_ GE225.out) | exact HB.out))) : w.heap.size ≤ gb226)); have n5_ := zD.mk ((by rw [hg]; exact Nat.ne_of_lt (blk_lt (g := gb225) (o := .cells #[.int .u8 a0_0, .int .u8 a0_1, .int .u8 a0_2, .int .u16 a0_3, .int .u16 a0_4, .float .f64 a0_5] 26 (0, 0)) (by (with_reducible repeat (first | refine zB ?_ _ | refine zC ?_ | refine zA ?_ _)); exact BK225.out)) : gb225 ≠ gb226)); have n6_ := zD.mk ((by rw [hg]; exact Nat.ne_of_gt (blk_lt (g := gb225) (o := .cells #[.int .u8 a0_0, .int .u8 a0_1, .int .u8 a0_2, .int .u16 a0_3, .int .u16 a0_4, .float .f64 a0_5] 26 (0, 0)) (by (with_reducible repeat (first | refine zB ?_ _ | refine zC ?_ | refine zA ?_ _)); exact BK225.out)) : gb226 ≠ gb225)); clear BK225; clear HB; have BK225 := n0_; have HB := n1_; have BK226 := n2_; have GW226 := n3_; have GE226 := n4_; have NB225_226 := n5_; have NB226_225 := n6_; clear n0_ n1_ n2_ n3_ n4_ n5_ n6_; clear hb hbox hg; have hnb4 := NB225_226.out; have hnc4 := NB226_225.out; have hcz5_0 : w3.cell? ⟨gb225, 0, none⟩ = some (.int .u8 a0_0) := (zH BK225.out 0).trans rfl; have hcz5_1 : w3.cell? ⟨gb225, 1, none⟩ = some (.int .u8 a0_1) := (zH BK225.out 1).trans rfl; have hcz5_2 : w3.cell? ⟨gb225, 2, none⟩ = some (.int .u8 a0_2) := (zH BK225.out 2).trans rfl; have hcz5_3 : w3.cell? ⟨gb225, 3, none⟩ = some (.int .u16 a0_3) := (zH BK225.out 3).trans rfl; have hcz5_4 : w3.cell? ⟨gb225, 4, none⟩ = some (.int .u16 a0_4) := (zH BK225.out 4).trans rfl; have hcz5_5 : w3.cell? ⟨gb225, 5, none⟩ = some (.float .f64 a0_5) := (zH BK225.out 5).trans rfl; have hfz5_0 := zG BK225.out 0; have hfz5_1 := zG BK225.out 1; have hfz5_2 := zG BK225.out 2; have hfz5_3 := zG BK225.out 3; have hfz5_4 := zG BK225.out 4; have hfz5_5 := zG BK225.out 5; have hcz6_0 : w3.cell? ⟨gb226, 0, none⟩ = some (.int .i64 0) := (zH BK226.out 0).trans rfl; have hcz6_1 : w3.cell? ⟨gb226, 1, none⟩ = some (.int .i64 0) := (zH BK226.out 1).trans rfl; have hcz6_2 : w3.cell? ⟨gb226, 2, none⟩ = some (.int .u8 0) := (zH BK226.out 2).trans rfl; have hcz6_3 : w3.cell? ⟨gb226, 3, none⟩ = some (.int .i64 0) := (zH BK226.out 3).trans rfl; have hcz6_4 : w3.cell? ⟨gb226, 4, none⟩ = some (.int .i64 0) := (zH BK226.out 4).trans rfl; have hcz6_5 : w3.cell? ⟨gb226, 5, none⟩ = some (.float .f64 0) := (zH BK226.out 5).trans rfl; have hfz6_0 := zG BK226.out 0; have hfz6_1 := zG BK226.out 1; have hfz6_2 := zG BK226.out 2; have hfz6_3 := zG BK226.out 3; have hfz6_4 := zG BK226.out 4; have hfz6_5 := zG BK226.out 5) | ((with_reducible refine gate_store (t := 35) (p := 2) rfl ?_); refine store_event (t := 35) (p := 2) (v := ?vo_w7) (w1 := ((((((w3.setCell ⟨gb226, 0, none⟩ (.int .i64 (wrap64 (1 + (wrap64 (a0_0)))))).setCell ⟨gb226, 1, none⟩ (.int .i64 (wrap64 (1 + (wrap64 (Int.tmod a0_1 64)))))).setCell ⟨gb226, 2, none⟩ (.int .u8 (Int.tmod a0_2 2))).setCell ⟨gb226, 3, none⟩ (.int .i64 (wrap64 (a0_3)))).setCell ⟨gb226, 4, none⟩ (.int .i64 (wrap64 (a0_4)))).setCell ⟨gb226, 5, none⟩ (.float .f64 a0_5))) ?hg ?ho ?hn ?hr ?_; (case ho => rfl); (case hg => rfl); (case hn => rfl); (case hr => first | (go_simp; done) | (go_simp; rfl)); intro w7 hw; have n0_ : zD (w7.heap[gb225]? = some (.cells #[.int .u8 a0_0, .int .u8 a0_1, .int .u8 a0_2, .int .u16 a0_3, .int .u16 a0_4, .float .f64 a0_5] 26 (0, 0))) := ⟨(by rw [hw]; exact (by (with_reducible repeat (first | refine zB ?_ _ | refine zC ?_ | refine zA ?_ _)); refine zL ?_ NB225_226.out _; (with_reducible repeat (first | refine zB ?_ _ | refine zC ?_ | refine zA ?_ _)); refine zL ?_ NB225_226.out _; (with_reducible repeat (first | refine zB ?_ _ | refine zC ?_ | refine zA ?_ _)); refine zL ?_ NB225_226.out _; (with_reducible repeat (first | refine zB ?_ _ | refine zC ?_ | refine zA ?_ _)); refine zL ?_ NB225_226.out _; (with_reducible repeat (first | refine zB ?_ _ | refine zC ?_ | refine zA ?_ _)); refine zL ?_ NB225_226.out _; (with_reducible repeat (first | refine zB ?_ _ | refine zC ?_ | refine zA ?_ _)); refine zL ?_ NB225_226.out _; (with_reducible repeat (first | refine zB ?_ _ | refine zC ?_ | refine zA ?_ _)); exact BK225.out))⟩; have n1_ : zD (w7.heap[gb226]? = some (.cells #[.int .i64 (wrap64 (1 + (wrap64 (a0_0)))), .int .i64 (wrap64 (1 + (wrap64 (Int.tmod a0_1 64)))), .int .u8 (Int.tmod a0_2 2), .int .i64 (wrap64 (a0_3)), .int .i64 (wrap64 (a0_4)), .float .f64 a0_5] 35 (0, 0))) := ⟨(by rw [hw]; exact (by (with_reducible repeat (first | refine zB ?_ _ | refine zC ?_ | refine zA ?_ _)); refine blk_put (cs := #[.int .i64 (wrap64 (1 + (wrap64 (a0_0)))), .int .i64 (wrap64 (1 + (wrap64 (Int.tmod a0_1 64)))), .int .u8 (Int.tmod a0_2 2), .int .i64 (wrap64 (a0_3)), .int .i64 (wrap64 (a0_4)), .float .f64 0]) ?_ 5 _ rfl; (with_reducible repeat (first | refine zB ?_ _ | refine zC ?_ | refine zA ?_ _)); refine blk_put (cs := #[.int .i64 (wrap64 (1 + (wrap64 (a0_0)))), .int .i64 (wrap64 (1 + (wrap64 (Int.tmod a0_1 64)))), .int .u8 (Int.tmod a0_2 2), .int .i64 (wrap64 (a0_3)), .int .i64 0, .float .f64 0]) ?_ 4 _ rfl; (with_reducible repeat (first | refine zB ?_ _ | refine zC ?_ | refine zA ?_ _)); refine blk_put (cs := #[.int .i64 (wrap64 (1 + (wrap64 (a0_0)))), .int .i64 (wrap64 (1 + (wrap64 (Int.tmod a0_1 64)))), .int .u8 (Int.tmod a0_2 2), .int .i64 0, .int .i64 0, .float .f64 0]) ?_ 3 _ rfl; (with_reducible repeat (first | refine zB ?_ _ | refine zC ?_ | refine zA ?_ _)); refine blk_put (cs := #[.int .i64 (wrap64 (1 + (wrap64 (a0_0)))), .int .i64 (wrap64 (1 + (wrap64 (Int.tmod a0_1 64)))), .int .u8 0, .int .i64 0, .int .i64 0, .float .f64 0]) ?_ 2 _ rfl; (with_reducible repeat (first | refine zB ?_ _ | refine zC ?_ | refine zA ?_ _)); refine blk_put (cs := #[.int .i64 (wrap64 (1 + (wrap64 (a0_0)))), .int .i64 0, .int .u8 0, .int .i64 0, .int .i64 0, .float .f64 0]) ?_ 1 _ rfl; (with_reducible repeat (first | refine zB ?_ _ | refine zC ?_ | refine zA ?_ _)); refine blk_put (cs := #[.int .i64 0, .int .i64 0, .int .u8 0, .int .i64 0, .int .i64 0, .float .f64 0]) ?_ 0 _ rfl; (with_reducible repeat (first | refine zB ?_ _ | refine zC ?_ | refine zA ?_ _)); exact BK226.out))⟩; have n2_ : zD (Below w.heap.size w w7) := ⟨(by rw [hw]; exact (by repeat (first | (with_reducible first | exact HB.out | apply zJ | apply zF | apply zI | refine zE ?_ GE225.out | refine zE ?_ GE226.out) | exact HB.out)))⟩; clear hw; clear BK225; clear BK226; clear HB; have BK225 := n0_; have BK226 := n1_; have HB := n2_; clear n0_ n1_ n2_))
  refine bodyPost_ret (results_cell_row rfl _ _ gb226 35 #[.int .i64 (wrap64 (1 + (wrap64 (a0_0)))), .int .i64 (wrap64 (1 + (wrap64 (Int.tmod a0_1 64)))), .int .u8 (Int.tmod a0_2 2), .int .i64 (wrap64 (a0_3)), .int .i64 (wrap64 (a0_4)), .float .f64 a0_5] (0, 0) _ rfl (by (with_reducible repeat (first | refine zB ?_ _ | refine zC ?_ | refine zA ?_ _)); exact BK226.out) Try.underlying35 rfl (by kernel_rfl)) rfl ?_
  exact ⟨by first | rfl | (simp [errW_none, errW_some] <;> rfl) | (simp [*, errW_none, errW_some] <;> rfl), by repeat (first | (with_reducible first | exact HB.out | apply zJ | apply zF | apply zI | refine zE ?_ GE225.out | refine zE ?_ GE226.out) | exact HB.out)⟩
end Go.Proofs.Ytlgclhhkgohanaa.F
end
section
namespace Go.Proofs.Ytlgclhhkgohanaa.F
open Go.RowKit Go.Proofs.YtlgclhhkgohanaaW.PrintWords Go.Proofs.YtlgclhhkgohanaaW.PrintLast Go.Proofs.YtlgclhhkgohanaaW.PrintMore
attribute [local go_sem] max2_int min2_int max_two min_two max_three min_three max_four min_four   -- for this text's walks alone
set_option linter.unusedVariables false
set_option linter.unusedSimpArgs false
def span_Gaps.l0 : Nat → Int → List (S62) → Int → Int → Option (Int)
  | 0, _, _, _, _ => none
  | k + 1, x7, x17, x18, x19 => if x19 < x18 then (if 0 ≤ x19 then (if x19 < (x17.length : Int) then (if ((rd_T62 x17 x19).f3) = 1 then (span_Gaps.l0 k (wrap64 (x7 + 1)) x17 x18 (wrap64 (x19 + 1))) else (span_Gaps.l0 k x7 x17 x18 (wrap64 (x19 + 1)))) else (none)) else (none)) else (some x7)
def span_Gaps.f (k : Nat) (l0_0 : List (S62)) (l0_1 : List Int) (a1 : Int) (a2 : Int) : Option (Int) := (span_Trim.f k l0_0 l0_1 a1 a2).bind fun t410 => (if 0 ≤ a1 then (if a1 ≤ t410 then (if t410 ≤ (l0_0.length : Int) then ((some ((l0_0.take (t410 : Int).toNat).drop (a1 : Int).toNat : List (S62))).bind fun y411 => (span_Gaps.l0 k 0 y411 (y411.length : Int) 0)) else (none)) else (none)) else (none))
theorem span_Gaps.mono_l : ∀ k, (∀ y0 y1 y2 y3, LeO (span_Gaps.l0 k y0 y1 y2 y3) (span_Gaps.l0 (k + 1) y0 y1 y2 y3))
  | 0 => fun _ _ _ _ r h => by simp [span_Gaps.l0] at h
  | k + 1 => by
    have ih0 := span_Gaps.mono_l k
    · intro y0 y1 y2 y3
      unfold span_Gaps.l0
      repeat' first
      | (with_reducible exact ih0 _ _ _ _)
      | (with_reducible exact span_Trim.mono _ _ _ _ _)
      | (with_reducible exact LeO.refl _)
      | (with_reducible exact LeO.none _)
      | (with_reducible refine LeO.ite ?_ ?_)
      | (with_reducible refine LeO.bind ?_ (fun _ => ?_))
      | exact ih0 _ _ _ _
      | exact span_Trim.mono _ _ _ _ _
      | exact LeO.none _
      | refine LeO.ite ?_ ?_
      | refine LeO.bind ?_ (fun _ => ?_)
theorem span_Gaps.mono : ∀ a0 a1 a2 a3 k, LeO (span_Gaps.f k a0 a1 a2 a3) (span_Gaps.f (k + 1) a0 a1 a2 a3) := by
  intro a0 a1 a2 a3 k
  have ih0 := span_Gaps.mono_l k; unfold span_Gaps.f
  repeat' first
      | (with_reducible exact ih0 _ _ _ _)
      | (with_reducible exact span_Trim.mono _ _ _ _ _)
      | (with_reducible exact LeO.refl _)
      | (with_reducible exact LeO.none _)
      | (with_reducible refine LeO.ite ?_ ?_)
      | (with_reducible refine LeO.bind ?_ (fun _ => ?_))
      | exact ih0 _ _ _ _
      | exact span_Trim.mono _ _ _ _ _
      | exact LeO.none _
      | refine LeO.ite ?_ ?_
      | refine LeO.bind ?_ (fun _ => ?_)
def span_Gaps.T2 : Bool × List (List Nat × List Nat) := (true, [([], []), ([0], [0]), ([], []), ([], []), ([], []), ([], []), ([3, 4, 5], [3, 4, 5]), ([1, 2, 6], [1, 2, 6]), ([7], [7]), ([], [])])
def span_Gaps.B2 : List Nat := [0, 1, 0, 0, 0, 0, 56, 127, 255, 0]
theorem span_Gaps.tab2 : rtab .any (opsOf Try.f33 2) = span_Gaps.T2 := by kernel_rfl
theorem span_Gaps.bits2 : waitsOk span_Gaps.T2.2 span_Gaps.B2 = true := by kernel_rfl
set_option maxHeartbeats 8000000 in
set_option maxRecDepth 100000 in
theorem span_Gaps.calls (k : Nat) (A0_0 : Option Addr) (c0_0 : Nat) (l0_0 : List (S62)) (A0_1 : Option Addr) (c0_1 : Nat) (l0_1 : List Int) (a1 : Int) (a2 : Int) (r : Int) (w : World) (hr0_0 : Kd.C k62 w A0_0 l0_0.length l0_0) (hc0_0 : l0_0.length ≤ c0_0) (hr0_1 : Kd.C (Kd.int .u8) w A0_1 l0_1.length l0_1) (hc0_1 : l0_1.length ≤ c0_1) (h : span_Gaps.f k l0_0 l0_1 a1 a2 = some r) :
    Calls Try.prog 33 #[.agg #[.slice A0_0 l0_0.length c0_0, .slice A0_1 l0_1.length c0_1], .int .i64 a1, .int .i64 a2] w fun e w' => e = .returned (.int .i64 r) ∧ Below w.heap.size w w' := by
  have hu31 := Try.underlying31; have hu62 := Try.underlying62; have HR0_0 := zD.mk hr0_0; have HC0_0 := zD.mk hc0_0; clear hr0_0 hc0_0; have HR0_1 := zD.mk hr0_1; have HC0_1 := zD.mk hc0_1; clear hr0_1 hc0_1; have HB := zD.mk (Below.refl w.heap.size w); have H : ((span_Trim.f k l0_0 l0_1 a1 a2).bind fun t410 => (if 0 ≤ a1 then (if a1 ≤ t410 then (if t410 ≤ (l0_0.length : Int) then ((some ((l0_0.take (t410 : Int).toNat).drop (a1 : Int).toNat : List (S62))).bind fun y411 => (span_Gaps.l0 k 0 y411 (y411.length : Int) 0)) else (none)) else (none)) else (none))) = some r := h
  clear h; replace H := Option.bind_eq_some_iff.mp H; obtain ⟨t410, A40, H⟩ := H; replace H : (if 0 ≤ a1 then (if a1 ≤ t410 then (if t410 ≤ (l0_0.length : Int) then ((some ((l0_0.take (t410 : Int).toNat).drop (a1 : Int).toNat : List (S62))).bind fun y411 => (span_Gaps.l0 k 0 y411 (y411.length : Int) 0)) else (none)) else (none)) else (none)) = some r := H
  have A4 := zD.mk A40; clear A40; by_cases c5 : 0 ≤ a1
  rotate_left
  · rw [if_neg c5] at H
    exact absurd H (by simp)
  rw [if_pos c5] at H; have c5b0 := eq_true c5; have c5b1 : decide (0 ≤ a1) = true := decide_eq_true c5
  clear c5; by_cases c6 : a1 ≤ t410
  rotate_left
  · rw [if_neg c6] at H
    exact absurd H (by simp)
  rw [if_pos c6] at H; have c6b0 := eq_true c6; have c6b1 : decide (a1 ≤ t410) = true := decide_eq_true c6
  clear c6; by_cases c7 : t410 ≤ (l0_0.length : Int)
  rotate_left
  · rw [if_neg c7] at H
    exact absurd H (by simp)
  rw [if_pos c7] at H; have c7b0 := eq_true c7; have c7b1 : decide (t410 ≤ (l0_0.length : Int)) = true := decide_eq_true c7
  clear c7; obtain ⟨y411, hy411⟩ : ∃ y_ : List (S62), y_ = ((l0_0.take (t410 : Int).toNat).drop (a1 : Int).toNat) := ⟨_, rfl⟩; replace H : (span_Gaps.l0 k 0 y411 (y411.length : Int) 0) = some r := by first | (rw [hy411]; with_reducible exact H) | (have H2_ := (Option.bind_some _ _).symm.trans H; rw [hy411]; with_reducible exact H2_) | (have H2_ := (Option.bind_some _ _).symm.trans H; with_reducible exact H2_) | with_reducible exact H | (rw [hy411]; exact H) | exact H
  have Ny411 := zD.mk hy411; clear hy411; have H' := zD.mk H
  clear H; go_enter Try.func33, Try.ntmps33
  try go_wp2_with (first | ((with_reducible refine gate_dst (N := 3) rfl ?_); refine box_event ?hg (N := 3) ?hd (cs := #[.slice A0_0 l0_0.length c0_0, .slice A0_1 l0_1.length c0_1]) (t := 31) ?hr ?_; (case hd => rfl); (case hg => rfl); (case hr => first | (go_simp; done) | (go_simp; rfl)); intro gb409 hg w8 hbox hb; have n0_ := zD.mk (below_step (by repeat (first | (with_reducible first | exact HB.out | apply zJ | apply zF | apply zI) | exact HB.out)) hb); have n1_ := zD.mk (hbox); have n2_ := zD.mk ((by rw [hg]; exact (zM (by repeat (first | (with_reducible first | exact HB.out | apply zJ | apply zF | apply zI) | exact HB.out))) : w.heap.size ≤ gb409)); have n3_ := zD.mk ((by rw [hg]; exact (zM (by repeat (first | (with_reducible first | exact HB.out | apply zJ | apply zF | apply zI) | exact HB.out))) : w.heap.size ≤ gb409)); clear HB; have HB := n0_; have BK409 := n1_; have GW409 := n2_; have GE409 := n3_; clear n0_ n1_ n2_ n3_; clear hb hbox hg))
  have n0_ := zD.mk (zC BK409.out); have n1_ := zD.mk (zI HB.out); clear BK409; clear HB; have BK409 := n0_; have HB := n1_; clear n0_ n1_; refine start_ (n := 10) (S := fun w' => w'.cell? ⟨gb409, 0, none⟩ = some (.slice A0_0 l0_0.length c0_0) ∧ w'.cell? ⟨gb409, 1, none⟩ = some (.slice A0_1 l0_1.length c0_1)) (ds := []) #[false, false, false, false, false, false, false, false, false, false] (by kernel_rfl) rfl rfl ⟨(zH BK409.out 0).trans rfl, (zH BK409.out 1).trans rfl⟩ (fun hHeld => ?_); refine with_tabW span_Gaps.tab2 span_Gaps.bits2 (fun HT_ HW_ => ?_)
  generalize w8.drew = w9 at BK409 HB hHeld ⊢
  refine pure_ (i := 0) (N := some 10) (v := ?_) (a' := ?_) (tf_ 1 10) rfl rfl (any_of HT_.out (by kernel_rfl)) (fun _ _ _ h => h) (Or.inl ⟨by rfl, ?_⟩) ?_ ?_
  rotate_left
  · intro w'
    go_simp
    with_reducible rfl
  rotate_left
  · simp only [Act.put, sA_, sB_, sC_, i64_w, i32_w]
    rfl
  refine pure_ (i := 2) (N := some 12) (v := ?_) (a' := ?_) #[true, false, true, false, false, false, false, false, false, false] rfl rfl (any_of HT_.out (by kernel_rfl)) (fun _ _ _ h => h) (Or.inl ⟨by rfl, ?_⟩) ?_ ?_
  rotate_left
  · intro w'
    go_simp
    with_reducible rfl
  rotate_left
  · simp only [Act.put, sA_, sB_, sC_, i64_w, i32_w]
    rfl
  refine pure_ (i := 4) (N := some 14) (v := ?_) (a' := ?_) #[true, false, true, false, true, false, false, false, false, false] rfl rfl (any_of HT_.out (by kernel_rfl)) (fun _ _ _ h => h) (Or.inl ⟨by rfl, ?_⟩) ?_ ?_
  rotate_left
  · intro w'
    go_simp
    with_reducible rfl
  rotate_left
  · simp only [Act.put, sA_, sB_, sC_, i64_w, i32_w]
    rfl
  refine pure_ (i := 5) (N := some 15) (v := ?_) (a' := ?_) #[true, false, true, false, true, true, false, false, false, false] rfl rfl (any_of HT_.out (by kernel_rfl)) (fun _ _ _ h => h) (Or.inl ⟨by rfl, ?_⟩) ?_ ?_
  rotate_left
  · intro w'
    go_simp
    with_reducible rfl
  rotate_left
  · simp only [Act.put, sA_, sB_, sC_, i64_w, i32_w]
    rfl
  refine pure_ (i := 9) (N := some 19) (v := ?_) (a' := ?_) #[true, false, true, false, true, true, false, false, false, true] rfl rfl (any_of HT_.out (by kernel_rfl)) (fun _ _ _ h => h) (Or.inl ⟨by rfl, ?_⟩) ?_ ?_
  rotate_left
  · intro w'
    go_simp
    with_reducible rfl
  rotate_left
  · simp only [Act.put, sA_, sB_, sC_, i64_w, i32_w]
    rfl
  refine take_ (i := 1) (N := some 11) (v := ?_) (a' := ?_) #[true, true, true, false, true, true, false, false, false, true] rfl rfl (take_ofW HT_.out HW_.out (by kernel_rfl)) (fun _ _ _ h => h) (Or.inl ⟨by rfl, ?_⟩) hHeld ?_ ?_
  rotate_left
  · rintro w' ⟨s0, s1⟩
    go_simp
    with_reducible rfl
  rotate_left
  · simp only [Act.put, sA_, sB_, sC_, i64_w, i32_w]
    rfl
  refine take_ (i := 3) (N := some 13) (v := ?_) (a' := ?_) #[true, true, true, true, true, true, false, false, false, true] rfl rfl (take_ofW HT_.out HW_.out (by kernel_rfl)) (fun _ _ _ h => h) (Or.inl ⟨by rfl, ?_⟩) hHeld ?_ ?_
  rotate_left
  · rintro w' ⟨s0, s1⟩
    go_simp
    with_reducible rfl
  rotate_left
  · simp only [Act.put, sA_, sB_, sC_, i64_w, i32_w]
    rfl
  refine one_ (i := 6) (N := some 16) #[true, true, true, true, true, true, true, false, false, true] rfl rfl (one_of HT_.out (by kernel_rfl)) (by decide) (fun K hK => ?_)
  refine goes_ Try.func38 (by kernel_rfl) rfl #[.agg #[.slice A0_0 l0_0.length c0_0, .slice A0_1 l0_1.length c0_1], .int .i64 a1, .int .i64 a2] (by rfl) rfl rfl (by (try simp only [List.map_toArray, List.map_cons, List.map_nil]); first | done | rfl | (simp only [List.length_drop, List.length_take]; rfl)) ?_
  with_reducible refine (span_Trim.calls k _ _ l0_0 _ _ l0_1 a1 a2 t410 _ ?side1 ?side2 ?side3 ?side4 A4.out).mono ?_
  (case side1 => repeat (first | exact (Kd.C_below HR0_0.out HB.out) | (with_reducible refine Kd.C_alloc ?_ _) | (with_reducible refine Kd.C_drewN ?_ _) | (with_reducible refine Kd.C_drew ?_)))
  (case side2 => exact HC0_0.out)
  (case side3 => repeat (first | exact (Kd.C_below HR0_1.out HB.out) | (with_reducible refine Kd.C_alloc ?_ _) | (with_reducible refine Kd.C_drewN ?_ _) | (with_reducible refine Kd.C_drew ?_)))
  (case side4 => exact HC0_1.out)
  rintro e w10 ⟨rfl, hb⟩
  refine ⟨_, rfl, ?_⟩
  have n0_ := zD.mk (zK (g := gb409) (o := .cells #[.slice A0_0 l0_0.length c0_0, .slice A0_1 l0_1.length c0_1] 31 (0, 0)) (by (with_reducible repeat (first | refine zB ?_ _ | refine zC ?_ | refine zA ?_ _)); exact BK409.out) hb)
  have n1_ := zD.mk (below_step (by repeat (first | (with_reducible first | exact HB.out | apply zJ | apply zF | apply zI | refine zE ?_ GE409.out) | exact HB.out)) hb)
  clear BK409 HB; have BK409 := n0_; have HB := n1_; clear n0_ n1_; (try clear hb)
  (try clear hb2)
  (try clear hk)
  (try clear hi)
  have q11 : (t410 : Int) ≤ ((l0_0.length : Int) : Int) := of_decide_eq_true (by first | (with_reducible assumption) | assumption)
  obtain ⟨i011, hi011, _, hsz11, _⟩ := info_parts info62; have hroom11 : l0_0.length ≤ c0_0 := HC0_0.out
  have hC11 : Kd.C k62 _ A0_0 l0_0.length l0_0 := HR0_0.out
  have ql11 : (a1 : Int) ≤ (t410 : Int) := of_decide_eq_true (by first | (with_reducible assumption) | assumption)
  have q011 : (0 : Int) ≤ (a1 : Int) := of_decide_eq_true (by first | (with_reducible assumption) | assumption)
  have hcut11 := cut_mid (P := Try.prog) 28 62 .i64 .i64 Try.underlying28 hi011 4 hsz11 A0_0 l0_0.length c0_0 a1 t410 q011 ql11 q11 hroom11; have hr11 := Kd.C_mid (lo := (a1 : Int).toNat) (hi := (t410 : Int).toNat) (c := c0_0) hC11 (by omega) (by omega) hroom11
  obtain ⟨A11, hA11⟩ : ∃ A1, A1 = (if c0_0 = (a1 : Int).toNat then A0_0 else (A0_0 : Option Addr).map (·.add ((a1 : Int).toNat * 4))) := ⟨_, rfl⟩
  obtain ⟨c11, hc11⟩ : ∃ c1, c1 = c0_0 - (a1 : Int).toNat := ⟨_, rfl⟩; have hy11 : y411.length = (t410 : Int).toNat - (a1 : Int).toNat := (by rw [Ny411.out, List.length_drop, List.length_take] <;> omega)
  rw [show ((l0_0).take (t410 : Int).toNat).drop (a1 : Int).toNat = y411 from Ny411.out.symm] at hr11; replace hr11 : Kd.C k62 _ A11 y411.length y411 := (by rw [hA11]; exact hr11)
  rw [← hy11, ← hA11, ← hc11] at hcut11; have HR414 := zD.mk hr11; have HC414 := zD.mk (show y411.length ≤ c11 from by rw [hy11, hc11]; exact Nat.sub_le_sub_right (Nat.le_trans (by omega) hroom11) _)
  clear hr11 hC11 hroom11 hi011 hsz11 hc11; have KY11 := zD.mk hy11; have KA11 := zD.mk hA11; clear hy11 hA11; replace q11 := eq_true q11; refine hK.out _ _ ⟨(zH BK409.out 0).trans rfl, (zH BK409.out 1).trans rfl⟩ (fun hHeld => ?_)
  clear hK K; refine norm_ (a' := ?_) ?_ ?_
  rotate_left
  · show Act.put _ (some 16) _ = _
    simp only [Act.put, sA_, sB_, sC_, i64_w, i32_w]; rfl
  refine pure_ (i := 7) (N := some 17) (v := ?_) (a' := ?_) #[true, true, true, true, true, true, true, true, false, true] rfl rfl (any_of HT_.out (by kernel_rfl)) (fun _ _ _ h => h) (Or.inl ⟨by rfl, ?_⟩) ?_ ?_
  rotate_left
  · intro w'
    go_simp
    with_reducible rfl
  rotate_left
  · simp only [Act.put, sA_, sB_, sC_, i64_w, i32_w]
    rfl
  refine pure_ (i := 8) (N := some 18) (v := ?_) (a' := ?_) #[true, true, true, true, true, true, true, true, true, true] rfl rfl (any_of HT_.out (by kernel_rfl)) (fun _ _ _ h => h) (Or.inl ⟨by rfl, ?_⟩) ?_ ?_
  rotate_left
  · intro w'
    go_simp
    with_reducible rfl
  rotate_left
  · simp only [Act.put, sA_, sB_, sC_, i64_w, i32_w]
    rfl
  refine done_ (done_of HT_.out (by kernel_rfl)) ?_
  try go_wp2
  go_loopg [7, 19] k (fun kq v7 v19 w' => ∃ (x7_1 : Int) (x19_1 : Int), v7 = .int .i64 x7_1 ∧ v19 = .int .i64 x19_1 ∧ zD (span_Gaps.l0 kq x7_1 y411 (y411.length : Int) x19_1 = some r) ∧ zD (kq ≤ k) ∧ zD (w'.heap[gb409]? = some (.cells #[(.slice A0_0 l0_0.length c0_0), (.slice A0_1 l0_1.length c0_1)] 31 (0, 0))) ∧ zD (Below w.heap.size w w'))
  case atStart => exact ⟨(0), (0), (by first | rfl | (simp; done) | (simp [*]; done)), (by first | rfl | (simp; done) | (simp [*]; done)), H', ⟨Nat.le_refl _⟩, ⟨by (with_reducible repeat (first | refine zB ?_ _ | refine zC ?_ | refine zA ?_ _)); exact BK409.out⟩, ⟨by repeat (first | (with_reducible first | exact HB.out | apply zJ | apply zF | apply zI | refine zE ?_ GE409.out) | exact HB.out)⟩⟩
  clear H'; try clear c1
  try clear q1
  try clear p2
  try clear c3
  try clear c5
  try clear c5b0
  try clear c5b1
  try clear c6
  try clear c6b0
  try clear c6b1
  try clear c7
  try clear c7b0
  try clear c7b1
  try clear c11
  try clear q11
  try clear q011
  try clear q11
  obtain ⟨x7_1, x19_1, rfl, rfl, HA, HK1, BK409, HB⟩ := hrel; cases gk with
  | zero => exact absurd HA.out (by simp [span_Gaps.l0])
  | succ k1 =>
    have H := HA.out; clear HA; simp only [span_Gaps.l0] at H; by_cases c12 : x19_1 < (y411.length : Int)
    rotate_left
    · rw [if_neg c12] at H
      have c12b0 : decide (x19_1 < (y411.length : Int)) = false := decide_eq_false c12
      clear c12; obtain rfl := Option.some.inj H
      go_wp2
      go_ret
      exact ⟨by first | rfl | (simp [errW_none, errW_some] <;> rfl) | (simp [*, errW_none, errW_some] <;> rfl), by repeat (first | (with_reducible first | exact HB.out | apply zJ | apply zF | apply zI | refine zE ?_ GE409.out) | exact HB.out)⟩
    rw [if_pos c12] at H; have c12b0 : decide (x19_1 < (y411.length : Int)) = true := decide_eq_true c12
    clear c12; by_cases c13 : 0 ≤ x19_1
    rotate_left
    · rw [if_neg c13] at H
      exact absurd H (by simp)
    rw [if_pos c13] at H; have c13b0 : decide (0 ≤ x19_1) = true := decide_eq_true c13
    clear c13; by_cases c14 : x19_1 < (y411.length : Int)
    rotate_left
    · rw [if_neg c14] at H
      exact absurd H (by simp)
    rw [if_pos c14] at H; have c14b0 : decide (x19_1 < (y411.length : Int)) = true := decide_eq_true c14
    clear c14; by_cases c15 : ((rd_T62 y411 x19_1).f3) = 1
    · rw [if_pos c15] at H
      have c15b0 : (((rd_T62 y411 x19_1).f3) == 1) = true := beq_iff_eq.mpr c15
      have c15b1 : (((rd_T62 y411 x19_1).f3) != 1) = false := bne_eq_false_iff_eq.mpr c15
      clear c15; have H' := zD.mk H
      clear H; have p415 : 0 ≤ (x19_1 : Int) := of_decide_eq_true (by first | (with_reducible assumption) | assumption)
      have q415 : x19_1 < (y411.length : Int) := of_decide_eq_true (by first | (with_reducible assumption) | assumption)
      obtain ⟨ad415, e415, hx415_0, hx415_1, hx415_2, hx415_3⟩ := at_T62 HR414.out x19_1 p415 q415; cases e415
      replace hx415_0 := (HB.out.cell (World.block_lt_of_cell? w _ hx415_0)).trans hx415_0; replace hx415_1 := (HB.out.cell (World.block_lt_of_cell? w _ hx415_1)).trans hx415_1; replace hx415_2 := (HB.out.cell (World.block_lt_of_cell? w _ hx415_2)).trans hx415_2; replace hx415_3 := (HB.out.cell (World.block_lt_of_cell? w _ hx415_3)).trans hx415_3; replace p415 := eq_true p415; replace q415 := eq_true q415; go_wp2_with (first | ((with_reducible refine gate_dst (N := 9) rfl ?_); refine box_event ?hg (N := 9) ?hd (cs := #[.int .i64 0, .int .i64 0, .int .i64 0, .int .u8 0]) (t := 62) ?hr ?_; (case hd => rfl); (case hg => rfl); (case hr => first | (go_simp; done) | (go_simp; rfl)); intro gb416 hg w16 hbox hb; have n0_ := zD.mk (zK (g := gb409) (o := .cells #[.slice A0_0 l0_0.length c0_0, .slice A0_1 l0_1.length c0_1] 31 (0, 0)) (by (with_reducible repeat (first | refine zB ?_ _ | refine zC ?_ | refine zA ?_ _)); exact BK409.out) hb); have n1_ := zD.mk (below_step (by repeat (first | (with_reducible first | exact HB.out | apply zJ | apply zF | apply zI | refine zE ?_ GE409.out) | exact HB.out)) hb); have n2_ := zD.mk (hbox); have n3_ := zD.mk ((by rw [hg]; exact (zM (by repeat (first | (with_reducible first | exact HB.out | apply zJ | apply zF | apply zI | refine zE ?_ GE409.out) | exact HB.out))) : w.heap.size ≤ gb416)); have n4_ := zD.mk ((by rw [hg]; exact (zM (by repeat (first | (with_reducible first | exact HB.out | apply zJ | apply zF | apply zI | refine zE ?_ GE409.out) | exact HB.out))) : w.heap.size ≤ gb416)); have n5_ := zD.mk ((by rw [hg]; exact Nat.ne_of_lt (blk_lt (g := gb409) (o := .cells #[.slice A0_0 l0_0.length c0_0, .slice A0_1 l0_1.length c0_1] 31 (0, 0)) (by (with_reducible repeat (first | refine zB ?_ _ | refine zC ?_ | refine zA ?_ _)); exact BK409.out)) : gb409 ≠ gb416)); have n6_ := zD.mk ((by rw [hg]; exact Nat.ne_of_gt (blk_lt (g := gb409) (o := .cells #[.slice A0_0 l0_0.length c0_0, .slice A0_1 l0_1.length c0_1] 31 (0, 0)) (by (with_reducible repeat (first | refine zB ?_ _ | refine zC ?_ | refine zA ?_ _)); exact BK409.out)) : gb416 ≠ gb409)); clear BK409; clear HB; have BK409 := n0_; have HB := n1_; have BK416 := n2_; have GW416 := n3_; have GE416 := n4_; have NB409_416 := n5_; have NB416_409 := n6_; clear n0_ n1_ n2_ n3_ n4_ n5_ n6_; clear hb hbox hg; have hnb17 := NB416_409.out; have hnc17 := NB409_416.out; have hcz18_0 : w16.cell? ⟨gb416, 0, none⟩ = some (.int .i64 0) := (zH BK416.out 0).trans rfl; have hcz18_1 : w16.cell? ⟨gb416, 1, none⟩ = some (.int .i64 0) := (zH BK416.out 1).trans rfl; have hcz18_2 : w16.cell? ⟨gb416, 2, none⟩ = some (.int .i64 0) := (zH BK416.out 2).trans rfl; have hcz18_3 : w16.cell? ⟨gb416, 3, none⟩ = some (.int .u8 0) := (zH BK416.out 3).trans rfl; have hfz18_0 := zG BK416.out 0; have hfz18_1 := zG BK416.out 1; have hfz18_2 := zG BK416.out 2; have hfz18_3 := zG BK416.out 3) | ((with_reducible refine gate_store (t := 62) (p := 9) rfl ?_); refine store_event (t := 62) (p := 9) (v := ?vo_w19) (w1 := ((((w16.setCell ⟨gb416, 0, none⟩ (.int .i64 ((rd_T62 y411 x19_1).f0))).setCell ⟨gb416, 1, none⟩ (.int .i64 ((rd_T62 y411 x19_1).f1))).setCell ⟨gb416, 2, none⟩ (.int .i64 ((rd_T62 y411 x19_1).f2))).setCell ⟨gb416, 3, none⟩ (.int .u8 ((rd_T62 y411 x19_1).f3)))) ?hg ?ho ?hn ?hr ?_; (case ho => rfl); (case hg => rfl); (case hn => rfl); (case hr => first | (go_simp; done) | (go_simp; rfl)); intro w19 hw; have n0_ : zD (w19.heap[gb409]? = some (.cells #[.slice A0_0 l0_0.length c0_0, .slice A0_1 l0_1.length c0_1] 31 (0, 0))) := ⟨(by rw [hw]; exact (by (with_reducible repeat (first | refine zB ?_ _ | refine zC ?_ | refine zA ?_ _)); refine zL ?_ NB409_416.out _; (with_reducible repeat (first | refine zB ?_ _ | refine zC ?_ | refine zA ?_ _)); refine zL ?_ NB409_416.out _; (with_reducible repeat (first | refine zB ?_ _ | refine zC ?_ | refine zA ?_ _)); refine zL ?_ NB409_416.out _; (with_reducible repeat (first | refine zB ?_ _ | refine zC ?_ | refine zA ?_ _)); refine zL ?_ NB409_416.out _; (with_reducible repeat (first | refine zB ?_ _ | refine zC ?_ | refine zA ?_ _)); exact BK409.out))⟩; have n1_ : zD (w19.heap[gb416]? = some (.cells #[.int .i64 ((rd_T62 y411 x19_1).f0), .int .i64 ((rd_T62 y411 x19_1).f1), .int .i64 ((rd_T62 y411 x19_1).f2), .int .u8 ((rd_T62 y411 x19_1).f3)] 62 (0, 0))) := ⟨(by rw [hw]; exact (by (with_reducible repeat (first | refine zB ?_ _ | refine zC ?_ | refine zA ?_ _)); refine blk_put (cs := #[.int .i64 ((rd_T62 y411 x19_1).f0), .int .i64 ((rd_T62 y411 x19_1).f1), .int .i64 ((rd_T62 y411 x19_1).f2), .int .u8 0]) ?_ 3 _ rfl; (with_reducible repeat (first | refine zB ?_ _ | refine zC ?_ | refine zA ?_ _)); refine blk_put (cs := #[.int .i64 ((rd_T62 y411 x19_1).f0), .int .i64 ((rd_T62 y411 x19_1).f1), .int .i64 0, .int .u8 0]) ?_ 2 _ rfl; (with_reducible repeat (first | refine zB ?_ _ | refine zC ?_ | refine zA ?_ _)); refine blk_put (cs := #[.int .i64 ((rd_T62 y411 x19_1).f0), .int .i64 0, .int .i64 0, .int .u8 0]) ?_ 1 _ rfl; (with_reducible repeat (first | refine zB ?_ _ | refine zC ?_ | refine zA ?_ _)); refine blk_put (cs := #[.int .i64 0, .int .i64 0, .int .i64 0, .int .u8 0]) ?_ 0 _ rfl; (with_reducible repeat (first | refine zB ?_ _ | refine zC ?_ | refine zA ?_ _)); exact BK416.out))⟩; have n2_ : zD (Below w.heap.size w w19) := ⟨(by rw [hw]; exact (by repeat (first | (with_reducible first | exact HB.out | apply zJ | apply zF | apply zI | refine zE ?_ GE409.out | refine zE ?_ GE416.out) | exact HB.out)))⟩; clear hw; clear BK409; clear BK416; clear HB; have BK409 := n0_; have BK416 := n1_; have HB := n2_; clear n0_ n1_ n2_; have hcz20_0 : w19.cell? ⟨gb416, 0, none⟩ = some (.int .i64 ((rd_T62 y411 x19_1).f0)) := (zH BK416.out 0).trans rfl; have hcz20_1 : w19.cell? ⟨gb416, 1, none⟩ = some (.int .i64 ((rd_T62 y411 x19_1).f1)) := (zH BK416.out 1).trans rfl; have hcz20_2 : w19.cell? ⟨gb416, 2, none⟩ = some (.int .i64 ((rd_T62 y411 x19_1).f2)) := (zH BK416.out 2).trans rfl; have hcz20_3 : w19.cell? ⟨gb416, 3, none⟩ = some (.int .u8 ((rd_T62 y411 x19_1).f3)) := (zH BK416.out 3).trans rfl; have hfz20_0 := zG BK416.out 0; have hfz20_1 := zG BK416.out 1; have hfz20_2 := zG BK416.out 2; have hfz20_3 := zG BK416.out 3))
      go_roundg k1
      case measure => have := HK1.out; omega
      case rel => exact ⟨(wrap64 (x7_1 + 1)), (wrap64 (x19_1 + 1)), (by first | rfl | (simp; done) | (simp [*]; done)), (by first | rfl | (simp; done) | (simp [*]; done)), H', ⟨by have := HK1.out; omega⟩, ⟨by (with_reducible repeat (first | refine zB ?_ _ | refine zC ?_ | refine zA ?_ _)); exact BK409.out⟩, ⟨by repeat (first | (with_reducible first | exact HB.out | apply zJ | apply zF | apply zI | refine zE ?_ GE409.out | refine zE ?_ GE416.out) | exact HB.out)⟩⟩
    rw [if_neg c15] at H; have c15b0 : (((rd_T62 y411 x19_1).f3) == 1) = false := beq_eq_false_iff_ne.mpr c15
    have c15b1 : (((rd_T62 y411 x19_1).f3) != 1) = true := bne_iff_ne.mpr c15
    have H' := zD.mk H
    clear H; have p415 : 0 ≤ (x19_1 : Int) := of_decide_eq_true (by first | (with_reducible assumption) | assumption)
    have q415 : x19_1 < (y411.length : Int) := of_decide_eq_true (by first | (with_reducible assumption) | assumption)
    obtain ⟨ad415, e415, hx415_0, hx415_1, hx415_2, hx415_3⟩ := at_T62 HR414.out x19_1 p415 q415; cases e415
    replace hx415_0 := (HB.out.cell (World.block_lt_of_cell? w _ hx415_0)).trans hx415_0; replace hx415_1 := (HB.out.cell (World.block_lt_of_cell? w _ hx415_1)).trans hx415_1; replace hx415_2 := (HB.out.cell (World.block_lt_of_cell? w _ hx415_2)).trans hx415_2; replace hx415_3 := (HB.out.cell (World.block_lt_of_cell? w _ hx415_3)).trans hx415_3; replace p415 := eq_true p415; replace q415 := eq_true q415; go_wp2_with (first | ((with_reducible refine gate_dst (N := 9) rfl ?_); refine box_event ?hg (N := 9) ?hd (cs := #[.int .i64 0, .int .i64 0, .int .i64 0, .int .u8 0]) (t := 62) ?hr ?_; (case hd => rfl); (case hg => rfl); (case hr => first | (go_simp; done) | (go_simp; rfl)); intro gb416 hg w21 hbox hb; have n0_ := zD.mk (zK (g := gb409) (o := .cells #[.slice A0_0 l0_0.length c0_0, .slice A0_1 l0_1.length c0_1] 31 (0, 0)) (by (with_reducible repeat (first | refine zB ?_ _ | refine zC ?_ | refine zA ?_ _)); exact BK409.out) hb); have n1_ := zD.mk (below_step (by repeat (first | (with_reducible first | exact HB.out | apply zJ | apply zF | apply zI | refine zE ?_ GE409.out) | exact HB.out)) hb); have n2_ := zD.mk (hbox); have n3_ := zD.mk ((by rw [hg]; exact (zM (by repeat (first | (with_reducible first | exact HB.out | apply zJ | apply zF | apply zI | refine zE ?_ GE409.out) | exact HB.out))) : w.heap.size ≤ gb416)); have n4_ := zD.mk ((by rw [hg]; exact (zM (by repeat (first | (with_reducible first | exact HB.out | apply zJ | apply zF | apply zI | refine zE ?_ GE409.out) | exact HB.out))) : w.heap.size ≤ gb416)); have n5_ := zD.mk ((by rw [hg]; exact Nat.ne_of_lt (blk_lt (g := gb409) (o := .cells #[.slice A0_0 l0_0.length c0_0, .slice A0_1 l0_1.length c0_1] 31 (0, 0)) (by (with_reducible repeat (first | refine zB ?_ _ | refine zC ?_ | refine zA ?_ _)); exact BK409.out)) : gb409 ≠ gb416)); have n6_ := zD.mk ((by rw [hg]; exact Nat.ne_of_gt (blk_lt (g := gb409) (o := .cells #[.slice A0_0 l0_0.length c0_0, .slice A0_1 l0_1.length c0_1] 31 (0, 0)) (by (with_reducible repeat (first | refine zB ?_ _ | refine zC ?_ | refine zA ?_ _)); exact BK409.out)) : gb416 ≠ gb409)); clear BK409; clear HB; have BK409 := n0_; have HB := n1_; have BK416 := n2_; have GW416 := n3_; have GE416 := n4_; have NB409_416 := n5_; have NB416_409 := n6_; clear n0_ n1_ n2_ n3_ n4_ n5_ n6_; clear hb hbox hg; have hnb22 := NB416_409.out; have hnc22 := NB409_416.out; have hcz23_0 : w21.cell? ⟨gb416, 0, none⟩ = some (.int .i64 0) := (zH BK416.out 0).trans rfl; have hcz23_1 : w21.cell? ⟨gb416, 1, none⟩ = some (.int .i64 0) := (zH BK416.out 1).trans rfl; have hcz23_2 : w21.cell? ⟨gb416, 2, none⟩ = some (.int .i64 0) := (zH BK416.out 2).trans rfl; have hcz23_3 : w21.cell? ⟨gb416, 3, none⟩ = some (.int .u8 0) := (zH BK416.out 3).trans rfl; have hfz23_0 := zG BK416.out 0; have hfz23_1 := zG BK416.out 1; have hfz23_2 := zG BK416.out 2; have hfz23_3 := zG BK416.out 3) | ((with_reducible refine gate_store (t := 62) (p := 9) rfl ?_); refine store_event (t := 62) (p := 9) (v := ?vo_w24) (w1 := ((((w21.setCell ⟨gb416, 0, none⟩ (.int .i64 ((rd_T62 y411 x19_1).f0))).setCell ⟨gb416, 1, none⟩ (.int .i64 ((rd_T62 y411 x19_1).f1))).setCell ⟨gb416, 2, none⟩ (.int .i64 ((rd_T62 y411 x19_1).f2))).setCell ⟨gb416, 3, none⟩ (.int .u8 ((rd_T62 y411 x19_1).f3)))) ?hg ?ho ?hn ?hr ?_; (case ho => rfl); (case hg => rfl); (case hn => rfl); (case hr => first | (go_simp; done) | (go_simp; rfl)); intro w24 hw; have n0_ : zD (w24.heap[gb409]? = some (.cells #[.slice A0_0 l0_0.length c0_0, .slice A0_1 l0_1.length c0_1] 31 (0, 0))) := ⟨(by rw [hw]; exact (by (with_reducible repeat (first | refine zB ?_ _ | refine zC ?_ | refine zA ?_ _)); refine zL ?_ NB409_416.out _; (with_reducible repeat (first | refine zB ?_ _ | refine zC ?_ | refine zA ?_ _)); refine zL ?_ NB409_416.out _; (with_reducible repeat (first | refine zB ?_ _ | refine zC ?_ | refine zA ?_ _)); refine zL ?_ NB409_416.out _; (with_reducible repeat (first | refine zB ?_ _ | refine zC ?_ | refine zA ?_ _)); refine zL ?_ NB409_416.out _; (with_reducible repeat (first | refine zB ?_ _ | refine zC ?_ | refine zA ?_ _)); exact BK409.out))⟩; have n1_ : zD (w24.heap[gb416]? = some (.cells #[.int .i64 ((rd_T62 y411 x19_1).f0), .int .i64 ((rd_T62 y411 x19_1).f1), .int .i64 ((rd_T62 y411 x19_1).f2), .int .u8 ((rd_T62 y411 x19_1).f3)] 62 (0, 0))) := ⟨(by rw [hw]; exact (by (with_reducible repeat (first | refine zB ?_ _ | refine zC ?_ | refine zA ?_ _)); refine blk_put (cs := #[.int .i64 ((rd_T62 y411 x19_1).f0), .int .i64 ((rd_T62 y411 x19_1).f1), .int .i64 ((rd_T62 y411 x19_1).f2), .int .u8 0]) ?_ 3 _ rfl; (with_reducible repeat (first | refine zB ?_ _ | refine zC ?_ | refine zA ?_ _)); refine blk_put (cs := #[.int .i64 ((rd_T62 y411 x19_1).f0), .int .i64 ((rd_T62 y411 x19_1).f1), .int .i64 0, .int .u8 0]) ?_ 2 _ rfl; (with_reducible repeat (first | refine zB ?_ _ | refine zC ?_ | refine zA ?_ _)); refine blk_put (cs := #[.int .i64 ((rd_T62 y411 x19_1).f0), .int .i64 0, .int .i64 0, .int .u8 0]) ?_ 1 _ rfl; (with_reducible repeat (first | refine zB ?_ _ | refine zC ?_ | refine zA ?_ _)); refine blk_put (cs := #[.int .i64 0, .int .i64 0, .int .i64 0, .int .u8 0]) ?_ 0 _ rfl; (with_reducible repeat (first | refine zB ?_ _ | refine zC ?_ | refine zA ?_ _)); exact BK416.out))⟩; have n2_ : zD (Below w.heap.size w w24) := ⟨(by rw [hw]; exact (by repeat (first | (with_reducible first | exact HB.out | apply zJ | apply zF | apply zI | refine zE ?_ GE409.out | refine zE ?_ GE416.out) | exact HB.out)))⟩; clear hw; clear BK409; clear BK416; clear HB; have BK409 := n0_; have BK416 := n1_; have HB := n2_; clear n0_ n1_ n2_; have hcz25_0 : w24.cell? ⟨gb416, 0, none⟩ = some (.int .i64 ((rd_T62 y411 x19_1).f0)) := (zH BK416.out 0).trans rfl; have hcz25_1 : w24.cell? ⟨gb416, 1, none⟩ = some (.int .i64 ((rd_T62 y411 x19_1).f1)) := (zH BK416.out 1).trans rfl; have hcz25_2 : w24.cell? ⟨gb416, 2, none⟩ = some (.int .i64 ((rd_T62 y411 x19_1).f2)) := (zH BK416.out 2).trans rfl; have hcz25_3 : w24.cell? ⟨gb416, 3, none⟩ = some (.int .u8 ((rd_T62 y411 x19_1).f3)) := (zH BK416.out 3).trans rfl; have hfz25_0 := zG BK416.out 0; have hfz25_1 := zG BK416.out 1; have hfz25_2 := zG BK416.out 2; have hfz25_3 := zG BK416.out 3))
    go_roundg k1
    case measure => have := HK1.out; omega
    case rel => exact ⟨(x7_1), (wrap64 (x19_1 + 1)), (by first | rfl | (simp; done) | (simp [*]; done)), (by first | rfl | (simp; done) | (simp [*]; done)), H', ⟨by have := HK1.out; omega⟩, ⟨by (with_reducible repeat (first | refine zB ?_ _ | refine zC ?_ | refine zA ?_ _)); exact BK409.out⟩, ⟨by repeat (first | (with_reducible first | exact HB.out | apply zJ | apply zF | apply zI | refine zE ?_ GE409.out | refine zE ?_ GE416.out) | exact HB.out)⟩⟩
end Go.Proofs.Ytlgclhhkgohanaa.F
end
section
namespace Go.Proofs.Ytlgclhhkgohanaa.F
open Go.RowKit Go.Proofs.YtlgclhhkgohanaaW.PrintWords Go.Proofs.YtlgclhhkgohanaaW.PrintLast Go.Proofs.YtlgclhhkgohanaaW.PrintMore
attribute [local go_sem] max2_int min2_int max_two min_two max_three min_three max_four min_four   -- for this text's walks alone
set_option linter.unusedVariables false
set_option linter.unusedSimpArgs false
def best_Cost.j0 : Nat → Int → Int → Bool → Int → Bool → List (S62) → List Int → Int → Int → Int → Int → Int → Nat → Option (Int × Bool)
  | 0, _, _, _, _, _, _, _, _, _, _, _, _, _ => none
  | k + 1, x1, x2, x3, x12, x26, x418000, x418001, x419000, x419001, x419002, x419003, x419004, x419005 => if x26 = true then (some (0, false)) else ((span_Cells.f k x418000 x418001 x1 x2 x12 x419001).bind fun t421 => ((span_Gaps.f k x418000 x418001 x1 x2).bind fun t422 => ((best_price.f k x418000 x418001 x1 x12 t421 t422 x3 x419000 x419001 x419002 x419003 x419004 x419005).bind fun bt423 => (some (bt423.1, bt423.2)))))
def best_Cost.f (k : Nat) (l0_0 : List (S62)) (l0_1 : List Int) (a1 : Int) (a2 : Int) (a3 : Bool) (a4_0 : Int) (a4_1 : Int) (a4_2 : Int) (a4_3 : Int) (a4_4 : Int) (a4_5 : Nat) : Option (Int × Bool) := (span_Ends.f l0_0 l0_1 a2).bind fun bt419 => (if bt419.2 = true then (best_Cost.j0 k a1 a2 a3 bt419.1 (decide (a2 ≤ a1)) l0_0 l0_1 a4_0 a4_1 a4_2 a4_3 a4_4 a4_5) else (best_Cost.j0 k a1 a2 a3 bt419.1 true l0_0 l0_1 a4_0 a4_1 a4_2 a4_3 a4_4 a4_5))
theorem best_Cost.mono_l : ∀ k, (∀ y0 y1 y2 y3 y4 y5 y6 y7 y8 y9 y10 y11 y12, LeO (best_Cost.j0 k y0 y1 y2 y3 y4 y5 y6 y7 y8 y9 y10 y11 y12) (best_Cost.j0 (k + 1) y0 y1 y2 y3 y4 y5 y6 y7 y8 y9 y10 y11 y12))
  | 0 => fun _ _ _ _ _ _ _ _ _ _ _ _ _ r h => by simp [best_Cost.j0] at h
  | k + 1 => by
    have ih0 := best_Cost.mono_l k
    · intro y0 y1 y2 y3 y4 y5 y6 y7 y8 y9 y10 y11 y12
      unfold best_Cost.j0
      repeat' first
      | (with_reducible exact ih0 _ _ _ _ _ _ _ _ _ _ _ _ _)
      | (with_reducible exact best_price.mono _ _ _ _ _ _ _ _ _ _ _ _ _ _)
      | (with_reducible exact span_Cells.mono _ _ _ _ _ _ _)
      | (with_reducible exact span_Gaps.mono _ _ _ _ _)
      | (with_reducible exact LeO.refl _)
      | (with_reducible exact LeO.none _)
      | (with_reducible refine LeO.ite ?_ ?_)
      | (with_reducible refine LeO.bind ?_ (fun _ => ?_))
      | exact ih0 _ _ _ _ _ _ _ _ _ _ _ _ _
      | exact best_price.mono _ _ _ _ _ _ _ _ _ _ _ _ _ _
      | exact span_Cells.mono _ _ _ _ _ _ _
      | exact span_Gaps.mono _ _ _ _ _
      | exact LeO.none _
      | refine LeO.ite ?_ ?_
      | refine LeO.bind ?_ (fun _ => ?_)
theorem best_Cost.mono : ∀ a0 a1 a2 a3 a4 a5 a6 a7 a8 a9 a10 k, LeO (best_Cost.f k a0 a1 a2 a3 a4 a5 a6 a7 a8 a9 a10) (best_Cost.f (k + 1) a0 a1 a2 a3 a4 a5 a6 a7 a8 a9 a10) := by
  intro a0 a1 a2 a3 a4 a5 a6 a7 a8 a9 a10 k
  have ih0 := best_Cost.mono_l k; unfold best_Cost.f
  repeat' first
      | (with_reducible exact ih0 _ _ _ _ _ _ _ _ _ _ _ _ _)
      | (with_reducible exact best_price.mono _ _ _ _ _ _ _ _ _ _ _ _ _ _)
      | (with_reducible exact span_Cells.mono _ _ _ _ _ _ _)
      | (with_reducible exact span_Gaps.mono _ _ _ _ _)
      | (with_reducible exact LeO.refl _)
      | (with_reducible exact LeO.none _)
      | (with_reducible refine LeO.ite ?_ ?_)
      | (with_reducible refine LeO.bind ?_ (fun _ => ?_))
      | exact ih0 _ _ _ _ _ _ _ _ _ _ _ _ _
      | exact best_price.mono _ _ _ _ _ _ _ _ _ _ _ _ _ _
      | exact span_Cells.mono _ _ _ _ _ _ _
      | exact span_Gaps.mono _ _ _ _ _
      | exact LeO.none _
      | refine LeO.ite ?_ ?_
      | refine LeO.bind ?_ (fun _ => ?_)
def best_Cost.T4 : Bool × List (List Nat × List Nat) := (true, [([], []), ([], []), ([], []), ([], []), ([], []), ([], []), ([], []), ([], []), ([7], [7]), ([3, 4, 5, 6, 8], [3, 4, 5, 6, 8]), ([], []), ([], []), ([], []), ([10, 11, 12, 9], [10, 11, 12]), ([], []), ([], []), ([0, 1, 2, 9, 13, 14, 15, 13], [0, 1, 2, 9, 13, 14, 15]), ([16], [16]), ([16], [16]), ([17, 16, 0, 1, 2, 3, 4, 5, 6, 7, 8, 9, 10, 11, 12, 13, 14, 15, 16, 17, 18], [17]), ([18, 19, 0, 1, 2, 3, 4, 5, 6, 7, 8, 9, 10, 11, 12, 13, 14, 15, 16, 17, 18, 19], [18])])
def best_Cost.B4 : List Nat := [0, 0, 0, 0, 0, 0, 0, 0, 128, 504, 0, 0, 0, 8184, 0, 0, 65535, 131071, 131071, 524287, 1048575]
theorem best_Cost.tab4 : rtab .any (opsOf Try.f19 4) = best_Cost.T4 := by kernel_rfl
theorem best_Cost.bits4 : waitsOk best_Cost.T4.2 best_Cost.B4 = true := by kernel_rfl
set_option maxHeartbeats 8000000 in
set_option maxRecDepth 100000 in
theorem best_Cost.calls (k : Nat) (A0_0 : Option Addr) (c0_0 : Nat) (l0_0 : List (S62)) (A0_1 : Option Addr) (c0_1 : Nat) (l0_1 : List Int) (a1 : Int) (a2 : Int) (a3 : Bool) (a4_0 : Int) (a4_1 : Int) (a4_2 : Int) (a4_3 : Int) (a4_4 : Int) (a4_5 : Nat) (r1 : Int) (r2 : Bool) (w : World) (hr0_0 : Kd.C k62 w A0_0 l0_0.length l0_0) (hc0_0 : l0_0.length ≤ c0_0) (hr0_1 : Kd.C (Kd.int .u8) w A0_1 l0_1.length l0_1) (hc0_1 : l0_1.length ≤ c0_1) (h : best_Cost.f k l0_0 l0_1 a1 a2 a3 a4_0 a4_1 a4_2 a4_3 a4_4 a4_5 = some (r1, r2)) :
    Calls Try.prog 19 #[.agg #[.slice A0_0 l0_0.length c0_0, .slice A0_1 l0_1.length c0_1], .int .i64 a1, .int .i64 a2, .bool a3, .agg #[.int .i64 a4_0, .int .i64 a4_1, .int .u8 a4_2, .int .i64 a4_3, .int .i64 a4_4, .float .f64 a4_5]] w fun e w' => e = .returned (.tuple #[.int .i64 r1, .bool r2]) ∧ Below w.heap.size w w' := by
  have hu31 := Try.underlying31; have hu35 := Try.underlying35; have HR0_0 := zD.mk hr0_0; have HC0_0 := zD.mk hc0_0; clear hr0_0 hc0_0; have HR0_1 := zD.mk hr0_1; have HC0_1 := zD.mk hc0_1; clear hr0_1 hc0_1; have HB := zD.mk (Below.refl w.heap.size w); have H : ((span_Ends.f l0_0 l0_1 a2).bind fun bt419 => (if bt419.2 = true then (best_Cost.j0 k a1 a2 a3 bt419.1 (decide (a2 ≤ a1)) l0_0 l0_1 a4_0 a4_1 a4_2 a4_3 a4_4 a4_5) else (best_Cost.j0 k a1 a2 a3 bt419.1 true l0_0 l0_1 a4_0 a4_1 a4_2 a4_3 a4_4 a4_5))) = some (r1, r2) := h
  clear h; replace H := Option.bind_eq_some_iff.mp H; obtain ⟨⟨t419, t420⟩, A60, H⟩ := H; replace H : (if t420 = true then (best_Cost.j0 k a1 a2 a3 t419 (decide (a2 ≤ a1)) l0_0 l0_1 a4_0 a4_1 a4_2 a4_3 a4_4 a4_5) else (best_Cost.j0 k a1 a2 a3 t419 true l0_0 l0_1 a4_0 a4_1 a4_2 a4_3 a4_4 a4_5)) = some (r1, r2) := H; have A6 := zD.mk A60; clear A60; have HC7 := zD.mk H; clear H; go_enter Try.func19, Try.ntmps19
  go_upto_region 2 with (first | ((with_reducible refine gate_dst (N := 5) rfl ?_); refine box_event ?hg (N := 5) ?hd (cs := #[.slice A0_0 l0_0.length c0_0, .slice A0_1 l0_1.length c0_1]) (t := 31) ?hr ?_; (case hd => rfl); (case hg => rfl); (case hr => first | (go_simp; done) | (go_simp; rfl)); intro gb417 hg w8 hbox hb; have n0_ := zD.mk (below_step (by repeat (first | (with_reducible first | exact HB.out | apply zJ | apply zF | apply zI) | exact HB.out)) hb); have n1_ := zD.mk (hbox); have n2_ := zD.mk ((by rw [hg]; exact (zM (by repeat (first | (with_reducible first | exact HB.out | apply zJ | apply zF | apply zI) | exact HB.out))) : w.heap.size ≤ gb417)); have n3_ := zD.mk ((by rw [hg]; exact (zM (by repeat (first | (with_reducible first | exact HB.out | apply zJ | apply zF | apply zI) | exact HB.out))) : w.heap.size ≤ gb417)); clear HB; have HB := n0_; have BK417 := n1_; have GW417 := n2_; have GE417 := n3_; clear n0_ n1_ n2_ n3_; clear hb hbox hg) | ((with_reducible refine gate_dst (N := 9) rfl ?_); refine box_event ?hg (N := 9) ?hd (cs := #[.int .i64 a4_0, .int .i64 a4_1, .int .u8 a4_2, .int .i64 a4_3, .int .i64 a4_4, .float .f64 a4_5]) (t := 35) ?hr ?_; (case hd => rfl); (case hg => rfl); (case hr => first | (go_simp; done) | (go_simp; rfl)); intro gb418 hg w9 hbox hb; have n0_ := zD.mk (zK (g := gb417) (o := .cells #[.slice A0_0 l0_0.length c0_0, .slice A0_1 l0_1.length c0_1] 31 (0, 0)) (by (with_reducible repeat (first | refine zB ?_ _ | refine zC ?_ | refine zA ?_ _)); exact BK417.out) hb); have n1_ := zD.mk (below_step (by repeat (first | (with_reducible first | exact HB.out | apply zJ | apply zF | apply zI | refine zE ?_ GE417.out) | exact HB.out)) hb); have n2_ := zD.mk (hbox); have n3_ := zD.mk ((by rw [hg]; exact (zM (by repeat (first | (with_reducible first | exact HB.out | apply zJ | apply zF | apply zI | refine zE ?_ GE417.out) | exact HB.out))) : w.heap.size ≤ gb418)); have n4_ := zD.mk ((by rw [hg]; exact (zM (by repeat (first | (with_reducible first | exact HB.out | apply zJ | apply zF | apply zI | refine zE ?_ GE417.out) | exact HB.out))) : w.heap.size ≤ gb418)); have n5_ := zD.mk ((by rw [hg]; exact Nat.ne_of_lt (blk_lt (g := gb417) (o := .cells #[.slice A0_0 l0_0.length c0_0, .slice A0_1 l0_1.length c0_1] 31 (0, 0)) (by (with_reducible repeat (first | refine zB ?_ _ | refine zC ?_ | refine zA ?_ _)); exact BK417.out)) : gb417 ≠ gb418)); have n6_ := zD.mk ((by rw [hg]; exact Nat.ne_of_gt (blk_lt (g := gb417) (o := .cells #[.slice A0_0 l0_0.length c0_0, .slice A0_1 l0_1.length c0_1] 31 (0, 0)) (by (with_reducible repeat (first | refine zB ?_ _ | refine zC ?_ | refine zA ?_ _)); exact BK417.out)) : gb418 ≠ gb417)); clear BK417; clear HB; have BK417 := n0_; have HB := n1_; have BK418 := n2_; have GW418 := n3_; have GE418 := n4_; have NB417_418 := n5_; have NB418_417 := n6_; clear n0_ n1_ n2_ n3_ n4_ n5_ n6_; clear hb hbox hg; have hnb10 := NB417_418.out; have hnc10 := NB418_417.out; have hcz11_0 : w9.cell? ⟨gb417, 0, none⟩ = some (.slice A0_0 l0_0.length c0_0) := (zH BK417.out 0).trans rfl; have hcz11_1 : w9.cell? ⟨gb417, 1, none⟩ = some (.slice A0_1 l0_1.length c0_1) := (zH BK417.out 1).trans rfl; have hfz11_0 := zG BK417.out 0; have hfz11_1 := zG BK417.out 1) | ((with_reducible refine gate_callee (f := 30) rfl ?_); refine goesL_ (some 17) rfl rfl Try.func30 (by kernel_rfl) rfl #[.agg #[.slice A0_0 l0_0.length c0_0, .slice A0_1 l0_1.length c0_1], .int .i64 a2] rfl (by (try simp only [List.map_toArray, List.map_cons, List.map_nil]); first | done | rfl | (simp only [List.length_drop, List.length_take]; rfl)) ?_; (with_reducible refine (span_Ends.calls _ _ l0_0 _ _ l0_1 a2 t419 t420 _ ?side1 ?side2 ?side3 ?side4 A6.out).mono ?_); (case side1 => repeat (first | exact (Kd.C_below HR0_0.out HB.out) | (with_reducible refine Kd.C_alloc ?_ _) | (with_reducible refine Kd.C_drewN ?_ _) | (with_reducible refine Kd.C_drew ?_))); (case side2 => exact HC0_0.out); (case side3 => repeat (first | exact (Kd.C_below HR0_1.out HB.out) | (with_reducible refine Kd.C_alloc ?_ _) | (with_reducible refine Kd.C_drewN ?_ _) | (with_reducible refine Kd.C_drew ?_))); (case side4 => exact HC0_1.out); rintro e w12 ⟨rfl, hb⟩; refine ⟨_, rfl, ?_⟩; have n0_ := zD.mk (zK (g := gb417) (o := .cells #[.slice A0_0 l0_0.length c0_0, .slice A0_1 l0_1.length c0_1] 31 (0, 0)) (by (with_reducible repeat (first | refine zB ?_ _ | refine zC ?_ | refine zA ?_ _)); exact BK417.out) hb); have n1_ := zD.mk (zK (g := gb418) (o := .cells #[.int .i64 a4_0, .int .i64 a4_1, .int .u8 a4_2, .int .i64 a4_3, .int .i64 a4_4, .float .f64 a4_5] 35 (0, 0)) (by (with_reducible repeat (first | refine zB ?_ _ | refine zC ?_ | refine zA ?_ _)); exact BK418.out) hb); have n2_ := zD.mk (below_step (by repeat (first | (with_reducible first | exact HB.out | apply zJ | apply zF | apply zI | refine zE ?_ GE417.out | refine zE ?_ GE418.out) | exact HB.out)) hb); clear BK417; clear BK418; clear HB; have BK417 := n0_; have BK418 := n1_; have HB := n2_; clear n0_ n1_ n2_; (try clear hb); (try clear hb2); (try clear hk); (try clear hi)))
  (try simp only [Act.put, sA_, sB_, sC_])
  go_cut [26] (fun v26 wc => ∃ (kq : Nat) (x26_6 : Bool), v26 = .bool x26_6 ∧ zD (best_Cost.j0 kq a1 a2 a3 t419 x26_6 l0_0 l0_1 a4_0 a4_1 a4_2 a4_3 a4_4 a4_5 = some (r1, r2)) ∧ zD (kq ≤ k) ∧ zD (wc.heap[gb417]? = some (.cells #[(.slice A0_0 l0_0.length c0_0), (.slice A0_1 l0_1.length c0_1)] 31 (0, 0))) ∧ zD (wc.heap[gb418]? = some (.cells #[.int .i64 a4_0, .int .i64 a4_1, .int .u8 a4_2, .int .i64 a4_3, .int .i64 a4_4, .float .f64 a4_5] 35 (0, 0))) ∧ zD (Below w.heap.size w wc))
  case first =>
    have H := HC7.out; clear HC7; by_cases c13 : t420 = true
    · subst c13
      have H1 : (best_Cost.j0 k a1 a2 a3 t419 (decide (a2 ≤ a1)) l0_0 l0_1 a4_0 a4_1 a4_2 a4_3 a4_4 a4_5) = some (r1, r2) := by rw [if_pos rfl] at H; exact H
      clear H; have H := H1; clear H1; have H' := zD.mk H
      clear H; go_wp2
      go_meet
      case rel => exact ⟨_, (decide (a2 ≤ a1)), (by first | rfl | (simp; done) | (simp [*]; done)), H', ⟨by first | omega | exact Nat.le_refl _⟩, ⟨by (with_reducible repeat (first | refine zB ?_ _ | refine zC ?_ | refine zA ?_ _)); exact BK417.out⟩, ⟨by (with_reducible repeat (first | refine zB ?_ _ | refine zC ?_ | refine zA ?_ _)); exact BK418.out⟩, ⟨by repeat (first | (with_reducible first | exact HB.out | apply zJ | apply zF | apply zI | refine zE ?_ GE417.out | refine zE ?_ GE418.out) | exact HB.out)⟩⟩
    replace c13 := Bool.eq_false_iff.mpr c13; subst c13; have H1 : (best_Cost.j0 k a1 a2 a3 t419 true l0_0 l0_1 a4_0 a4_1 a4_2 a4_3 a4_4 a4_5) = some (r1, r2) := by rw [if_neg (show ¬ (false = true) by decide)] at H; exact H
    clear H; have H := H1; clear H1; have H' := zD.mk H
    clear H; go_wp2
    go_meet
    case rel => exact ⟨_, (true), (by first | rfl | (simp; done) | (simp [*]; done)), H', ⟨by first | omega | exact Nat.le_refl _⟩, ⟨by (with_reducible repeat (first | refine zB ?_ _ | refine zC ?_ | refine zA ?_ _)); exact BK417.out⟩, ⟨by (with_reducible repeat (first | refine zB ?_ _ | refine zC ?_ | refine zA ?_ _)); exact BK418.out⟩, ⟨by repeat (first | (with_reducible first | exact HB.out | apply zJ | apply zF | apply zI | refine zE ?_ GE417.out | refine zE ?_ GE418.out) | exact HB.out)⟩⟩
  clear HC7; try clear c1
  try clear p2
  try clear c3
  try clear c10
  try clear c13
  try clear hcz11_0
  try clear hcz11_1
  try clear hfz11_0
  try clear hfz11_1
  obtain ⟨kq, x26_6, rfl, HA, HJ6, BK417, BK418, HB⟩ := hcut; cases kq with
  | zero => exact absurd HA.out (by simp [best_Cost.j0])
  | succ kj6 =>
    have H := HA.out; clear HA; simp only [best_Cost.j0] at H; by_cases c14 : x26_6 = true
    · subst c14
      have H1 : (some (0, false)) = some (r1, r2) := by rw [if_pos rfl] at H; exact H
      clear H; have H := H1; clear H1; simp only [Option.some.injEq, Prod.mk.injEq] at H; obtain ⟨rfl, rfl⟩ := H; go_wp2
      go_ret2
      exact ⟨by first | rfl | (simp [errW_none, errW_some] <;> rfl) | (simp [*, errW_none, errW_some] <;> rfl), by repeat (first | (with_reducible first | exact HB.out | apply zJ | apply zF | apply zI | refine zE ?_ GE417.out | refine zE ?_ GE418.out) | exact HB.out)⟩
    replace c14 := Bool.eq_false_iff.mpr c14; subst c14; have H1 : ((span_Cells.f kj6 l0_0 l0_1 a1 a2 t419 a4_1).bind fun t421 => ((span_Gaps.f kj6 l0_0 l0_1 a1 a2).bind fun t422 => ((best_price.f kj6 l0_0 l0_1 a1 t419 t421 t422 a3 a4_0 a4_1 a4_2 a4_3 a4_4 a4_5).bind fun bt423 => (some (bt423.1, bt423.2))))) = some (r1, r2) := by rw [if_neg (show ¬ (false = true) by decide)] at H; exact H
    clear H; have H := H1; clear H1; replace H := Option.bind_eq_some_iff.mp H; obtain ⟨t421, A150, H⟩ := H; replace H : ((span_Gaps.f kj6 l0_0 l0_1 a1 a2).bind fun t422 => ((best_price.f kj6 l0_0 l0_1 a1 t419 t421 t422 a3 a4_0 a4_1 a4_2 a4_3 a4_4 a4_5).bind fun bt423 => (some (bt423.1, bt423.2)))) = some (r1, r2) := H
    have A15 := zD.mk A150; clear A150; replace H := Option.bind_eq_some_iff.mp H; obtain ⟨t422, A160, H⟩ := H; replace H : ((best_price.f kj6 l0_0 l0_1 a1 t419 t421 t422 a3 a4_0 a4_1 a4_2 a4_3 a4_4 a4_5).bind fun bt423 => (some (bt423.1, bt423.2))) = some (r1, r2) := H
    have A16 := zD.mk A160; clear A160; replace H := Option.bind_eq_some_iff.mp H; obtain ⟨⟨t423, t424⟩, A170, H⟩ := H; replace H : (some (t423, t424)) = some (r1, r2) := H; have A17 := zD.mk A170; clear A170; simp only [Option.some.injEq, Prod.mk.injEq] at H; obtain ⟨rfl, rfl⟩ := H; try go_wp2
    have n0_ := zD.mk (zC BK417.out); have n1_ := zD.mk (zC BK418.out); have n2_ := zD.mk (zI HB.out); clear BK417; clear BK418; clear HB; have BK417 := n0_; have BK418 := n1_; have HB := n2_; clear n0_ n1_ n2_; refine start_ (n := 21) (S := fun w' => w'.cell? ⟨gb417, 0, none⟩ = some (.slice A0_0 l0_0.length c0_0) ∧ w'.cell? ⟨gb417, 1, none⟩ = some (.slice A0_1 l0_1.length c0_1) ∧ w'.cell? ⟨gb418, 0, none⟩ = some (.int .i64 a4_0) ∧ w'.cell? ⟨gb418, 1, none⟩ = some (.int .i64 a4_1) ∧ w'.cell? ⟨gb418, 2, none⟩ = some (.int .u8 a4_2) ∧ w'.cell? ⟨gb418, 3, none⟩ = some (.int .i64 a4_3) ∧ w'.cell? ⟨gb418, 4, none⟩ = some (.int .i64 a4_4) ∧ w'.cell? ⟨gb418, 5, none⟩ = some (.float .f64 a4_5)) (ds := []) #[false, false, false, false, false, false, false, false, false, false, false, false, false, false, false, false, false, false, false, false, false] (by kernel_rfl) rfl rfl ⟨(zH BK417.out 0).trans rfl, (zH BK417.out 1).trans rfl, (zH BK418.out 0).trans rfl, (zH BK418.out 1).trans rfl, (zH BK418.out 2).trans rfl, (zH BK418.out 3).trans rfl, (zH BK418.out 4).trans rfl, (zH BK418.out 5).trans rfl⟩ (fun hHeld => ?_); refine with_tabW best_Cost.tab4 best_Cost.bits4 (fun HT_ HW_ => ?_)
    generalize wc.drew = w18 at BK417 BK418 HB hHeld ⊢
    refine pure_ (i := 1) (N := some 28) (v := ?_) (a' := ?_) #[false, true, false, false, false, false, false, false, false, false, false, false, false, false, false, false, false, false, false, false, false] rfl rfl (any_of HT_.out (by kernel_rfl)) (fun _ _ _ h => h) (Or.inl ⟨by rfl, ?_⟩) ?_ ?_
    rotate_left
    · intro w'
      go_simp
      with_reducible rfl
    rotate_left
    · simp only [Act.put, sA_, sB_, sC_, i64_w, i32_w]
      rfl
    refine pure_ (i := 2) (N := some 29) (v := ?_) (a' := ?_) #[false, true, true, false, false, false, false, false, false, false, false, false, false, false, false, false, false, false, false, false, false] rfl rfl (any_of HT_.out (by kernel_rfl)) (fun _ _ _ h => h) (Or.inl ⟨by rfl, ?_⟩) ?_ ?_
    rotate_left
    · intro w'
      go_simp
      with_reducible rfl
    rotate_left
    · simp only [Act.put, sA_, sB_, sC_, i64_w, i32_w]
      rfl
    refine pure_ (i := 4) (N := some 31) (v := ?_) (a' := ?_) #[false, true, true, false, true, false, false, false, false, false, false, false, false, false, false, false, false, false, false, false, false] rfl rfl (any_of HT_.out (by kernel_rfl)) (fun _ _ _ h => h) (Or.inl ⟨by rfl, ?_⟩) ?_ ?_
    rotate_left
    · intro w'
      go_simp
      with_reducible rfl
    rotate_left
    · simp only [Act.put, sA_, sB_, sC_, i64_w, i32_w]
      rfl
    refine pure_ (i := 5) (N := some 32) (v := ?_) (a' := ?_) #[false, true, true, false, true, true, false, false, false, false, false, false, false, false, false, false, false, false, false, false, false] rfl rfl (any_of HT_.out (by kernel_rfl)) (fun _ _ _ h => h) (Or.inl ⟨by rfl, ?_⟩) ?_ ?_
    rotate_left
    · intro w'
      go_simp
      with_reducible rfl
    rotate_left
    · simp only [Act.put, sA_, sB_, sC_, i64_w, i32_w]
      rfl
    refine pure_ (i := 6) (N := some 33) (v := ?_) (a' := ?_) #[false, true, true, false, true, true, true, false, false, false, false, false, false, false, false, false, false, false, false, false, false] rfl rfl (any_of HT_.out (by kernel_rfl)) (fun _ _ _ h => h) (Or.inl ⟨by rfl, ?_⟩) ?_ ?_
    rotate_left
    · intro w'
      go_simp
      with_reducible rfl
    rotate_left
    · simp only [Act.put, sA_, sB_, sC_, i64_w, i32_w]
      rfl
    refine pure_ (i := 7) (N := some 34) (v := ?_) (a' := ?_) #[false, true, true, false, true, true, true, true, false, false, false, false, false, false, false, false, false, false, false, false, false] rfl rfl (any_of HT_.out (by kernel_rfl)) (fun _ _ _ h => h) (Or.inl ⟨by rfl, ?_⟩) ?_ ?_
    rotate_left
    · intro w'
      go_simp
      with_reducible rfl
    rotate_left
    · simp only [Act.put, sA_, sB_, sC_, i64_w, i32_w]
      rfl
    refine pure_ (i := 11) (N := some 38) (v := ?_) (a' := ?_) #[false, true, true, false, true, true, true, true, false, false, false, true, false, false, false, false, false, false, false, false, false] rfl rfl (any_of HT_.out (by kernel_rfl)) (fun _ _ _ h => h) (Or.inl ⟨by rfl, ?_⟩) ?_ ?_
    rotate_left
    · intro w'
      go_simp
      with_reducible rfl
    rotate_left
    · simp only [Act.put, sA_, sB_, sC_, i64_w, i32_w]
      rfl
    refine pure_ (i := 12) (N := some 39) (v := ?_) (a' := ?_) #[false, true, true, false, true, true, true, true, false, false, false, true, true, false, false, false, false, false, false, false, false] rfl rfl (any_of HT_.out (by kernel_rfl)) (fun _ _ _ h => h) (Or.inl ⟨by rfl, ?_⟩) ?_ ?_
    rotate_left
    · intro w'
      go_simp
      with_reducible rfl
    rotate_left
    · simp only [Act.put, sA_, sB_, sC_, i64_w, i32_w]
      rfl
    refine pure_ (i := 14) (N := some 41) (v := ?_) (a' := ?_) #[false, true, true, false, true, true, true, true, false, false, false, true, true, false, true, false, false, false, false, false, false] rfl rfl (any_of HT_.out (by kernel_rfl)) (fun _ _ _ h => h) (Or.inl ⟨by rfl, ?_⟩) ?_ ?_
    rotate_left
    · intro w'
      go_simp
      with_reducible rfl
    rotate_left
    · simp only [Act.put, sA_, sB_, sC_, i64_w, i32_w]
      rfl
    refine take_ (i := 0) (N := some 27) (v := ?_) (a' := ?_) #[true, true, true, false, true, true, true, true, false, false, false, true, true, false, true, false, false, false, false, false, false] rfl rfl (take_ofW HT_.out HW_.out (by kernel_rfl)) (fun _ _ _ h => h) (Or.inl ⟨by rfl, ?_⟩) hHeld ?_ ?_
    rotate_left
    · rintro w' ⟨s0, s1, s2, s3, s4, s5, s6, s7⟩
      go_simp
      with_reducible rfl
    rotate_left
    · simp only [Act.put, sA_, sB_, sC_, i64_w, i32_w]
      rfl
    refine take_ (i := 3) (N := some 30) (v := ?_) (a' := ?_) #[true, true, true, true, true, true, true, true, false, false, false, true, true, false, true, false, false, false, false, false, false] rfl rfl (take_ofW HT_.out HW_.out (by kernel_rfl)) (fun _ _ _ h => h) (Or.inl ⟨by rfl, ?_⟩) hHeld ?_ ?_
    rotate_left
    · rintro w' ⟨s0, s1, s2, s3, s4, s5, s6, s7⟩
      go_simp
      with_reducible rfl
    rotate_left
    · simp only [Act.put, sA_, sB_, sC_, i64_w, i32_w]
      rfl
    refine take_ (i := 8) (N := some 35) (v := ?_) (a' := ?_) #[true, true, true, true, true, true, true, true, true, false, false, true, true, false, true, false, false, false, false, false, false] rfl rfl (take_ofW HT_.out HW_.out (by kernel_rfl)) (fun _ _ _ h => h) (Or.inl ⟨by rfl, ?_⟩) hHeld ?_ ?_
    rotate_left
    · rintro w' ⟨s0, s1, s2, s3, s4, s5, s6, s7⟩
      go_simp
      with_reducible rfl
    rotate_left
    · simp only [Act.put, sA_, sB_, sC_, i64_w, i32_w]
      rfl
    refine take_ (i := 10) (N := some 37) (v := ?_) (a' := ?_) #[true, true, true, true, true, true, true, true, true, false, true, true, true, false, true, false, false, false, false, false, false] rfl rfl (take_ofW HT_.out HW_.out (by kernel_rfl)) (fun _ _ _ h => h) (Or.inl ⟨by rfl, ?_⟩) hHeld ?_ ?_
    rotate_left
    · rintro w' ⟨s0, s1, s2, s3, s4, s5, s6, s7⟩
      go_simp
      with_reducible rfl
    rotate_left
    · simp only [Act.put, sA_, sB_, sC_, i64_w, i32_w]
      rfl
    refine take_ (i := 15) (N := some 42) (v := ?_) (a' := ?_) #[true, true, true, true, true, true, true, true, true, false, true, true, true, false, true, true, false, false, false, false, false] rfl rfl (take_ofW HT_.out HW_.out (by kernel_rfl)) (fun _ _ _ h => h) (Or.inl ⟨by rfl, ?_⟩) hHeld ?_ ?_
    rotate_left
    · rintro w' ⟨s0, s1, s2, s3, s4, s5, s6, s7⟩
      go_simp
      with_reducible rfl
    rotate_left
    · simp only [Act.put, sA_, sB_, sC_, i64_w, i32_w]
      rfl
    refine one_ (i := 9) (N := some 36) #[true, true, true, true, true, true, true, true, true, true, true, true, true, false, true, true, false, false, false, false, false] rfl rfl (one_of HT_.out (by kernel_rfl)) (by decide) (fun K hK => ?_)
    refine goes_ Try.func32 (by kernel_rfl) rfl #[.agg #[.slice A0_0 l0_0.length c0_0, .slice A0_1 l0_1.length c0_1], .int .i64 a1, .int .i64 a2, .int .u8 t419, .int .i64 a4_1] (by rfl) rfl rfl (by (try simp only [List.map_toArray, List.map_cons, List.map_nil]); first | done | rfl | (simp only [List.length_drop, List.length_take]; rfl)) ?_
    with_reducible refine (span_Cells.calls kj6 _ _ l0_0 _ _ l0_1 a1 a2 t419 a4_1 t421 _ ?side1 ?side2 ?side3 ?side4 A15.out).mono ?_
    (case side1 => repeat (first | exact (Kd.C_below HR0_0.out HB.out) | (with_reducible refine Kd.C_alloc ?_ _) | (with_reducible refine Kd.C_drewN ?_ _) | (with_reducible refine Kd.C_drew ?_)))
    (case side2 => exact HC0_0.out)
    (case side3 => repeat (first | exact (Kd.C_below HR0_1.out HB.out) | (with_reducible refine Kd.C_alloc ?_ _) | (with_reducible refine Kd.C_drewN ?_ _) | (with_reducible refine Kd.C_drew ?_)))
    (case side4 => exact HC0_1.out)
    rintro e w19 ⟨rfl, hb⟩
    refine ⟨_, rfl, ?_⟩
    have n0_ := zD.mk (zK (g := gb417) (o := .cells #[.slice A0_0 l0_0.length c0_0, .slice A0_1 l0_1.length c0_1] 31 (0, 0)) (by (with_reducible repeat (first | refine zB ?_ _ | refine zC ?_ | refine zA ?_ _)); exact BK417.out) hb)
    have n1_ := zD.mk (zK (g := gb418) (o := .cells #[.int .i64 a4_0, .int .i64 a4_1, .int .u8 a4_2, .int .i64 a4_3, .int .i64 a4_4, .float .f64 a4_5] 35 (0, 0)) (by (with_reducible repeat (first | refine zB ?_ _ | refine zC ?_ | refine zA ?_ _)); exact BK418.out) hb)
    have n2_ := zD.mk (below_step (by repeat (first | (with_reducible first | exact HB.out | apply zJ | apply zF | apply zI | refine zE ?_ GE417.out | refine zE ?_ GE418.out) | exact HB.out)) hb)
    clear BK417 BK418 HB; have BK417 := n0_; have BK418 := n1_; have HB := n2_; clear n0_ n1_ n2_; (try clear hb)
    (try clear hb2)
    (try clear hk)
    (try clear hi)
    refine hK.out _ _ ⟨(zH BK417.out 0).trans rfl, (zH BK417.out 1).trans rfl, (zH BK418.out 0).trans rfl, (zH BK418.out 1).trans rfl, (zH BK418.out 2).trans rfl, (zH BK418.out 3).trans rfl, (zH BK418.out 4).trans rfl, (zH BK418.out 5).trans rfl⟩ (fun hHeld => ?_)
    clear hK K; refine norm_ (a' := ?_) ?_ ?_
    rotate_left
    · show Act.put _ (some 36) _ = _
      simp only [Act.put, sA_, sB_, sC_, i64_w, i32_w]; rfl
    refine one_ (i := 13) (N := some 40) #[true, true, true, true, true, true, true, true, true, true, true, true, true, true, true, true, false, false, false, false, false] rfl rfl (one_of HT_.out (by kernel_rfl)) (by decide) (fun K hK => ?_)
    refine goes_ Try.func33 (by kernel_rfl) rfl #[.agg #[.slice A0_0 l0_0.length c0_0, .slice A0_1 l0_1.length c0_1], .int .i64 a1, .int .i64 a2] (by rfl) rfl rfl (by (try simp only [List.map_toArray, List.map_cons, List.map_nil]); first | done | rfl | (simp only [List.length_drop, List.length_take]; rfl)) ?_
    with_reducible refine (span_Gaps.calls kj6 _ _ l0_0 _ _ l0_1 a1 a2 t422 _ ?side1 ?side2 ?side3 ?side4 A16.out).mono ?_
    (case side1 => repeat (first | exact (Kd.C_below HR0_0.out HB.out) | (with_reducible refine Kd.C_alloc ?_ _) | (with_reducible refine Kd.C_drewN ?_ _) | (with_reducible refine Kd.C_drew ?_)))
    (case side2 => exact HC0_0.out)
    (case side3 => repeat (first | exact (Kd.C_below HR0_1.out HB.out) | (with_reducible refine Kd.C_alloc ?_ _) | (with_reducible refine Kd.C_drewN ?_ _) | (with_reducible refine Kd.C_drew ?_)))
    (case side4 => exact HC0_1.out)
    rintro e w20 ⟨rfl, hb⟩
    refine ⟨_, rfl, ?_⟩
    have n0_ := zD.mk (zK (g := gb417) (o := .cells #[.slice A0_0 l0_0.length c0_0, .slice A0_1 l0_1.length c0_1] 31 (0, 0)) (by (with_reducible repeat (first | refine zB ?_ _ | refine zC ?_ | refine zA ?_ _)); exact BK417.out) hb)
    have n1_ := zD.mk (zK (g := gb418) (o := .cells #[.int .i64 a4_0, .int .i64 a4_1, .int .u8 a4_2, .int .i64 a4_3, .int .i64 a4_4, .float .f64 a4_5] 35 (0, 0)) (by (with_reducible repeat (first | refine zB ?_ _ | refine zC ?_ | refine zA ?_ _)); exact BK418.out) hb)
    have n2_ := zD.mk (below_step (by repeat (first | (with_reducible first | exact HB.out | apply zJ | apply zF | apply zI | refine zE ?_ GE417.out | refine zE ?_ GE418.out) | exact HB.out)) hb)
    clear BK417 BK418 HB; have BK417 := n0_; have BK418 := n1_; have HB := n2_; clear n0_ n1_ n2_; (try clear hb)
    (try clear hb2)
    (try clear hk)
    (try clear hi)
    refine hK.out _ _ ⟨(zH BK417.out 0).trans rfl, (zH BK417.out 1).trans rfl, (zH BK418.out 0).trans rfl, (zH BK418.out 1).trans rfl, (zH BK418.out 2).trans rfl, (zH BK418.out 3).trans rfl, (zH BK418.out 4).trans rfl, (zH BK418.out 5).trans rfl⟩ (fun hHeld => ?_)
    clear hK K; refine norm_ (a' := ?_) ?_ ?_
    rotate_left
    · show Act.put _ (some 40) _ = _
      simp only [Act.put, sA_, sB_, sC_, i64_w, i32_w]; rfl
    refine one_ (i := 16) (N := some 43) #[true, true, true, true, true, true, true, true, true, true, true, true, true, true, true, true, true, false, false, false, false] rfl rfl (one_of HT_.out (by kernel_rfl)) (by decide) (fun K hK => ?_)
    refine goes_ Try.func31 (by kernel_rfl) rfl #[.agg #[.slice A0_0 l0_0.length c0_0, .slice A0_1 l0_1.length c0_1], .int .i64 a1, .int .u8 t419, .int .i64 t421, .int .i64 t422, .bool a3, .agg #[.int .i64 a4_0, .int .i64 a4_1, .int .u8 a4_2, .int .i64 a4_3, .int .i64 a4_4, .float .f64 a4_5]] (by rfl) rfl rfl (by (try simp only [List.map_toArray, List.map_cons, List.map_nil]); first | done | rfl | (simp only [List.length_drop, List.length_take]; rfl)) ?_
    with_reducible refine (best_price.calls kj6 _ _ l0_0 _ _ l0_1 a1 t419 t421 t422 a3 a4_0 a4_1 a4_2 a4_3 a4_4 a4_5 t423 t424 _ ?side1 ?side2 ?side3 ?side4 A17.out).mono ?_
    (case side1 => repeat (first | exact (Kd.C_below HR0_0.out HB.out) | (with_reducible refine Kd.C_alloc ?_ _) | (with_reducible refine Kd.C_drewN ?_ _) | (with_reducible refine Kd.C_drew ?_)))
    (case side2 => exact HC0_0.out)
    (case side3 => repeat (first | exact (Kd.C_below HR0_1.out HB.out) | (with_reducible refine Kd.C_alloc ?_ _) | (with_reducible refine Kd.C_drewN ?_ _) | (with_reducible refine Kd.C_drew ?_)))
    (case side4 => exact HC0_1.out)
    rintro e w21 ⟨rfl, hb⟩
    refine ⟨_, rfl, ?_⟩
    have n0_ := zD.mk (zK (g := gb417) (o := .cells #[.slice A0_0 l0_0.length c0_0, .slice A0_1 l0_1.length c0_1] 31 (0, 0)) (by (with_reducible repeat (first | refine zB ?_ _ | refine zC ?_ | refine zA ?_ _)); exact BK417.out) hb)
    have n1_ := zD.mk (zK (g := gb418) (o := .cells #[.int .i64 a4_0, .int .i64 a4_1, .int .u8 a4_2, .int .i64 a4_3, .int .i64 a4_4, .float .f64 a4_5] 35 (0, 0)) (by (with_reducible repeat (first | refine zB ?_ _ | refine zC ?_ | refine zA ?_ _)); exact BK418.out) hb)
    have n2_ := zD.mk (below_step (by repeat (first | (with_reducible first | exact HB.out | apply zJ | apply zF | apply zI | refine zE ?_ GE417.out | refine zE ?_ GE418.out) | exact HB.out)) hb)
    clear BK417 BK418 HB; have BK417 := n0_; have BK418 := n1_; have HB := n2_; clear n0_ n1_ n2_; (try clear hb)
    (try clear hb2)
    (try clear hk)
    (try clear hi)
    refine hK.out _ _ ⟨(zH BK417.out 0).trans rfl, (zH BK417.out 1).trans rfl, (zH BK418.out 0).trans rfl, (zH BK418.out 1).trans rfl, (zH BK418.out 2).trans rfl, (zH BK418.out 3).trans rfl, (zH BK418.out 4).trans rfl, (zH BK418.out 5).trans rfl⟩ (fun hHeld => ?_)
    clear hK K; refine norm_ (a' := ?_) ?_ ?_
    rotate_left
    · show Act.put _ (some 43) _ = _
      simp only [Act.put, sA_, sB_, sC_, i64_w, i32_w]; rfl
    refine pure_ (i := 17) (N := some 44) (v := ?_) (a' := ?_) (tf_ 18 21) rfl rfl (any_of HT_.out (by kernel_rfl)) (fun _ _ _ h => h) (Or.inl ⟨by rfl, ?_⟩) ?_ ?_
    rotate_left
    · intro w'
      go_simp
      with_reducible rfl
    rotate_left
    · simp only [Act.put, sA_, sB_, sC_, i64_w, i32_w]
      rfl
    refine pure_ (i := 18) (N := some 45) (v := ?_) (a' := ?_) (tf_ 19 21) rfl rfl (any_of HT_.out (by kernel_rfl)) (fun _ _ _ h => h) (Or.inl ⟨by rfl, ?_⟩) ?_ ?_
    rotate_left
    · intro w'
      go_simp
      with_reducible rfl
    rotate_left
    · simp only [Act.put, sA_, sB_, sC_, i64_w, i32_w]
      rfl
    refine pure_ (i := 19) (N := some 10) (v := ?_) (a' := ?_) (tf_ 20 21) rfl rfl (any_of HT_.out (by kernel_rfl)) (fun _ _ _ h => h) (Or.inl ⟨by rfl, ?_⟩) ?_ ?_
    rotate_left
    · intro w'
      go_simp
      with_reducible rfl
    rotate_left
    · simp only [Act.put, sA_, sB_, sC_, i64_w, i32_w]
      rfl
    refine pure_ (i := 20) (N := some 11) (v := ?_) (a' := ?_) #[true, true, true, true, true, true, true, true, true, true, true, true, true, true, true, true, true, true, true, true, true] rfl rfl (any_of HT_.out (by kernel_rfl)) (fun _ _ _ h => h) (Or.inl ⟨by rfl, ?_⟩) ?_ ?_
    rotate_left
    · intro w'
      go_simp
      with_reducible rfl
    rotate_left
    · simp only [Act.put, sA_, sB_, sC_, i64_w, i32_w]
      rfl
    refine done_ (done_of HT_.out (by kernel_rfl)) ?_
    try go_wp2
    go_ret2
    exact ⟨by first | rfl | (simp [errW_none, errW_some] <;> rfl) | (simp [*, errW_none, errW_some] <;> rfl), by repeat (first | (with_reducible first | exact HB.out | apply zJ | apply zF | apply zI | refine zE ?_ GE417.out | refine zE ?_ GE418.out) | exact HB.out)⟩
end Go.Proofs.Ytlgclhhkgohanaa.F
end
