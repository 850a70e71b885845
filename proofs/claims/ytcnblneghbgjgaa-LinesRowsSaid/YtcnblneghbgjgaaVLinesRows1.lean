/- Printed by a program: Lean functions that answer as the Go functions do, and the proofs of it. -/
import Derived.Test.YtcnblneghbgjgaaVLinesRows0
section
namespace Go.Proofs.Ytcnblneghbgjgaa.F
open Go.RowKit Go.Proofs.YtcnblneghbgjgaaW.PrintWords Go.Proofs.YtcnblneghbgjgaaW.PrintLast Go.Proofs.YtcnblneghbgjgaaW.PrintMore
attribute [local go_sem] max2_int min2_int max_two min_two max_three min_three max_four min_four   -- for this text's walks alone
set_option linter.unusedVariables false
set_option linter.unusedSimpArgs false
mutual
def first_one.j2 : Nat → Int → Int → Int → Int → List (S66) → List Int → Int → Int → Int → Int → Int → Nat → Option (Int × Int × Int × Int)
  | 0, _, _, _, _, _, _, _, _, _, _, _, _ => none
  | k + 1, x1, x2, x9, x10, x152000, x152001, x153000, x153001, x153002, x153003, x153004, x153005 => if x9 ≥ 0 then (if 0 ≤ x9 then (if x9 < (x152001.length : Int) then ((span_Make.f k x152000 x152001 x1 x9 (rd x152001 x9) x153001).bind fun bt161 => (some (bt161.1, bt161.2.1, bt161.2.2.1, bt161.2.2.2))) else (none)) else (none)) else (if x10 = x2 then (if 0 ≤ x2 then (if x2 < (x152001.length : Int) then (if x10 < x2 then (if 0 ≤ x10 then (if x10 < (x152001.length : Int) then (if (rd x152001 x10) = 1 then ((span_Make.f k x152000 x152001 x1 x10 1 x153001).bind fun bt167 => (some (bt167.1, bt167.2.1, bt167.2.2.1, bt167.2.2.2))) else ((span_Make.f k x152000 x152001 x1 x10 (rd x152001 x2) x153001).bind fun bt171 => (some (bt171.1, bt171.2.1, bt171.2.2.1, bt171.2.2.2)))) else (none)) else (none)) else ((span_Make.f k x152000 x152001 x1 x10 (rd x152001 x2) x153001).bind fun bt175 => (some (bt175.1, bt175.2.1, bt175.2.2.1, bt175.2.2.2)))) else (none)) else (none)) else (if x10 < x2 then (if 0 ≤ x10 then (if x10 < (x152001.length : Int) then (if (rd x152001 x10) = 1 then ((span_Make.f k x152000 x152001 x1 x10 1 x153001).bind fun bt180 => (some (bt180.1, bt180.2.1, bt180.2.2.1, bt180.2.2.2))) else ((span_Make.f k x152000 x152001 x1 x10 4 x153001).bind fun bt184 => (some (bt184.1, bt184.2.1, bt184.2.2.1, bt184.2.2.2)))) else (none)) else (none)) else ((span_Make.f k x152000 x152001 x1 x10 4 x153001).bind fun bt188 => (some (bt188.1, bt188.2.1, bt188.2.2.1, bt188.2.2.2)))))
def first_one.l0 : Nat → Int → Int → Int → Int → Int → Int → Int → List (S66) → List Int → Int → Int → Int → Int → Int → Nat → Option (Int × Int × Int × Int)
  | 0, _, _, _, _, _, _, _, _, _, _, _, _, _, _, _ => none
  | k + 1, x1, x2, x9, x10, x11, x12, x13, x152000, x152001, x153000, x153001, x153002, x153003, x153004, x153005 => if x13 ≤ x2 then (if 0 ≤ (wrap64 (x13 - 1)) then (if (wrap64 (x13 - 1)) < (x152000.length : Int) then ((span_Next.f ((rd_T66 x152000 (wrap64 (x13 - 1))).f0) ((rd_T66 x152000 (wrap64 (x13 - 1))).f1) ((rd_T66 x152000 (wrap64 (x13 - 1))).f2) ((rd_T66 x152000 (wrap64 (x13 - 1))).f3) x11 x153001).bind fun t156 => ((span_Trim.f k x152000 x152001 (wrap64 (x13 - 1)) x13).bind fun t157 => (if t157 = x13 then (first_one.j1 k x1 x2 x9 x10 t156 t156 x13 x152000 x152001 x153000 x153001 x153002 x153003 x153004 x153005) else (first_one.j1 k x1 x2 x9 x10 t156 x12 x13 x152000 x152001 x153000 x153001 x153002 x153003 x153004 x153005)))) else (none)) else (none)) else (first_one.j2 k x1 x2 x9 x10 x152000 x152001 x153000 x153001 x153002 x153003 x153004 x153005)
def first_one.j1 : Nat → Int → Int → Int → Int → Int → Int → Int → List (S66) → List Int → Int → Int → Int → Int → Int → Nat → Option (Int × Int × Int × Int)
  | 0, _, _, _, _, _, _, _, _, _, _, _, _, _, _, _ => none
  | k + 1, x1, x2, x9, x10, x11, x12, x13, x152000, x152001, x153000, x153001, x153002, x153003, x153004, x153005 => if x12 > x153000 then (first_one.j2 k x1 x2 x9 x10 x152000 x152001 x153000 x153001 x153002 x153003 x153004 x153005) else ((span_Ends.f x152000 x152001 x13).bind fun bt158 => (if bt158.2 = true then (if bt158.1 = 3 then (if x12 < x153000 then (first_one.l0 k x1 x2 x13 x13 x11 x12 (wrap64 (x13 + 1)) x152000 x152001 x153000 x153001 x153002 x153003 x153004 x153005) else (first_one.l0 k x1 x2 x9 x13 x11 x12 (wrap64 (x13 + 1)) x152000 x152001 x153000 x153001 x153002 x153003 x153004 x153005)) else (first_one.l0 k x1 x2 x13 x13 x11 x12 (wrap64 (x13 + 1)) x152000 x152001 x153000 x153001 x153002 x153003 x153004 x153005)) else (first_one.l0 k x1 x2 x9 x13 x11 x12 (wrap64 (x13 + 1)) x152000 x152001 x153000 x153001 x153002 x153003 x153004 x153005)))
end
def first_one.f (k : Nat) (l0_0 : List (S66)) (l0_1 : List Int) (a1 : Int) (a2 : Int) (a3_0 : Int) (a3_1 : Int) (a3_2 : Int) (a3_3 : Int) (a3_4 : Int) (a3_5 : Nat) : Option (Int × Int × Int × Int) := first_one.l0 k a1 a2 (-1) (wrap64 (a1 + 1)) 0 0 (wrap64 (a1 + 1)) l0_0 l0_1 a3_0 a3_1 a3_2 a3_3 a3_4 a3_5
theorem first_one.mono_l : ∀ k, (∀ y0 y1 y2 y3 y4 y5 y6 y7 y8 y9 y10 y11, LeO (first_one.j2 k y0 y1 y2 y3 y4 y5 y6 y7 y8 y9 y10 y11) (first_one.j2 (k + 1) y0 y1 y2 y3 y4 y5 y6 y7 y8 y9 y10 y11)) ∧ (∀ y0 y1 y2 y3 y4 y5 y6 y7 y8 y9 y10 y11 y12 y13 y14, LeO (first_one.l0 k y0 y1 y2 y3 y4 y5 y6 y7 y8 y9 y10 y11 y12 y13 y14) (first_one.l0 (k + 1) y0 y1 y2 y3 y4 y5 y6 y7 y8 y9 y10 y11 y12 y13 y14)) ∧ (∀ y0 y1 y2 y3 y4 y5 y6 y7 y8 y9 y10 y11 y12 y13 y14, LeO (first_one.j1 k y0 y1 y2 y3 y4 y5 y6 y7 y8 y9 y10 y11 y12 y13 y14) (first_one.j1 (k + 1) y0 y1 y2 y3 y4 y5 y6 y7 y8 y9 y10 y11 y12 y13 y14))
  | 0 => ⟨fun _ _ _ _ _ _ _ _ _ _ _ _ r h => by simp [first_one.j2] at h, fun _ _ _ _ _ _ _ _ _ _ _ _ _ _ _ r h => by simp [first_one.l0] at h, fun _ _ _ _ _ _ _ _ _ _ _ _ _ _ _ r h => by simp [first_one.j1] at h⟩
  | k + 1 => by
    obtain ⟨ih0, ih1, ih2⟩ := first_one.mono_l k; refine ⟨?_, ?_, ?_⟩
    · intro y0 y1 y2 y3 y4 y5 y6 y7 y8 y9 y10 y11
      unfold first_one.j2
      repeat' first
      | (with_reducible exact ih0 _ _ _ _ _ _ _ _ _ _ _ _)
      | (with_reducible exact ih1 _ _ _ _ _ _ _ _ _ _ _ _ _ _ _)
      | (with_reducible exact ih2 _ _ _ _ _ _ _ _ _ _ _ _ _ _ _)
      | (with_reducible exact span_Make.mono _ _ _ _ _ _ _)
      | (with_reducible exact span_Trim.mono _ _ _ _ _)
      | (with_reducible exact LeO.refl _)
      | (with_reducible exact LeO.none _)
      | (with_reducible refine LeO.ite ?_ ?_)
      | (with_reducible refine LeO.bind ?_ (fun _ => ?_))
      | exact ih0 _ _ _ _ _ _ _ _ _ _ _ _
      | exact ih1 _ _ _ _ _ _ _ _ _ _ _ _ _ _ _
      | exact ih2 _ _ _ _ _ _ _ _ _ _ _ _ _ _ _
      | exact span_Make.mono _ _ _ _ _ _ _
      | exact span_Trim.mono _ _ _ _ _
      | exact LeO.none _
      | refine LeO.ite ?_ ?_
      | refine LeO.bind ?_ (fun _ => ?_)
    · intro y0 y1 y2 y3 y4 y5 y6 y7 y8 y9 y10 y11 y12 y13 y14
      unfold first_one.l0
      repeat' first
      | (with_reducible exact ih0 _ _ _ _ _ _ _ _ _ _ _ _)
      | (with_reducible exact ih1 _ _ _ _ _ _ _ _ _ _ _ _ _ _ _)
      | (with_reducible exact ih2 _ _ _ _ _ _ _ _ _ _ _ _ _ _ _)
      | (with_reducible exact span_Make.mono _ _ _ _ _ _ _)
      | (with_reducible exact span_Trim.mono _ _ _ _ _)
      | (with_reducible exact LeO.refl _)
      | (with_reducible exact LeO.none _)
      | (with_reducible refine LeO.ite ?_ ?_)
      | (with_reducible refine LeO.bind ?_ (fun _ => ?_))
      | exact ih0 _ _ _ _ _ _ _ _ _ _ _ _
      | exact ih1 _ _ _ _ _ _ _ _ _ _ _ _ _ _ _
      | exact ih2 _ _ _ _ _ _ _ _ _ _ _ _ _ _ _
      | exact span_Make.mono _ _ _ _ _ _ _
      | exact span_Trim.mono _ _ _ _ _
      | exact LeO.none _
      | refine LeO.ite ?_ ?_
      | refine LeO.bind ?_ (fun _ => ?_)
    · intro y0 y1 y2 y3 y4 y5 y6 y7 y8 y9 y10 y11 y12 y13 y14
      unfold first_one.j1
      repeat' first
      | (with_reducible exact ih0 _ _ _ _ _ _ _ _ _ _ _ _)
      | (with_reducible exact ih1 _ _ _ _ _ _ _ _ _ _ _ _ _ _ _)
      | (with_reducible exact ih2 _ _ _ _ _ _ _ _ _ _ _ _ _ _ _)
      | (with_reducible exact span_Make.mono _ _ _ _ _ _ _)
      | (with_reducible exact span_Trim.mono _ _ _ _ _)
      | (with_reducible exact LeO.refl _)
      | (with_reducible exact LeO.none _)
      | (with_reducible refine LeO.ite ?_ ?_)
      | (with_reducible refine LeO.bind ?_ (fun _ => ?_))
      | exact ih0 _ _ _ _ _ _ _ _ _ _ _ _
      | exact ih1 _ _ _ _ _ _ _ _ _ _ _ _ _ _ _
      | exact ih2 _ _ _ _ _ _ _ _ _ _ _ _ _ _ _
      | exact span_Make.mono _ _ _ _ _ _ _
      | exact span_Trim.mono _ _ _ _ _
      | exact LeO.none _
      | refine LeO.ite ?_ ?_
      | refine LeO.bind ?_ (fun _ => ?_)
theorem first_one.mono : ∀ a0 a1 a2 a3 a4 a5 a6 a7 a8 a9 k, LeO (first_one.f k a0 a1 a2 a3 a4 a5 a6 a7 a8 a9) (first_one.f (k + 1) a0 a1 a2 a3 a4 a5 a6 a7 a8 a9) := by
  intro a0 a1 a2 a3 a4 a5 a6 a7 a8 a9 k
  obtain ⟨ih0, ih1, ih2⟩ := first_one.mono_l k; unfold first_one.f
  repeat' first
      | (with_reducible exact ih0 _ _ _ _ _ _ _ _ _ _ _ _)
      | (with_reducible exact ih1 _ _ _ _ _ _ _ _ _ _ _ _ _ _ _)
      | (with_reducible exact ih2 _ _ _ _ _ _ _ _ _ _ _ _ _ _ _)
      | (with_reducible exact span_Make.mono _ _ _ _ _ _ _)
      | (with_reducible exact span_Trim.mono _ _ _ _ _)
      | (with_reducible exact LeO.refl _)
      | (with_reducible exact LeO.none _)
      | (with_reducible refine LeO.ite ?_ ?_)
      | (with_reducible refine LeO.bind ?_ (fun _ => ?_))
      | exact ih0 _ _ _ _ _ _ _ _ _ _ _ _
      | exact ih1 _ _ _ _ _ _ _ _ _ _ _ _ _ _ _
      | exact ih2 _ _ _ _ _ _ _ _ _ _ _ _ _ _ _
      | exact span_Make.mono _ _ _ _ _ _ _
      | exact span_Trim.mono _ _ _ _ _
      | exact LeO.none _
      | refine LeO.ite ?_ ?_
      | refine LeO.bind ?_ (fun _ => ?_)
def first_one.T16 : Bool × List (List Nat × List Nat) := (true, [([], []), ([], []), ([], []), ([], []), ([3], [3]), ([], []), ([4, 5], [4, 5]), ([6], [6]), ([], []), ([8], [8]), ([0, 1, 2, 7, 9], [0, 1, 2, 7, 9]), ([10, 10, 0, 1, 2, 3, 4, 5, 6, 7, 8, 9, 10], [10])])
def first_one.B16 : List Nat := [0, 0, 0, 0, 8, 0, 56, 120, 0, 256, 1023, 2047]
theorem first_one.tab16 : rtab .any (opsOf Try.f28 16) = first_one.T16 := by kernel_rfl
theorem first_one.bits16 : waitsOk first_one.T16.2 first_one.B16 = true := by kernel_rfl
set_option maxHeartbeats 8000000 in
set_option maxRecDepth 100000 in
theorem first_one.calls (k : Nat) (A0_0 : Option Addr) (c0_0 : Nat) (l0_0 : List (S66)) (A0_1 : Option Addr) (c0_1 : Nat) (l0_1 : List Int) (a1 : Int) (a2 : Int) (a3_0 : Int) (a3_1 : Int) (a3_2 : Int) (a3_3 : Int) (a3_4 : Int) (a3_5 : Nat) (r1 : Int) (r2 : Int) (r3 : Int) (r4 : Int) (w : World) (hr0_0 : Kd.C k66 w A0_0 l0_0.length l0_0) (hc0_0 : l0_0.length ≤ c0_0) (hr0_1 : Kd.C (Kd.int .u8) w A0_1 l0_1.length l0_1) (hc0_1 : l0_1.length ≤ c0_1) (h : first_one.f k l0_0 l0_1 a1 a2 a3_0 a3_1 a3_2 a3_3 a3_4 a3_5 = some (r1, r2, r3, r4)) :
    Calls Try.prog 28 #[.agg #[.slice A0_0 l0_0.length c0_0, .slice A0_1 l0_1.length c0_1], .int .i64 a1, .int .i64 a2, .agg #[.int .i64 a3_0, .int .i64 a3_1, .int .u8 a3_2, .int .i64 a3_3, .int .i64 a3_4, .float .f64 a3_5]] w fun e w' => e = .returned (.agg #[.int .i64 r1, .int .i64 r2, .int .i64 r3, .int .u8 r4]) ∧ Below w.heap.size w w' := by
  have hu31 := Try.underlying31; have hu35 := Try.underlying35; have hu54 := Try.underlying54; have hu66 := Try.underlying66; have HR0_0 := zC.mk hr0_0; have HC0_0 := zC.mk hc0_0; clear hr0_0 hc0_0; have HR0_1 := zC.mk hr0_1; have HC0_1 := zC.mk hc0_1; clear hr0_1 hc0_1; have HB := zC.mk (Below.refl w.heap.size w); have H : (first_one.l0 k a1 a2 (-1) (wrap64 (a1 + 1)) 0 0 (wrap64 (a1 + 1)) l0_0 l0_1 a3_0 a3_1 a3_2 a3_3 a3_4 a3_5) = some (r1, r2, r3, r4) := h
  clear h; have HC5 := zC.mk H; clear H; go_enter Try.func28, Try.ntmps28
  go_upto_block 0 with (first | ((with_reducible refine gate_dst (N := 4) rfl ?_); refine box_event ?hg (N := 4) ?hd (cs := #[.slice A0_0 l0_0.length c0_0, .slice A0_1 l0_1.length c0_1]) (t := 31) ?hr ?_; (case hd => rfl); (case hg => rfl); (case hr => first | (go_simp; done) | (go_simp; rfl)); intro gb151 hg w6 hbox hb; have n0_ := zC.mk (zQ (by repeat (first | (with_reducible first | exact HB.out | apply zJ | apply zG | apply zI) | exact HB.out)) hb); have n1_ := zC.mk (hbox); have n2_ := zC.mk ((by rw [hg]; exact (zP (by repeat (first | (with_reducible first | exact HB.out | apply zJ | apply zG | apply zI) | exact HB.out))) : w.heap.size ≤ gb151)); have n3_ := zC.mk ((by rw [hg]; exact (zP (by repeat (first | (with_reducible first | exact HB.out | apply zJ | apply zG | apply zI) | exact HB.out))) : w.heap.size ≤ gb151)); clear HB; have HB := n0_; have BK151 := n1_; have GW151 := n2_; have GE151 := n3_; clear n0_ n1_ n2_ n3_; clear hb hbox hg) | ((with_reducible refine gate_dst (N := 7) rfl ?_); refine box_event ?hg (N := 7) ?hd (cs := #[.int .i64 a3_0, .int .i64 a3_1, .int .u8 a3_2, .int .i64 a3_3, .int .i64 a3_4, .float .f64 a3_5]) (t := 35) ?hr ?_; (case hd => rfl); (case hg => rfl); (case hr => first | (go_simp; done) | (go_simp; rfl)); intro gb152 hg w7 hbox hb; have n0_ := zC.mk (zK (g := gb151) (o := .cells #[.slice A0_0 l0_0.length c0_0, .slice A0_1 l0_1.length c0_1] 31 (0, 0)) (by (with_reducible repeat (first | refine zB ?_ _ | refine zD ?_ | refine zA ?_ _)); exact BK151.out) hb); have n1_ := zC.mk (zQ (by repeat (first | (with_reducible first | exact HB.out | apply zJ | apply zG | apply zI | refine zE ?_ GE151.out) | exact HB.out)) hb); have n2_ := zC.mk (hbox); have n3_ := zC.mk ((by rw [hg]; exact (zP (by repeat (first | (with_reducible first | exact HB.out | apply zJ | apply zG | apply zI | refine zE ?_ GE151.out) | exact HB.out))) : w.heap.size ≤ gb152)); have n4_ := zC.mk ((by rw [hg]; exact (zP (by repeat (first | (with_reducible first | exact HB.out | apply zJ | apply zG | apply zI | refine zE ?_ GE151.out) | exact HB.out))) : w.heap.size ≤ gb152)); have n5_ := zC.mk ((by rw [hg]; exact Nat.ne_of_lt (blk_lt (g := gb151) (o := .cells #[.slice A0_0 l0_0.length c0_0, .slice A0_1 l0_1.length c0_1] 31 (0, 0)) (by (with_reducible repeat (first | refine zB ?_ _ | refine zD ?_ | refine zA ?_ _)); exact BK151.out)) : gb151 ≠ gb152)); have n6_ := zC.mk ((by rw [hg]; exact Nat.ne_of_gt (blk_lt (g := gb151) (o := .cells #[.slice A0_0 l0_0.length c0_0, .slice A0_1 l0_1.length c0_1] 31 (0, 0)) (by (with_reducible repeat (first | refine zB ?_ _ | refine zD ?_ | refine zA ?_ _)); exact BK151.out)) : gb152 ≠ gb151)); clear BK151; clear HB; have BK151 := n0_; have HB := n1_; have BK152 := n2_; have GW152 := n3_; have GE152 := n4_; have NB151_152 := n5_; have NB152_151 := n6_; clear n0_ n1_ n2_ n3_ n4_ n5_ n6_; clear hb hbox hg) | ((with_reducible refine gate_dst (N := 8) rfl ?_); refine box_event ?hg (N := 8) ?hd (cs := #[.int .i64 0, .int .i64 0, .int .i64 0, .int .u8 0]) (t := 54) ?hr ?_; (case hd => rfl); (case hg => rfl); (case hr => first | (go_simp; done) | (go_simp; rfl)); intro gb153 hg w8 hbox hb; have n0_ := zC.mk (zK (g := gb151) (o := .cells #[.slice A0_0 l0_0.length c0_0, .slice A0_1 l0_1.length c0_1] 31 (0, 0)) (by (with_reducible repeat (first | refine zB ?_ _ | refine zD ?_ | refine zA ?_ _)); exact BK151.out) hb); have n1_ := zC.mk (zK (g := gb152) (o := .cells #[.int .i64 a3_0, .int .i64 a3_1, .int .u8 a3_2, .int .i64 a3_3, .int .i64 a3_4, .float .f64 a3_5] 35 (0, 0)) (by (with_reducible repeat (first | refine zB ?_ _ | refine zD ?_ | refine zA ?_ _)); exact BK152.out) hb); have n2_ := zC.mk (zQ (by repeat (first | (with_reducible first | exact HB.out | apply zJ | apply zG | apply zI | refine zE ?_ GE151.out | refine zE ?_ GE152.out) | exact HB.out)) hb); have n3_ := zC.mk (hbox); have n4_ := zC.mk ((by rw [hg]; exact (zP (by repeat (first | (with_reducible first | exact HB.out | apply zJ | apply zG | apply zI | refine zE ?_ GE151.out | refine zE ?_ GE152.out) | exact HB.out))) : w.heap.size ≤ gb153)); have n5_ := zC.mk ((by rw [hg]; exact (zP (by repeat (first | (with_reducible first | exact HB.out | apply zJ | apply zG | apply zI | refine zE ?_ GE151.out | refine zE ?_ GE152.out) | exact HB.out))) : w.heap.size ≤ gb153)); have n6_ := zC.mk ((by rw [hg]; exact Nat.ne_of_lt (blk_lt (g := gb151) (o := .cells #[.slice A0_0 l0_0.length c0_0, .slice A0_1 l0_1.length c0_1] 31 (0, 0)) (by (with_reducible repeat (first | refine zB ?_ _ | refine zD ?_ | refine zA ?_ _)); exact BK151.out)) : gb151 ≠ gb153)); have n7_ := zC.mk ((by rw [hg]; exact Nat.ne_of_gt (blk_lt (g := gb151) (o := .cells #[.slice A0_0 l0_0.length c0_0, .slice A0_1 l0_1.length c0_1] 31 (0, 0)) (by (with_reducible repeat (first | refine zB ?_ _ | refine zD ?_ | refine zA ?_ _)); exact BK151.out)) : gb153 ≠ gb151)); have n8_ := zC.mk ((by rw [hg]; exact Nat.ne_of_lt (blk_lt (g := gb152) (o := .cells #[.int .i64 a3_0, .int .i64 a3_1, .int .u8 a3_2, .int .i64 a3_3, .int .i64 a3_4, .float .f64 a3_5] 35 (0, 0)) (by (with_reducible repeat (first | refine zB ?_ _ | refine zD ?_ | refine zA ?_ _)); exact BK152.out)) : gb152 ≠ gb153)); have n9_ := zC.mk ((by rw [hg]; exact Nat.ne_of_gt (blk_lt (g := gb152) (o := .cells #[.int .i64 a3_0, .int .i64 a3_1, .int .u8 a3_2, .int .i64 a3_3, .int .i64 a3_4, .float .f64 a3_5] 35 (0, 0)) (by (with_reducible repeat (first | refine zB ?_ _ | refine zD ?_ | refine zA ?_ _)); exact BK152.out)) : gb153 ≠ gb152)); clear BK151; clear BK152; clear HB; have BK151 := n0_; have BK152 := n1_; have HB := n2_; have BK153 := n3_; have GW153 := n4_; have GE153 := n5_; have NB151_153 := n6_; have NB153_151 := n7_; have NB152_153 := n8_; have NB153_152 := n9_; clear n0_ n1_ n2_ n3_ n4_ n5_ n6_ n7_ n8_ n9_; clear hb hbox hg))
  (try simp only [Act.put, sA_, sB_, sC_])
  go_cut [9, 10] (fun v9 v10 wc => ∃ (kq : Nat) (x9_4 : Int) (x10_4 : Int), v9 = .int .i64 x9_4 ∧ v10 = .int .i64 x10_4 ∧ zC (first_one.j2 kq a1 a2 x9_4 x10_4 l0_0 l0_1 a3_0 a3_1 a3_2 a3_3 a3_4 a3_5 = some (r1, r2, r3, r4)) ∧ zC (kq ≤ k) ∧ zC (wc.heap[gb151]? = some (.cells #[(.slice A0_0 l0_0.length c0_0), (.slice A0_1 l0_1.length c0_1)] 31 (0, 0))) ∧ zC (wc.heap[gb152]? = some (.cells #[.int .i64 a3_0, .int .i64 a3_1, .int .u8 a3_2, .int .i64 a3_3, .int .i64 a3_4, .float .f64 a3_5] 35 (0, 0))) ∧ zC (wc.heap[gb153]? = some (.cells #[.int .i64 0, .int .i64 0, .int .i64 0, .int .u8 0] 54 (0, 0))) ∧ zC (Below w.heap.size w wc))
  case first =>
    have H := HC5.out; clear HC5; have H' := zC.mk H
    clear H; go_wp2
    go_loopg [9, 10, 11, 12, 13] k (fun kq v9 v10 v11 v12 v13 w' => ∃ (x9_1 : Int) (x10_1 : Int) (x11_1 : Int) (x12_1 : Int) (x13_1 : Int), v9 = .int .i64 x9_1 ∧ v10 = .int .i64 x10_1 ∧ v11 = .int .i64 x11_1 ∧ v12 = .int .i64 x12_1 ∧ v13 = .int .i64 x13_1 ∧ zC (first_one.l0 kq a1 a2 x9_1 x10_1 x11_1 x12_1 x13_1 l0_0 l0_1 a3_0 a3_1 a3_2 a3_3 a3_4 a3_5 = some (r1, r2, r3, r4)) ∧ zC (kq ≤ k) ∧ zC (w'.heap[gb151]? = some (.cells #[(.slice A0_0 l0_0.length c0_0), (.slice A0_1 l0_1.length c0_1)] 31 (0, 0))) ∧ zC (w'.heap[gb152]? = some (.cells #[.int .i64 a3_0, .int .i64 a3_1, .int .u8 a3_2, .int .i64 a3_3, .int .i64 a3_4, .float .f64 a3_5] 35 (0, 0))) ∧ zC (w'.heap[gb153]? = some (.cells #[.int .i64 0, .int .i64 0, .int .i64 0, .int .u8 0] 54 (0, 0))) ∧ zC (Below w.heap.size w w'))
    case atStart => exact ⟨((-1)), (wrap64 (a1 + 1)), (0), (0), (wrap64 (a1 + 1)), (by first | rfl | (simp; done) | (simp [*]; done)), (by first | rfl | (simp; done) | (simp [*]; done)), (by first | rfl | (simp; done) | (simp [*]; done)), (by first | rfl | (simp; done) | (simp [*]; done)), (by first | rfl | (simp; done) | (simp [*]; done)), H', ⟨Nat.le_refl _⟩, ⟨by (with_reducible repeat (first | refine zB ?_ _ | refine zD ?_ | refine zA ?_ _)); exact BK151.out⟩, ⟨by (with_reducible repeat (first | refine zB ?_ _ | refine zD ?_ | refine zA ?_ _)); exact BK152.out⟩, ⟨by (with_reducible repeat (first | refine zB ?_ _ | refine zD ?_ | refine zA ?_ _)); exact BK153.out⟩, ⟨by repeat (first | (with_reducible first | exact HB.out | apply zJ | apply zG | apply zI | refine zE ?_ GE151.out | refine zE ?_ GE152.out | refine zE ?_ GE153.out) | exact HB.out)⟩⟩
    clear H'; try clear c2
    try clear p2
    try clear p6
    obtain ⟨x9_1, x10_1, x11_1, x12_1, x13_1, rfl, rfl, rfl, rfl, rfl, HA, HK1, BK151, BK152, BK153, HB⟩ := hrel; cases gk with
    | zero => exact absurd HA.out (by simp [first_one.l0])
    | succ k1 =>
      have H := HA.out; clear HA; simp only [first_one.l0] at H; by_cases c9 : x13_1 ≤ a2
      rotate_left
      · rw [if_neg c9] at H
        have c9b0 : decide (x13_1 ≤ a2) = false := decide_eq_false c9
        clear c9; (first | rw [c9b0] | (simp only [zL, zM]; rw [c9b0]) | skip)
        have H' := zC.mk H
        clear H; go_wp2
        go_meet
        case rel => exact ⟨_, (x9_1), (x10_1), (by first | rfl | (simp; done) | (simp [*]; done)), (by first | rfl | (simp; done) | (simp [*]; done)), H', ⟨by have := HK1.out; first | omega | exact Nat.le_refl _⟩, ⟨by (with_reducible repeat (first | refine zB ?_ _ | refine zD ?_ | refine zA ?_ _)); exact BK151.out⟩, ⟨by (with_reducible repeat (first | refine zB ?_ _ | refine zD ?_ | refine zA ?_ _)); exact BK152.out⟩, ⟨by (with_reducible repeat (first | refine zB ?_ _ | refine zD ?_ | refine zA ?_ _)); exact BK153.out⟩, ⟨by repeat (first | (with_reducible first | exact HB.out | apply zJ | apply zG | apply zI | refine zE ?_ GE151.out | refine zE ?_ GE152.out | refine zE ?_ GE153.out) | exact HB.out)⟩⟩
      rw [if_pos c9] at H; have c9b0 : decide (x13_1 ≤ a2) = true := decide_eq_true c9
      clear c9; (first | rw [c9b0] | (simp only [zL, zM]; rw [c9b0]) | skip)
      obtain ⟨ji10, hji10⟩ : ∃ j_ : Int, (wrap64 (x13_1 - 1)) = j_ := ⟨_, rfl⟩; replace H : (if 0 ≤ (ji10) then (if (ji10) < (l0_0.length : Int) then ((span_Next.f ((rd_T66 l0_0 (ji10)).f0) ((rd_T66 l0_0 (ji10)).f1) ((rd_T66 l0_0 (ji10)).f2) ((rd_T66 l0_0 (ji10)).f3) x11_1 a3_1).bind fun t156 => ((span_Trim.f k1 l0_0 l0_1 (ji10) x13_1).bind fun t157 => (if t157 = x13_1 then (first_one.j1 k1 a1 a2 x9_1 x10_1 t156 t156 x13_1 l0_0 l0_1 a3_0 a3_1 a3_2 a3_3 a3_4 a3_5) else (first_one.j1 k1 a1 a2 x9_1 x10_1 t156 x12_1 x13_1 l0_0 l0_1 a3_0 a3_1 a3_2 a3_3 a3_4 a3_5)))) else (none)) else (none)) = some (r1, r2, r3, r4) := by first | (rw [hji10] at H; exact H) | (simp only [hji10] at H ⊢; exact H)
      have hji10w : (IntKind.i64.wrap (x13_1 - 1)) = ji10 := (zL _).trans hji10
      by_cases c11 : 0 ≤ (ji10)
      rotate_left
      · rw [if_neg c11] at H
        exact absurd H (by simp)
      rw [if_pos c11] at H; have c11b0 : decide (0 ≤ (ji10)) = true := decide_eq_true c11
      clear c11; by_cases c12 : (ji10) < (l0_0.length : Int)
      rotate_left
      · rw [if_neg c12] at H
        exact absurd H (by simp)
      rw [if_pos c12] at H; have c12b0 : decide ((ji10) < (l0_0.length : Int)) = true := decide_eq_true c12
      clear c12; replace H := Option.bind_eq_some_iff.mp H; obtain ⟨t156, A130, H⟩ := H; replace H : ((span_Trim.f k1 l0_0 l0_1 (ji10) x13_1).bind fun t157 => (if t157 = x13_1 then (first_one.j1 k1 a1 a2 x9_1 x10_1 t156 t156 x13_1 l0_0 l0_1 a3_0 a3_1 a3_2 a3_3 a3_4 a3_5) else (first_one.j1 k1 a1 a2 x9_1 x10_1 t156 x12_1 x13_1 l0_0 l0_1 a3_0 a3_1 a3_2 a3_3 a3_4 a3_5))) = some (r1, r2, r3, r4) := H
      have A13 := zC.mk A130; clear A130; replace H := Option.bind_eq_some_iff.mp H; obtain ⟨t157, A140, H⟩ := H; replace H : (if t157 = x13_1 then (first_one.j1 k1 a1 a2 x9_1 x10_1 t156 t156 x13_1 l0_0 l0_1 a3_0 a3_1 a3_2 a3_3 a3_4 a3_5) else (first_one.j1 k1 a1 a2 x9_1 x10_1 t156 x12_1 x13_1 l0_0 l0_1 a3_0 a3_1 a3_2 a3_3 a3_4 a3_5)) = some (r1, r2, r3, r4) := H; have A14 := zC.mk A140; clear A140; have HC15 := zC.mk H; clear H; have hnb16 := NB151_152.out; have hnc16 := NB152_151.out; have hnb17 := NB151_153.out; have hnc17 := NB153_151.out; have hcz18_0 : wr.cell? ⟨gb151, 0, none⟩ = some (.slice A0_0 l0_0.length c0_0) := (zF BK151.out 0).trans rfl
      have hcz18_1 : wr.cell? ⟨gb151, 1, none⟩ = some (.slice A0_1 l0_1.length c0_1) := (zF BK151.out 1).trans rfl
      have hfz18_0 := zH BK151.out 0; have hfz18_1 := zH BK151.out 1; have p154 : 0 ≤ ((ji10) : Int) := of_decide_eq_true (by first | (with_reducible assumption) | assumption)
      have q154 : (ji10) < (l0_0.length : Int) := of_decide_eq_true (by first | (with_reducible assumption) | assumption)
      obtain ⟨ad154, e154, hx154_0, hx154_1, hx154_2, hx154_3⟩ := at_T66 HR0_0.out (ji10) p154 q154; cases e154
      replace hx154_0 := (HB.out.cell (World.block_lt_of_cell? w _ hx154_0)).trans hx154_0; replace hx154_1 := (HB.out.cell (World.block_lt_of_cell? w _ hx154_1)).trans hx154_1; replace hx154_2 := (HB.out.cell (World.block_lt_of_cell? w _ hx154_2)).trans hx154_2; replace hx154_3 := (HB.out.cell (World.block_lt_of_cell? w _ hx154_3)).trans hx154_3; replace p154 := eq_true p154; replace q154 := eq_true q154; go_upto_if 44 with (first | ((with_reducible refine gate_dst (N := 14) rfl ?_); refine box_event ?hg (N := 14) ?hd (cs := #[.int .i64 0, .int .i64 0, .int .i64 0, .int .u8 0]) (t := 66) ?hr ?_; (case hd => rfl); (case hg => rfl); (case hr => first | (go_simp; done) | (go_simp; rfl)); intro gb155 hg w19 hbox hb; have n0_ := zC.mk (zK (g := gb151) (o := .cells #[.slice (some ad154) l0_0.length c0_0, .slice A0_1 l0_1.length c0_1] 31 (0, 0)) (by (with_reducible repeat (first | refine zB ?_ _ | refine zD ?_ | refine zA ?_ _)); exact BK151.out) hb); have n1_ := zC.mk (zK (g := gb152) (o := .cells #[.int .i64 a3_0, .int .i64 a3_1, .int .u8 a3_2, .int .i64 a3_3, .int .i64 a3_4, .float .f64 a3_5] 35 (0, 0)) (by (with_reducible repeat (first | refine zB ?_ _ | refine zD ?_ | refine zA ?_ _)); exact BK152.out) hb); have n2_ := zC.mk (zK (g := gb153) (o := .cells #[.int .i64 0, .int .i64 0, .int .i64 0, .int .u8 0] 54 (0, 0)) (by (with_reducible repeat (first | refine zB ?_ _ | refine zD ?_ | refine zA ?_ _)); exact BK153.out) hb); have n3_ := zC.mk (zQ (by repeat (first | (with_reducible first | exact HB.out | apply zJ | apply zG | apply zI | refine zE ?_ GE151.out | refine zE ?_ GE152.out | refine zE ?_ GE153.out) | exact HB.out)) hb); have n4_ := zC.mk (hbox); have n5_ := zC.mk ((by rw [hg]; exact (zP (by repeat (first | (with_reducible first | exact HB.out | apply zJ | apply zG | apply zI | refine zE ?_ GE151.out | refine zE ?_ GE152.out | refine zE ?_ GE153.out) | exact HB.out))) : w.heap.size ≤ gb155)); have n6_ := zC.mk ((by rw [hg]; exact (zP (by repeat (first | (with_reducible first | exact HB.out | apply zJ | apply zG | apply zI | refine zE ?_ GE151.out | refine zE ?_ GE152.out | refine zE ?_ GE153.out) | exact HB.out))) : w.heap.size ≤ gb155)); have n7_ := zC.mk ((by rw [hg]; exact Nat.ne_of_lt (blk_lt (g := gb151) (o := .cells #[.slice (some ad154) l0_0.length c0_0, .slice A0_1 l0_1.length c0_1] 31 (0, 0)) (by (with_reducible repeat (first | refine zB ?_ _ | refine zD ?_ | refine zA ?_ _)); exact BK151.out)) : gb151 ≠ gb155)); have n8_ := zC.mk ((by rw [hg]; exact Nat.ne_of_gt (blk_lt (g := gb151) (o := .cells #[.slice (some ad154) l0_0.length c0_0, .slice A0_1 l0_1.length c0_1] 31 (0, 0)) (by (with_reducible repeat (first | refine zB ?_ _ | refine zD ?_ | refine zA ?_ _)); exact BK151.out)) : gb155 ≠ gb151)); have n9_ := zC.mk ((by rw [hg]; exact Nat.ne_of_lt (blk_lt (g := gb152) (o := .cells #[.int .i64 a3_0, .int .i64 a3_1, .int .u8 a3_2, .int .i64 a3_3, .int .i64 a3_4, .float .f64 a3_5] 35 (0, 0)) (by (with_reducible repeat (first | refine zB ?_ _ | refine zD ?_ | refine zA ?_ _)); exact BK152.out)) : gb152 ≠ gb155)); have n10_ := zC.mk ((by rw [hg]; exact Nat.ne_of_gt (blk_lt (g := gb152) (o := .cells #[.int .i64 a3_0, .int .i64 a3_1, .int .u8 a3_2, .int .i64 a3_3, .int .i64 a3_4, .float .f64 a3_5] 35 (0, 0)) (by (with_reducible repeat (first | refine zB ?_ _ | refine zD ?_ | refine zA ?_ _)); exact BK152.out)) : gb155 ≠ gb152)); have n11_ := zC.mk ((by rw [hg]; exact Nat.ne_of_lt (blk_lt (g := gb153) (o := .cells #[.int .i64 0, .int .i64 0, .int .i64 0, .int .u8 0] 54 (0, 0)) (by (with_reducible repeat (first | refine zB ?_ _ | refine zD ?_ | refine zA ?_ _)); exact BK153.out)) : gb153 ≠ gb155)); have n12_ := zC.mk ((by rw [hg]; exact Nat.ne_of_gt (blk_lt (g := gb153) (o := .cells #[.int .i64 0, .int .i64 0, .int .i64 0, .int .u8 0] 54 (0, 0)) (by (with_reducible repeat (first | refine zB ?_ _ | refine zD ?_ | refine zA ?_ _)); exact BK153.out)) : gb155 ≠ gb153)); clear BK151; clear BK152; clear BK153; clear HB; have BK151 := n0_; have BK152 := n1_; have BK153 := n2_; have HB := n3_; have BK155 := n4_; have GW155 := n5_; have GE155 := n6_; have NB151_155 := n7_; have NB155_151 := n8_; have NB152_155 := n9_; have NB155_152 := n10_; have NB153_155 := n11_; have NB155_153 := n12_; clear n0_ n1_ n2_ n3_ n4_ n5_ n6_ n7_ n8_ n9_ n10_ n11_ n12_; clear hb hbox hg; have hnb20 := NB155_151.out; have hnc20 := NB151_155.out; have hnb21 := NB155_152.out; have hnc21 := NB152_155.out; have hnb22 := NB155_153.out; have hnc22 := NB153_155.out; have hcz23_0 : w19.cell? ⟨gb155, 0, none⟩ = some (.int .i64 0) := (zF BK155.out 0).trans rfl; have hcz23_1 : w19.cell? ⟨gb155, 1, none⟩ = some (.int .i64 0) := (zF BK155.out 1).trans rfl; have hcz23_2 : w19.cell? ⟨gb155, 2, none⟩ = some (.int .i64 0) := (zF BK155.out 2).trans rfl; have hcz23_3 : w19.cell? ⟨gb155, 3, none⟩ = some (.int .u8 0) := (zF BK155.out 3).trans rfl; have hfz23_0 := zH BK155.out 0; have hfz23_1 := zH BK155.out 1; have hfz23_2 := zH BK155.out 2; have hfz23_3 := zH BK155.out 3) | ((with_reducible refine gate_store (t := 66) (p := 14) rfl ?_); refine store_event (t := 66) (p := 14) (v := ?vo_w24) (w1 := ((((w19.setCell ⟨gb155, 0, none⟩ (.int .i64 ((rd_T66 l0_0 (ji10)).f0))).setCell ⟨gb155, 1, none⟩ (.int .i64 ((rd_T66 l0_0 (ji10)).f1))).setCell ⟨gb155, 2, none⟩ (.int .i64 ((rd_T66 l0_0 (ji10)).f2))).setCell ⟨gb155, 3, none⟩ (.int .u8 ((rd_T66 l0_0 (ji10)).f3)))) ?hg ?ho ?hn ?hr ?_; (case ho => rfl); (case hg => rfl); (case hn => rfl); (case hr => first | (go_simp; done) | (go_simp; rfl)); intro w24 hw; have n0_ : zC (w24.heap[gb151]? = some (.cells #[.slice (some ad154) l0_0.length c0_0, .slice A0_1 l0_1.length c0_1] 31 (0, 0))) := ⟨(by rw [hw]; exact (by (with_reducible repeat (first | refine zB ?_ _ | refine zD ?_ | refine zA ?_ _)); refine zO ?_ NB151_155.out _; (with_reducible repeat (first | refine zB ?_ _ | refine zD ?_ | refine zA ?_ _)); refine zO ?_ NB151_155.out _; (with_reducible repeat (first | refine zB ?_ _ | refine zD ?_ | refine zA ?_ _)); refine zO ?_ NB151_155.out _; (with_reducible repeat (first | refine zB ?_ _ | refine zD ?_ | refine zA ?_ _)); refine zO ?_ NB151_155.out _; (with_reducible repeat (first | refine zB ?_ _ | refine zD ?_ | refine zA ?_ _)); exact BK151.out))⟩; have n1_ : zC (w24.heap[gb152]? = some (.cells #[.int .i64 a3_0, .int .i64 a3_1, .int .u8 a3_2, .int .i64 a3_3, .int .i64 a3_4, .float .f64 a3_5] 35 (0, 0))) := ⟨(by rw [hw]; exact (by (with_reducible repeat (first | refine zB ?_ _ | refine zD ?_ | refine zA ?_ _)); refine zO ?_ NB152_155.out _; (with_reducible repeat (first | refine zB ?_ _ | refine zD ?_ | refine zA ?_ _)); refine zO ?_ NB152_155.out _; (with_reducible repeat (first | refine zB ?_ _ | refine zD ?_ | refine zA ?_ _)); refine zO ?_ NB152_155.out _; (with_reducible repeat (first | refine zB ?_ _ | refine zD ?_ | refine zA ?_ _)); refine zO ?_ NB152_155.out _; (with_reducible repeat (first | refine zB ?_ _ | refine zD ?_ | refine zA ?_ _)); exact BK152.out))⟩; have n2_ : zC (w24.heap[gb153]? = some (.cells #[.int .i64 0, .int .i64 0, .int .i64 0, .int .u8 0] 54 (0, 0))) := ⟨(by rw [hw]; exact (by (with_reducible repeat (first | refine zB ?_ _ | refine zD ?_ | refine zA ?_ _)); refine zO ?_ NB153_155.out _; (with_reducible repeat (first | refine zB ?_ _ | refine zD ?_ | refine zA ?_ _)); refine zO ?_ NB153_155.out _; (with_reducible repeat (first | refine zB ?_ _ | refine zD ?_ | refine zA ?_ _)); refine zO ?_ NB153_155.out _; (with_reducible repeat (first | refine zB ?_ _ | refine zD ?_ | refine zA ?_ _)); refine zO ?_ NB153_155.out _; (with_reducible repeat (first | refine zB ?_ _ | refine zD ?_ | refine zA ?_ _)); exact BK153.out))⟩; have n3_ : zC (w24.heap[gb155]? = some (.cells #[.int .i64 ((rd_T66 l0_0 (ji10)).f0), .int .i64 ((rd_T66 l0_0 (ji10)).f1), .int .i64 ((rd_T66 l0_0 (ji10)).f2), .int .u8 ((rd_T66 l0_0 (ji10)).f3)] 66 (0, 0))) := ⟨(by rw [hw]; exact (by (with_reducible repeat (first | refine zB ?_ _ | refine zD ?_ | refine zA ?_ _)); refine blk_put (cs := #[.int .i64 ((rd_T66 l0_0 (ji10)).f0), .int .i64 ((rd_T66 l0_0 (ji10)).f1), .int .i64 ((rd_T66 l0_0 (ji10)).f2), .int .u8 0]) ?_ 3 _ rfl; (with_reducible repeat (first | refine zB ?_ _ | refine zD ?_ | refine zA ?_ _)); refine blk_put (cs := #[.int .i64 ((rd_T66 l0_0 (ji10)).f0), .int .i64 ((rd_T66 l0_0 (ji10)).f1), .int .i64 0, .int .u8 0]) ?_ 2 _ rfl; (with_reducible repeat (first | refine zB ?_ _ | refine zD ?_ | refine zA ?_ _)); refine blk_put (cs := #[.int .i64 ((rd_T66 l0_0 (ji10)).f0), .int .i64 0, .int .i64 0, .int .u8 0]) ?_ 1 _ rfl; (with_reducible repeat (first | refine zB ?_ _ | refine zD ?_ | refine zA ?_ _)); refine blk_put (cs := #[.int .i64 0, .int .i64 0, .int .i64 0, .int .u8 0]) ?_ 0 _ rfl; (with_reducible repeat (first | refine zB ?_ _ | refine zD ?_ | refine zA ?_ _)); exact BK155.out))⟩; have n4_ : zC (Below w.heap.size w w24) := ⟨(by rw [hw]; exact (by repeat (first | (with_reducible first | exact HB.out | apply zJ | apply zG | apply zI | refine zE ?_ GE151.out | refine zE ?_ GE152.out | refine zE ?_ GE153.out | refine zE ?_ GE155.out) | exact HB.out)))⟩; clear hw; clear BK151; clear BK152; clear BK153; clear BK155; clear HB; have BK151 := n0_; have BK152 := n1_; have BK153 := n2_; have BK155 := n3_; have HB := n4_; clear n0_ n1_ n2_ n3_ n4_; have hcz25_0 : w24.cell? ⟨gb155, 0, none⟩ = some (.int .i64 ((rd_T66 l0_0 (ji10)).f0)) := (zF BK155.out 0).trans rfl; have hcz25_1 : w24.cell? ⟨gb155, 1, none⟩ = some (.int .i64 ((rd_T66 l0_0 (ji10)).f1)) := (zF BK155.out 1).trans rfl; have hcz25_2 : w24.cell? ⟨gb155, 2, none⟩ = some (.int .i64 ((rd_T66 l0_0 (ji10)).f2)) := (zF BK155.out 2).trans rfl; have hcz25_3 : w24.cell? ⟨gb155, 3, none⟩ = some (.int .u8 ((rd_T66 l0_0 (ji10)).f3)) := (zF BK155.out 3).trans rfl; have hfz25_0 := zH BK155.out 0; have hfz25_1 := zH BK155.out 1; have hfz25_2 := zH BK155.out 2; have hfz25_3 := zH BK155.out 3; have hnb26 := NB152_153.out; have hnc26 := NB153_152.out; have hcz27_0 : w24.cell? ⟨gb152, 0, none⟩ = some (.int .i64 a3_0) := (zF BK152.out 0).trans rfl; have hcz27_1 : w24.cell? ⟨gb152, 1, none⟩ = some (.int .i64 a3_1) := (zF BK152.out 1).trans rfl; have hcz27_2 : w24.cell? ⟨gb152, 2, none⟩ = some (.int .u8 a3_2) := (zF BK152.out 2).trans rfl; have hcz27_3 : w24.cell? ⟨gb152, 3, none⟩ = some (.int .i64 a3_3) := (zF BK152.out 3).trans rfl; have hcz27_4 : w24.cell? ⟨gb152, 4, none⟩ = some (.int .i64 a3_4) := (zF BK152.out 4).trans rfl; have hcz27_5 : w24.cell? ⟨gb152, 5, none⟩ = some (.float .f64 a3_5) := (zF BK152.out 5).trans rfl; have hfz27_0 := zH BK152.out 0; have hfz27_1 := zH BK152.out 1; have hfz27_2 := zH BK152.out 2; have hfz27_3 := zH BK152.out 3; have hfz27_4 := zH BK152.out 4; have hfz27_5 := zH BK152.out 5) | ((with_reducible refine gate_callee (f := 38) rfl ?_); refine goesL_ (some 37) rfl rfl Try.func38 (by kernel_rfl) rfl #[.agg #[.int .i64 ((rd_T66 l0_0 (ji10)).f0), .int .i64 ((rd_T66 l0_0 (ji10)).f1), .int .i64 ((rd_T66 l0_0 (ji10)).f2), .int .u8 ((rd_T66 l0_0 (ji10)).f3)], .int .i64 x11_1, .int .i64 a3_1] rfl (by (try simp only [List.map_toArray, List.map_cons, List.map_nil]); first | done | (simp only [hji10]; rfl) | rfl | (simp only [List.length_drop, List.length_take]; rfl)) ?_; (with_reducible refine (span_Next.calls ((rd_T66 l0_0 (ji10)).f0) ((rd_T66 l0_0 (ji10)).f1) ((rd_T66 l0_0 (ji10)).f2) ((rd_T66 l0_0 (ji10)).f3) x11_1 a3_1 t156 _ A13.out).mono ?_); rintro e w28 ⟨rfl, hb⟩; refine ⟨_, rfl, ?_⟩; have n0_ := zC.mk (zK (g := gb151) (o := .cells #[.slice (some ad154) l0_0.length c0_0, .slice A0_1 l0_1.length c0_1] 31 (0, 0)) (by (with_reducible repeat (first | refine zB ?_ _ | refine zD ?_ | refine zA ?_ _)); exact BK151.out) hb); have n1_ := zC.mk (zK (g := gb152) (o := .cells #[.int .i64 a3_0, .int .i64 a3_1, .int .u8 a3_2, .int .i64 a3_3, .int .i64 a3_4, .float .f64 a3_5] 35 (0, 0)) (by (with_reducible repeat (first | refine zB ?_ _ | refine zD ?_ | refine zA ?_ _)); exact BK152.out) hb); have n2_ := zC.mk (zK (g := gb153) (o := .cells #[.int .i64 0, .int .i64 0, .int .i64 0, .int .u8 0] 54 (0, 0)) (by (with_reducible repeat (first | refine zB ?_ _ | refine zD ?_ | refine zA ?_ _)); exact BK153.out) hb); have n3_ := zC.mk (zK (g := gb155) (o := .cells #[.int .i64 ((rd_T66 l0_0 (ji10)).f0), .int .i64 ((rd_T66 l0_0 (ji10)).f1), .int .i64 ((rd_T66 l0_0 (ji10)).f2), .int .u8 ((rd_T66 l0_0 (ji10)).f3)] 66 (0, 0)) (by (with_reducible repeat (first | refine zB ?_ _ | refine zD ?_ | refine zA ?_ _)); exact BK155.out) hb); have n4_ := zC.mk (zQ (by repeat (first | (with_reducible first | exact HB.out | apply zJ | apply zG | apply zI | refine zE ?_ GE151.out | refine zE ?_ GE152.out | refine zE ?_ GE153.out | refine zE ?_ GE155.out) | exact HB.out)) hb); clear BK151; clear BK152; clear BK153; clear BK155; clear HB; have BK151 := n0_; have BK152 := n1_; have BK153 := n2_; have BK155 := n3_; have HB := n4_; clear n0_ n1_ n2_ n3_ n4_; (try clear hb); (try clear hb2); (try clear hk); (try clear hi); have hcz29_0 : w28.cell? ⟨gb151, 0, none⟩ = some (.slice (some ad154) l0_0.length c0_0) := (zF BK151.out 0).trans rfl; have hcz29_1 : w28.cell? ⟨gb151, 1, none⟩ = some (.slice A0_1 l0_1.length c0_1) := (zF BK151.out 1).trans rfl; have hfz29_0 := zH BK151.out 0; have hfz29_1 := zH BK151.out 1) | ((with_reducible refine gate_callee (f := 39) rfl ?_); refine goesL_ (some 42) rfl rfl Try.func39 (by kernel_rfl) rfl #[.agg #[.slice (some ad154) l0_0.length c0_0, .slice A0_1 l0_1.length c0_1], .int .i64 ji10, .int .i64 x13_1] rfl (by (try simp only [List.map_toArray, List.map_cons, List.map_nil]); first | done | (simp only [hji10]; rfl) | rfl | (simp only [List.length_drop, List.length_take]; rfl)) ?_; (with_reducible refine (span_Trim.calls k1 _ _ l0_0 _ _ l0_1 ji10 x13_1 t157 _ ?side1 ?side2 ?side3 ?side4 A14.out).mono ?_); (case side1 => repeat (first | exact (Kd.C_below HR0_0.out HB.out) | (with_reducible refine Kd.C_alloc ?_ _) | (with_reducible refine Kd.C_drewN ?_ _) | (with_reducible refine Kd.C_drew ?_))); (case side2 => exact HC0_0.out); (case side3 => repeat (first | exact (Kd.C_below HR0_1.out HB.out) | (with_reducible refine Kd.C_alloc ?_ _) | (with_reducible refine Kd.C_drewN ?_ _) | (with_reducible refine Kd.C_drew ?_))); (case side4 => exact HC0_1.out); rintro e w30 ⟨rfl, hb⟩; refine ⟨_, rfl, ?_⟩; have n0_ := zC.mk (zK (g := gb151) (o := .cells #[.slice (some ad154) l0_0.length c0_0, .slice A0_1 l0_1.length c0_1] 31 (0, 0)) (by (with_reducible repeat (first | refine zB ?_ _ | refine zD ?_ | refine zA ?_ _)); exact BK151.out) hb); have n1_ := zC.mk (zK (g := gb152) (o := .cells #[.int .i64 a3_0, .int .i64 a3_1, .int .u8 a3_2, .int .i64 a3_3, .int .i64 a3_4, .float .f64 a3_5] 35 (0, 0)) (by (with_reducible repeat (first | refine zB ?_ _ | refine zD ?_ | refine zA ?_ _)); exact BK152.out) hb); have n2_ := zC.mk (zK (g := gb153) (o := .cells #[.int .i64 0, .int .i64 0, .int .i64 0, .int .u8 0] 54 (0, 0)) (by (with_reducible repeat (first | refine zB ?_ _ | refine zD ?_ | refine zA ?_ _)); exact BK153.out) hb); have n3_ := zC.mk (zK (g := gb155) (o := .cells #[.int .i64 ((rd_T66 l0_0 (ji10)).f0), .int .i64 ((rd_T66 l0_0 (ji10)).f1), .int .i64 ((rd_T66 l0_0 (ji10)).f2), .int .u8 ((rd_T66 l0_0 (ji10)).f3)] 66 (0, 0)) (by (with_reducible repeat (first | refine zB ?_ _ | refine zD ?_ | refine zA ?_ _)); exact BK155.out) hb); have n4_ := zC.mk (zQ (by repeat (first | (with_reducible first | exact HB.out | apply zJ | apply zG | apply zI | refine zE ?_ GE151.out | refine zE ?_ GE152.out | refine zE ?_ GE153.out | refine zE ?_ GE155.out) | exact HB.out)) hb); clear BK151; clear BK152; clear BK153; clear BK155; clear HB; have BK151 := n0_; have BK152 := n1_; have BK153 := n2_; have BK155 := n3_; have HB := n4_; clear n0_ n1_ n2_ n3_ n4_; (try clear hb); (try clear hb2); (try clear hk); (try clear hi)))
      (try simp only [Act.put, sA_, sB_, sC_])
      go_cut [12] (fun v12 wc => ∃ (kq : Nat) (x12_14 : Int), v12 = .int .i64 x12_14 ∧ zC (first_one.j1 kq a1 a2 x9_1 x10_1 t156 x12_14 x13_1 l0_0 l0_1 a3_0 a3_1 a3_2 a3_3 a3_4 a3_5 = some (r1, r2, r3, r4)) ∧ zC (kq ≤ k1) ∧ zC (wc.heap[gb151]? = some (.cells #[(.slice (some ad154) l0_0.length c0_0), (.slice A0_1 l0_1.length c0_1)] 31 (0, 0))) ∧ zC (wc.heap[gb152]? = some (.cells #[.int .i64 a3_0, .int .i64 a3_1, .int .u8 a3_2, .int .i64 a3_3, .int .i64 a3_4, .float .f64 a3_5] 35 (0, 0))) ∧ zC (wc.heap[gb153]? = some (.cells #[.int .i64 0, .int .i64 0, .int .i64 0, .int .u8 0] 54 (0, 0))) ∧ zC (wc.heap[gb155]? = some (.cells #[.int .i64 ((rd_T66 l0_0 (ji10)).f0), .int .i64 ((rd_T66 l0_0 (ji10)).f1), .int .i64 ((rd_T66 l0_0 (ji10)).f2), .int .u8 ((rd_T66 l0_0 (ji10)).f3)] 66 (0, 0))) ∧ zC (Below w.heap.size w wc))
      case first =>
        have H := HC15.out; clear HC15; by_cases c31 : t157 = x13_1
        · rw [if_pos c31] at H
          have c31b0 : (t157 == x13_1) = true := beq_iff_eq.mpr c31
          have c31b1 : (t157 != x13_1) = false := bne_eq_false_iff_eq.mpr c31
          clear c31; (first | rw [c31b0] | (simp only [zL, zM]; rw [c31b0]) | skip)
          have H' := zC.mk H
          clear H; go_wp2
          go_meet
          case rel => exact ⟨_, (t156), (by first | rfl | (simp; done) | (simp [*]; done)), H', ⟨by have := HK1.out; first | omega | exact Nat.le_refl _⟩, ⟨by (with_reducible repeat (first | refine zB ?_ _ | refine zD ?_ | refine zA ?_ _)); exact BK151.out⟩, ⟨by (with_reducible repeat (first | refine zB ?_ _ | refine zD ?_ | refine zA ?_ _)); exact BK152.out⟩, ⟨by (with_reducible repeat (first | refine zB ?_ _ | refine zD ?_ | refine zA ?_ _)); exact BK153.out⟩, ⟨by (with_reducible repeat (first | refine zB ?_ _ | refine zD ?_ | refine zA ?_ _)); exact BK155.out⟩, ⟨by repeat (first | (with_reducible first | exact HB.out | apply zJ | apply zG | apply zI | refine zE ?_ GE151.out | refine zE ?_ GE152.out | refine zE ?_ GE153.out | refine zE ?_ GE155.out) | exact HB.out)⟩⟩
        rw [if_neg c31] at H; have c31b0 : (t157 == x13_1) = false := beq_eq_false_iff_ne.mpr c31
        have c31b1 : (t157 != x13_1) = true := bne_iff_ne.mpr c31
        (first | rw [c31b0] | (simp only [zL, zM]; rw [c31b0]) | skip)
        have H' := zC.mk H
        clear H; go_wp2
        go_meet
        case rel => exact ⟨_, (x12_1), (by first | rfl | (simp; done) | (simp [*]; done)), H', ⟨by have := HK1.out; first | omega | exact Nat.le_refl _⟩, ⟨by (with_reducible repeat (first | refine zB ?_ _ | refine zD ?_ | refine zA ?_ _)); exact BK151.out⟩, ⟨by (with_reducible repeat (first | refine zB ?_ _ | refine zD ?_ | refine zA ?_ _)); exact BK152.out⟩, ⟨by (with_reducible repeat (first | refine zB ?_ _ | refine zD ?_ | refine zA ?_ _)); exact BK153.out⟩, ⟨by (with_reducible repeat (first | refine zB ?_ _ | refine zD ?_ | refine zA ?_ _)); exact BK155.out⟩, ⟨by repeat (first | (with_reducible first | exact HB.out | apply zJ | apply zG | apply zI | refine zE ?_ GE151.out | refine zE ?_ GE152.out | refine zE ?_ GE153.out | refine zE ?_ GE155.out) | exact HB.out)⟩⟩
      clear HC15; try clear c1
      try clear p1
      try clear q1
      try clear hx1
      try clear c2
      try clear p2
      try clear c3
      try clear p6
      try clear c9
      try clear c9b0
      try clear c11
      try clear c11b0
      try clear c12
      try clear c12b0
      try clear p15
      try clear q15
      try clear hx15
      try clear c16
      try clear c17
      try clear c20
      try clear c21
      try clear c22
      try clear c26
      try clear c28
      try clear c31
      try clear c31b0
      try clear c31b1
      try clear hcz18_0
      try clear hcz18_1
      try clear hcz23_0
      try clear hcz23_1
      try clear hcz23_2
      try clear hcz23_3
      try clear hcz25_0
      try clear hcz25_1
      try clear hcz25_2
      try clear hcz25_3
      try clear hcz27_0
      try clear hcz27_1
      try clear hcz27_2
      try clear hcz27_3
      try clear hcz27_4
      try clear hcz27_5
      try clear hcz29_0
      try clear hcz29_1
      try clear hfz18_0
      try clear hfz18_1
      try clear hfz23_0
      try clear hfz23_1
      try clear hfz23_2
      try clear hfz23_3
      try clear hfz25_0
      try clear hfz25_1
      try clear hfz25_2
      try clear hfz25_3
      try clear hfz27_0
      try clear hfz27_1
      try clear hfz27_2
      try clear hfz27_3
      try clear hfz27_4
      try clear hfz27_5
      try clear hfz29_0
      try clear hfz29_1
      try clear hx154_0
      try clear hx154_1
      try clear hx154_2
      try clear hx154_3
      try clear p154
      try clear p2
      try clear p6
      try clear q154
      obtain ⟨kq, x12_14, rfl, HA, HJ14, BK151, BK152, BK153, BK155, HB⟩ := hcut; cases kq with
      | zero => exact absurd HA.out (by simp [first_one.j1])
      | succ kj14 =>
        have H := HA.out; clear HA; simp only [first_one.j1] at H; by_cases c32 : x12_14 > a3_0
        · rw [if_pos c32] at H
          have c32b0 : decide (a3_0 < x12_14) = true := decide_eq_true c32
          clear c32; have H' := zC.mk H
          clear H; have hnb33 := NB152_151.out; have hnc33 := NB151_152.out; have hnb34 := NB152_153.out; have hnc34 := NB153_152.out; have hnb35 := NB152_155.out; have hnc35 := NB155_152.out; have hcz36_0 : wc.cell? ⟨gb152, 0, none⟩ = some (.int .i64 a3_0) := (zF BK152.out 0).trans rfl
          have hcz36_1 : wc.cell? ⟨gb152, 1, none⟩ = some (.int .i64 a3_1) := (zF BK152.out 1).trans rfl
          have hcz36_2 : wc.cell? ⟨gb152, 2, none⟩ = some (.int .u8 a3_2) := (zF BK152.out 2).trans rfl
          have hcz36_3 : wc.cell? ⟨gb152, 3, none⟩ = some (.int .i64 a3_3) := (zF BK152.out 3).trans rfl
          have hcz36_4 : wc.cell? ⟨gb152, 4, none⟩ = some (.int .i64 a3_4) := (zF BK152.out 4).trans rfl
          have hcz36_5 : wc.cell? ⟨gb152, 5, none⟩ = some (.float .f64 a3_5) := (zF BK152.out 5).trans rfl
          have hfz36_0 := zH BK152.out 0; have hfz36_1 := zH BK152.out 1; have hfz36_2 := zH BK152.out 2; have hfz36_3 := zH BK152.out 3; have hfz36_4 := zH BK152.out 4; have hfz36_5 := zH BK152.out 5; go_wp2
          go_meet
          case rel => exact ⟨_, (x9_1), (x10_1), (by first | rfl | (simp; done) | (simp [*]; done)), (by first | rfl | (simp; done) | (simp [*]; done)), H', ⟨by have := HK1.out; have := HJ14.out; first | omega | exact Nat.le_refl _⟩, ⟨by (with_reducible repeat (first | refine zB ?_ _ | refine zD ?_ | refine zA ?_ _)); exact BK151.out⟩, ⟨by (with_reducible repeat (first | refine zB ?_ _ | refine zD ?_ | refine zA ?_ _)); exact BK152.out⟩, ⟨by (with_reducible repeat (first | refine zB ?_ _ | refine zD ?_ | refine zA ?_ _)); exact BK153.out⟩, ⟨by repeat (first | (with_reducible first | exact HB.out | apply zJ | apply zG | apply zI | refine zE ?_ GE151.out | refine zE ?_ GE152.out | refine zE ?_ GE153.out | refine zE ?_ GE155.out) | exact HB.out)⟩⟩
        rw [if_neg c32] at H; have c32b0 : decide (a3_0 < x12_14) = false := decide_eq_false c32
        clear c32; replace H := Option.bind_eq_some_iff.mp H; obtain ⟨⟨t158, t159⟩, A370, H⟩ := H; replace H : (if t159 = true then (if t158 = 3 then (if x12_14 < a3_0 then (first_one.l0 kj14 a1 a2 x13_1 x13_1 t156 x12_14 (wrap64 (x13_1 + 1)) l0_0 l0_1 a3_0 a3_1 a3_2 a3_3 a3_4 a3_5) else (first_one.l0 kj14 a1 a2 x9_1 x13_1 t156 x12_14 (wrap64 (x13_1 + 1)) l0_0 l0_1 a3_0 a3_1 a3_2 a3_3 a3_4 a3_5)) else (first_one.l0 kj14 a1 a2 x13_1 x13_1 t156 x12_14 (wrap64 (x13_1 + 1)) l0_0 l0_1 a3_0 a3_1 a3_2 a3_3 a3_4 a3_5)) else (first_one.l0 kj14 a1 a2 x9_1 x13_1 t156 x12_14 (wrap64 (x13_1 + 1)) l0_0 l0_1 a3_0 a3_1 a3_2 a3_3 a3_4 a3_5)) = some (r1, r2, r3, r4) := H; have A37 := zC.mk A370; clear A370; by_cases c38 : t159 = true
        rotate_left
        · replace c38 := Bool.eq_false_iff.mpr c38
          subst c38; have H1 : (first_one.l0 kj14 a1 a2 x9_1 x13_1 t156 x12_14 (wrap64 (x13_1 + 1)) l0_0 l0_1 a3_0 a3_1 a3_2 a3_3 a3_4 a3_5) = some (r1, r2, r3, r4) := by rw [if_neg (show ¬ (false = true) by decide)] at H; exact H
          clear H; have H := H1; clear H1; have H' := zC.mk H
          clear H; have hnb67 := NB152_151.out; have hnc67 := NB151_152.out; have hnb68 := NB152_153.out; have hnc68 := NB153_152.out; have hnb69 := NB152_155.out; have hnc69 := NB155_152.out; have hcz70_0 : wc.cell? ⟨gb152, 0, none⟩ = some (.int .i64 a3_0) := (zF BK152.out 0).trans rfl
          have hcz70_1 : wc.cell? ⟨gb152, 1, none⟩ = some (.int .i64 a3_1) := (zF BK152.out 1).trans rfl
          have hcz70_2 : wc.cell? ⟨gb152, 2, none⟩ = some (.int .u8 a3_2) := (zF BK152.out 2).trans rfl
          have hcz70_3 : wc.cell? ⟨gb152, 3, none⟩ = some (.int .i64 a3_3) := (zF BK152.out 3).trans rfl
          have hcz70_4 : wc.cell? ⟨gb152, 4, none⟩ = some (.int .i64 a3_4) := (zF BK152.out 4).trans rfl
          have hcz70_5 : wc.cell? ⟨gb152, 5, none⟩ = some (.float .f64 a3_5) := (zF BK152.out 5).trans rfl
          have hfz70_0 := zH BK152.out 0; have hfz70_1 := zH BK152.out 1; have hfz70_2 := zH BK152.out 2; have hfz70_3 := zH BK152.out 3; have hfz70_4 := zH BK152.out 4; have hfz70_5 := zH BK152.out 5; have hnb71 := NB151_153.out; have hnc71 := NB153_151.out; have hnb72 := NB151_155.out; have hnc72 := NB155_151.out; have hcz73_0 : wc.cell? ⟨gb151, 0, none⟩ = some (.slice (some ad154) l0_0.length c0_0) := (zF BK151.out 0).trans rfl
          have hcz73_1 : wc.cell? ⟨gb151, 1, none⟩ = some (.slice A0_1 l0_1.length c0_1) := (zF BK151.out 1).trans rfl
          have hfz73_0 := zH BK151.out 0; have hfz73_1 := zH BK151.out 1; go_wp2_with (first | ((with_reducible refine gate_callee (f := 40) rfl ?_); refine goesL_ (some 54) rfl rfl Try.func40 (by kernel_rfl) rfl #[.agg #[.slice (some ad154) l0_0.length c0_0, .slice A0_1 l0_1.length c0_1], .int .i64 x13_1] rfl (by (try simp only [List.map_toArray, List.map_cons, List.map_nil]); first | done | rfl | (simp only [List.length_drop, List.length_take]; rfl)) ?_; (with_reducible refine (span_Ends.calls _ _ l0_0 _ _ l0_1 x13_1 t158 false _ ?side1 ?side2 ?side3 ?side4 A37.out).mono ?_); (case side1 => repeat (first | exact (Kd.C_below HR0_0.out HB.out) | (with_reducible refine Kd.C_alloc ?_ _) | (with_reducible refine Kd.C_drewN ?_ _) | (with_reducible refine Kd.C_drew ?_))); (case side2 => exact HC0_0.out); (case side3 => repeat (first | exact (Kd.C_below HR0_1.out HB.out) | (with_reducible refine Kd.C_alloc ?_ _) | (with_reducible refine Kd.C_drewN ?_ _) | (with_reducible refine Kd.C_drew ?_))); (case side4 => exact HC0_1.out); rintro e w74 ⟨rfl, hb⟩; refine ⟨_, rfl, ?_⟩; have n0_ := zC.mk (zK (g := gb151) (o := .cells #[.slice (some ad154) l0_0.length c0_0, .slice A0_1 l0_1.length c0_1] 31 (0, 0)) (by (with_reducible repeat (first | refine zB ?_ _ | refine zD ?_ | refine zA ?_ _)); exact BK151.out) hb); have n1_ := zC.mk (zK (g := gb152) (o := .cells #[.int .i64 a3_0, .int .i64 a3_1, .int .u8 a3_2, .int .i64 a3_3, .int .i64 a3_4, .float .f64 a3_5] 35 (0, 0)) (by (with_reducible repeat (first | refine zB ?_ _ | refine zD ?_ | refine zA ?_ _)); exact BK152.out) hb); have n2_ := zC.mk (zK (g := gb153) (o := .cells #[.int .i64 0, .int .i64 0, .int .i64 0, .int .u8 0] 54 (0, 0)) (by (with_reducible repeat (first | refine zB ?_ _ | refine zD ?_ | refine zA ?_ _)); exact BK153.out) hb); have n3_ := zC.mk (zK (g := gb155) (o := .cells #[.int .i64 ((rd_T66 l0_0 (ji10)).f0), .int .i64 ((rd_T66 l0_0 (ji10)).f1), .int .i64 ((rd_T66 l0_0 (ji10)).f2), .int .u8 ((rd_T66 l0_0 (ji10)).f3)] 66 (0, 0)) (by (with_reducible repeat (first | refine zB ?_ _ | refine zD ?_ | refine zA ?_ _)); exact BK155.out) hb); have n4_ := zC.mk (zQ (by repeat (first | (with_reducible first | exact HB.out | apply zJ | apply zG | apply zI | refine zE ?_ GE151.out | refine zE ?_ GE152.out | refine zE ?_ GE153.out | refine zE ?_ GE155.out) | exact HB.out)) hb); clear BK151; clear BK152; clear BK153; clear BK155; clear HB; have BK151 := n0_; have BK152 := n1_; have BK153 := n2_; have BK155 := n3_; have HB := n4_; clear n0_ n1_ n2_ n3_ n4_; (try clear hb); (try clear hb2); (try clear hk); (try clear hi)))
          go_roundg kj14
          case measure => have := HK1.out; have := HJ14.out; omega
          case rel => exact ⟨(x9_1), (x13_1), (t156), (x12_14), (wrap64 (x13_1 + 1)), (by first | rfl | (simp; done) | (simp [*]; done)), (by first | rfl | (simp; done) | (simp [*]; done)), (by first | rfl | (simp; done) | (simp [*]; done)), (by first | rfl | (simp; done) | (simp [*]; done)), (by first | rfl | (simp; done) | (simp [*]; done)), H', ⟨by have := HK1.out; have := HJ14.out; omega⟩, ⟨by (with_reducible repeat (first | refine zB ?_ _ | refine zD ?_ | refine zA ?_ _)); exact BK151.out⟩, ⟨by (with_reducible repeat (first | refine zB ?_ _ | refine zD ?_ | refine zA ?_ _)); exact BK152.out⟩, ⟨by (with_reducible repeat (first | refine zB ?_ _ | refine zD ?_ | refine zA ?_ _)); exact BK153.out⟩, ⟨by repeat (first | (with_reducible first | exact HB.out | apply zJ | apply zG | apply zI | refine zE ?_ GE151.out | refine zE ?_ GE152.out | refine zE ?_ GE153.out | refine zE ?_ GE155.out) | exact HB.out)⟩⟩
        subst c38; have H1 : (if t158 = 3 then (if x12_14 < a3_0 then (first_one.l0 kj14 a1 a2 x13_1 x13_1 t156 x12_14 (wrap64 (x13_1 + 1)) l0_0 l0_1 a3_0 a3_1 a3_2 a3_3 a3_4 a3_5) else (first_one.l0 kj14 a1 a2 x9_1 x13_1 t156 x12_14 (wrap64 (x13_1 + 1)) l0_0 l0_1 a3_0 a3_1 a3_2 a3_3 a3_4 a3_5)) else (first_one.l0 kj14 a1 a2 x13_1 x13_1 t156 x12_14 (wrap64 (x13_1 + 1)) l0_0 l0_1 a3_0 a3_1 a3_2 a3_3 a3_4 a3_5)) = some (r1, r2, r3, r4) := by rw [if_pos rfl] at H; exact H
        clear H; have H := H1; clear H1; by_cases c39 : t158 = 3
        rotate_left
        · rw [if_neg c39] at H
          have c39b0 : (t158 == 3) = false := beq_eq_false_iff_ne.mpr c39
          have c39b1 : (t158 != 3) = true := bne_iff_ne.mpr c39
          have H' := zC.mk H
          clear H; have hnb59 := NB152_151.out; have hnc59 := NB151_152.out; have hnb60 := NB152_153.out; have hnc60 := NB153_152.out; have hnb61 := NB152_155.out; have hnc61 := NB155_152.out; have hcz62_0 : wc.cell? ⟨gb152, 0, none⟩ = some (.int .i64 a3_0) := (zF BK152.out 0).trans rfl
          have hcz62_1 : wc.cell? ⟨gb152, 1, none⟩ = some (.int .i64 a3_1) := (zF BK152.out 1).trans rfl
          have hcz62_2 : wc.cell? ⟨gb152, 2, none⟩ = some (.int .u8 a3_2) := (zF BK152.out 2).trans rfl
          have hcz62_3 : wc.cell? ⟨gb152, 3, none⟩ = some (.int .i64 a3_3) := (zF BK152.out 3).trans rfl
          have hcz62_4 : wc.cell? ⟨gb152, 4, none⟩ = some (.int .i64 a3_4) := (zF BK152.out 4).trans rfl
          have hcz62_5 : wc.cell? ⟨gb152, 5, none⟩ = some (.float .f64 a3_5) := (zF BK152.out 5).trans rfl
          have hfz62_0 := zH BK152.out 0; have hfz62_1 := zH BK152.out 1; have hfz62_2 := zH BK152.out 2; have hfz62_3 := zH BK152.out 3; have hfz62_4 := zH BK152.out 4; have hfz62_5 := zH BK152.out 5; have hnb63 := NB151_153.out; have hnc63 := NB153_151.out; have hnb64 := NB151_155.out; have hnc64 := NB155_151.out; have hcz65_0 : wc.cell? ⟨gb151, 0, none⟩ = some (.slice (some ad154) l0_0.length c0_0) := (zF BK151.out 0).trans rfl
          have hcz65_1 : wc.cell? ⟨gb151, 1, none⟩ = some (.slice A0_1 l0_1.length c0_1) := (zF BK151.out 1).trans rfl
          have hfz65_0 := zH BK151.out 0; have hfz65_1 := zH BK151.out 1; go_wp2_with (first | ((with_reducible refine gate_callee (f := 40) rfl ?_); refine goesL_ (some 54) rfl rfl Try.func40 (by kernel_rfl) rfl #[.agg #[.slice (some ad154) l0_0.length c0_0, .slice A0_1 l0_1.length c0_1], .int .i64 x13_1] rfl (by (try simp only [List.map_toArray, List.map_cons, List.map_nil]); first | done | rfl | (simp only [List.length_drop, List.length_take]; rfl)) ?_; (with_reducible refine (span_Ends.calls _ _ l0_0 _ _ l0_1 x13_1 t158 true _ ?side1 ?side2 ?side3 ?side4 A37.out).mono ?_); (case side1 => repeat (first | exact (Kd.C_below HR0_0.out HB.out) | (with_reducible refine Kd.C_alloc ?_ _) | (with_reducible refine Kd.C_drewN ?_ _) | (with_reducible refine Kd.C_drew ?_))); (case side2 => exact HC0_0.out); (case side3 => repeat (first | exact (Kd.C_below HR0_1.out HB.out) | (with_reducible refine Kd.C_alloc ?_ _) | (with_reducible refine Kd.C_drewN ?_ _) | (with_reducible refine Kd.C_drew ?_))); (case side4 => exact HC0_1.out); rintro e w66 ⟨rfl, hb⟩; refine ⟨_, rfl, ?_⟩; have n0_ := zC.mk (zK (g := gb151) (o := .cells #[.slice (some ad154) l0_0.length c0_0, .slice A0_1 l0_1.length c0_1] 31 (0, 0)) (by (with_reducible repeat (first | refine zB ?_ _ | refine zD ?_ | refine zA ?_ _)); exact BK151.out) hb); have n1_ := zC.mk (zK (g := gb152) (o := .cells #[.int .i64 a3_0, .int .i64 a3_1, .int .u8 a3_2, .int .i64 a3_3, .int .i64 a3_4, .float .f64 a3_5] 35 (0, 0)) (by (with_reducible repeat (first | refine zB ?_ _ | refine zD ?_ | refine zA ?_ _)); exact BK152.out) hb); have n2_ := zC.mk (zK (g := gb153) (o := .cells #[.int .i64 0, .int .i64 0, .int .i64 0, .int .u8 0] 54 (0, 0)) (by (with_reducible repeat (first | refine zB ?_ _ | refine zD ?_ | refine zA ?_ _)); exact BK153.out) hb); have n3_ := zC.mk (zK (g := gb155) (o := .cells #[.int .i64 ((rd_T66 l0_0 (ji10)).f0), .int .i64 ((rd_T66 l0_0 (ji10)).f1), .int .i64 ((rd_T66 l0_0 (ji10)).f2), .int .u8 ((rd_T66 l0_0 (ji10)).f3)] 66 (0, 0)) (by (with_reducible repeat (first | refine zB ?_ _ | refine zD ?_ | refine zA ?_ _)); exact BK155.out) hb); have n4_ := zC.mk (zQ (by repeat (first | (with_reducible first | exact HB.out | apply zJ | apply zG | apply zI | refine zE ?_ GE151.out | refine zE ?_ GE152.out | refine zE ?_ GE153.out | refine zE ?_ GE155.out) | exact HB.out)) hb); clear BK151; clear BK152; clear BK153; clear BK155; clear HB; have BK151 := n0_; have BK152 := n1_; have BK153 := n2_; have BK155 := n3_; have HB := n4_; clear n0_ n1_ n2_ n3_ n4_; (try clear hb); (try clear hb2); (try clear hk); (try clear hi)))
          go_roundg kj14
          case measure => have := HK1.out; have := HJ14.out; omega
          case rel => exact ⟨(x13_1), (x13_1), (t156), (x12_14), (wrap64 (x13_1 + 1)), (by first | rfl | (simp; done) | (simp [*]; done)), (by first | rfl | (simp; done) | (simp [*]; done)), (by first | rfl | (simp; done) | (simp [*]; done)), (by first | rfl | (simp; done) | (simp [*]; done)), (by first | rfl | (simp; done) | (simp [*]; done)), H', ⟨by have := HK1.out; have := HJ14.out; omega⟩, ⟨by (with_reducible repeat (first | refine zB ?_ _ | refine zD ?_ | refine zA ?_ _)); exact BK151.out⟩, ⟨by (with_reducible repeat (first | refine zB ?_ _ | refine zD ?_ | refine zA ?_ _)); exact BK152.out⟩, ⟨by (with_reducible repeat (first | refine zB ?_ _ | refine zD ?_ | refine zA ?_ _)); exact BK153.out⟩, ⟨by repeat (first | (with_reducible first | exact HB.out | apply zJ | apply zG | apply zI | refine zE ?_ GE151.out | refine zE ?_ GE152.out | refine zE ?_ GE153.out | refine zE ?_ GE155.out) | exact HB.out)⟩⟩
        rw [if_pos c39] at H; have c39b0 : (t158 == 3) = true := beq_iff_eq.mpr c39
        have c39b1 : (t158 != 3) = false := bne_eq_false_iff_eq.mpr c39
        clear c39; by_cases c40 : x12_14 < a3_0
        · rw [if_pos c40] at H
          have c40b0 : decide (x12_14 < a3_0) = true := decide_eq_true c40
          clear c40; have H' := zC.mk H
          clear H; have hnb41 := NB152_151.out; have hnc41 := NB151_152.out; have hnb42 := NB152_153.out; have hnc42 := NB153_152.out; have hnb43 := NB152_155.out; have hnc43 := NB155_152.out; have hcz44_0 : wc.cell? ⟨gb152, 0, none⟩ = some (.int .i64 a3_0) := (zF BK152.out 0).trans rfl
          have hcz44_1 : wc.cell? ⟨gb152, 1, none⟩ = some (.int .i64 a3_1) := (zF BK152.out 1).trans rfl
          have hcz44_2 : wc.cell? ⟨gb152, 2, none⟩ = some (.int .u8 a3_2) := (zF BK152.out 2).trans rfl
          have hcz44_3 : wc.cell? ⟨gb152, 3, none⟩ = some (.int .i64 a3_3) := (zF BK152.out 3).trans rfl
          have hcz44_4 : wc.cell? ⟨gb152, 4, none⟩ = some (.int .i64 a3_4) := (zF BK152.out 4).trans rfl
          have hcz44_5 : wc.cell? ⟨gb152, 5, none⟩ = some (.float .f64 a3_5) := (zF BK152.out 5).trans rfl
          have hfz44_0 := zH BK152.out 0; have hfz44_1 := zH BK152.out 1; have hfz44_2 := zH BK152.out 2; have hfz44_3 := zH BK152.out 3; have hfz44_4 := zH BK152.out 4; have hfz44_5 := zH BK152.out 5; have hnb45 := NB151_153.out; have hnc45 := NB153_151.out; have hnb46 := NB151_155.out; have hnc46 := NB155_151.out; have hcz47_0 : wc.cell? ⟨gb151, 0, none⟩ = some (.slice (some ad154) l0_0.length c0_0) := (zF BK151.out 0).trans rfl
          have hcz47_1 : wc.cell? ⟨gb151, 1, none⟩ = some (.slice A0_1 l0_1.length c0_1) := (zF BK151.out 1).trans rfl
          have hfz47_0 := zH BK151.out 0; have hfz47_1 := zH BK151.out 1; go_wp2_with (first | ((with_reducible refine gate_callee (f := 40) rfl ?_); refine goesL_ (some 54) rfl rfl Try.func40 (by kernel_rfl) rfl #[.agg #[.slice (some ad154) l0_0.length c0_0, .slice A0_1 l0_1.length c0_1], .int .i64 x13_1] rfl (by (try simp only [List.map_toArray, List.map_cons, List.map_nil]); first | done | rfl | (simp only [List.length_drop, List.length_take]; rfl)) ?_; (with_reducible refine (span_Ends.calls _ _ l0_0 _ _ l0_1 x13_1 t158 true _ ?side1 ?side2 ?side3 ?side4 A37.out).mono ?_); (case side1 => repeat (first | exact (Kd.C_below HR0_0.out HB.out) | (with_reducible refine Kd.C_alloc ?_ _) | (with_reducible refine Kd.C_drewN ?_ _) | (with_reducible refine Kd.C_drew ?_))); (case side2 => exact HC0_0.out); (case side3 => repeat (first | exact (Kd.C_below HR0_1.out HB.out) | (with_reducible refine Kd.C_alloc ?_ _) | (with_reducible refine Kd.C_drewN ?_ _) | (with_reducible refine Kd.C_drew ?_))); (case side4 => exact HC0_1.out); rintro e w48 ⟨rfl, hb⟩; refine ⟨_, rfl, ?_⟩; have n0_ := zC.mk (zK (g := gb151) (o := .cells #[.slice (some ad154) l0_0.length c0_0, .slice A0_1 l0_1.length c0_1] 31 (0, 0)) (by (with_reducible repeat (first | refine zB ?_ _ | refine zD ?_ | refine zA ?_ _)); exact BK151.out) hb); have n1_ := zC.mk (zK (g := gb152) (o := .cells #[.int .i64 a3_0, .int .i64 a3_1, .int .u8 a3_2, .int .i64 a3_3, .int .i64 a3_4, .float .f64 a3_5] 35 (0, 0)) (by (with_reducible repeat (first | refine zB ?_ _ | refine zD ?_ | refine zA ?_ _)); exact BK152.out) hb); have n2_ := zC.mk (zK (g := gb153) (o := .cells #[.int .i64 0, .int .i64 0, .int .i64 0, .int .u8 0] 54 (0, 0)) (by (with_reducible repeat (first | refine zB ?_ _ | refine zD ?_ | refine zA ?_ _)); exact BK153.out) hb); have n3_ := zC.mk (zK (g := gb155) (o := .cells #[.int .i64 ((rd_T66 l0_0 (ji10)).f0), .int .i64 ((rd_T66 l0_0 (ji10)).f1), .int .i64 ((rd_T66 l0_0 (ji10)).f2), .int .u8 ((rd_T66 l0_0 (ji10)).f3)] 66 (0, 0)) (by (with_reducible repeat (first | refine zB ?_ _ | refine zD ?_ | refine zA ?_ _)); exact BK155.out) hb); have n4_ := zC.mk (zQ (by repeat (first | (with_reducible first | exact HB.out | apply zJ | apply zG | apply zI | refine zE ?_ GE151.out | refine zE ?_ GE152.out | refine zE ?_ GE153.out | refine zE ?_ GE155.out) | exact HB.out)) hb); clear BK151; clear BK152; clear BK153; clear BK155; clear HB; have BK151 := n0_; have BK152 := n1_; have BK153 := n2_; have BK155 := n3_; have HB := n4_; clear n0_ n1_ n2_ n3_ n4_; (try clear hb); (try clear hb2); (try clear hk); (try clear hi); have hcz49_0 : w48.cell? ⟨gb152, 0, none⟩ = some (.int .i64 a3_0) := (zF BK152.out 0).trans rfl; have hcz49_1 : w48.cell? ⟨gb152, 1, none⟩ = some (.int .i64 a3_1) := (zF BK152.out 1).trans rfl; have hcz49_2 : w48.cell? ⟨gb152, 2, none⟩ = some (.int .u8 a3_2) := (zF BK152.out 2).trans rfl; have hcz49_3 : w48.cell? ⟨gb152, 3, none⟩ = some (.int .i64 a3_3) := (zF BK152.out 3).trans rfl; have hcz49_4 : w48.cell? ⟨gb152, 4, none⟩ = some (.int .i64 a3_4) := (zF BK152.out 4).trans rfl; have hcz49_5 : w48.cell? ⟨gb152, 5, none⟩ = some (.float .f64 a3_5) := (zF BK152.out 5).trans rfl; have hfz49_0 := zH BK152.out 0; have hfz49_1 := zH BK152.out 1; have hfz49_2 := zH BK152.out 2; have hfz49_3 := zH BK152.out 3; have hfz49_4 := zH BK152.out 4; have hfz49_5 := zH BK152.out 5))
          go_roundg kj14
          case measure => have := HK1.out; have := HJ14.out; omega
          case rel => exact ⟨(x13_1), (x13_1), (t156), (x12_14), (wrap64 (x13_1 + 1)), (by first | rfl | (simp; done) | (simp [*]; done)), (by first | rfl | (simp; done) | (simp [*]; done)), (by first | rfl | (simp; done) | (simp [*]; done)), (by first | rfl | (simp; done) | (simp [*]; done)), (by first | rfl | (simp; done) | (simp [*]; done)), H', ⟨by have := HK1.out; have := HJ14.out; omega⟩, ⟨by (with_reducible repeat (first | refine zB ?_ _ | refine zD ?_ | refine zA ?_ _)); exact BK151.out⟩, ⟨by (with_reducible repeat (first | refine zB ?_ _ | refine zD ?_ | refine zA ?_ _)); exact BK152.out⟩, ⟨by (with_reducible repeat (first | refine zB ?_ _ | refine zD ?_ | refine zA ?_ _)); exact BK153.out⟩, ⟨by repeat (first | (with_reducible first | exact HB.out | apply zJ | apply zG | apply zI | refine zE ?_ GE151.out | refine zE ?_ GE152.out | refine zE ?_ GE153.out | refine zE ?_ GE155.out) | exact HB.out)⟩⟩
        rw [if_neg c40] at H; have c40b0 : decide (x12_14 < a3_0) = false := decide_eq_false c40
        clear c40; have H' := zC.mk H
        clear H; have hnb50 := NB152_151.out; have hnc50 := NB151_152.out; have hnb51 := NB152_153.out; have hnc51 := NB153_152.out; have hnb52 := NB152_155.out; have hnc52 := NB155_152.out; have hcz53_0 : wc.cell? ⟨gb152, 0, none⟩ = some (.int .i64 a3_0) := (zF BK152.out 0).trans rfl
        have hcz53_1 : wc.cell? ⟨gb152, 1, none⟩ = some (.int .i64 a3_1) := (zF BK152.out 1).trans rfl
        have hcz53_2 : wc.cell? ⟨gb152, 2, none⟩ = some (.int .u8 a3_2) := (zF BK152.out 2).trans rfl
        have hcz53_3 : wc.cell? ⟨gb152, 3, none⟩ = some (.int .i64 a3_3) := (zF BK152.out 3).trans rfl
        have hcz53_4 : wc.cell? ⟨gb152, 4, none⟩ = some (.int .i64 a3_4) := (zF BK152.out 4).trans rfl
        have hcz53_5 : wc.cell? ⟨gb152, 5, none⟩ = some (.float .f64 a3_5) := (zF BK152.out 5).trans rfl
        have hfz53_0 := zH BK152.out 0; have hfz53_1 := zH BK152.out 1; have hfz53_2 := zH BK152.out 2; have hfz53_3 := zH BK152.out 3; have hfz53_4 := zH BK152.out 4; have hfz53_5 := zH BK152.out 5; have hnb54 := NB151_153.out; have hnc54 := NB153_151.out; have hnb55 := NB151_155.out; have hnc55 := NB155_151.out; have hcz56_0 : wc.cell? ⟨gb151, 0, none⟩ = some (.slice (some ad154) l0_0.length c0_0) := (zF BK151.out 0).trans rfl
        have hcz56_1 : wc.cell? ⟨gb151, 1, none⟩ = some (.slice A0_1 l0_1.length c0_1) := (zF BK151.out 1).trans rfl
        have hfz56_0 := zH BK151.out 0; have hfz56_1 := zH BK151.out 1; go_wp2_with (first | ((with_reducible refine gate_callee (f := 40) rfl ?_); refine goesL_ (some 54) rfl rfl Try.func40 (by kernel_rfl) rfl #[.agg #[.slice (some ad154) l0_0.length c0_0, .slice A0_1 l0_1.length c0_1], .int .i64 x13_1] rfl (by (try simp only [List.map_toArray, List.map_cons, List.map_nil]); first | done | rfl | (simp only [List.length_drop, List.length_take]; rfl)) ?_; (with_reducible refine (span_Ends.calls _ _ l0_0 _ _ l0_1 x13_1 t158 true _ ?side1 ?side2 ?side3 ?side4 A37.out).mono ?_); (case side1 => repeat (first | exact (Kd.C_below HR0_0.out HB.out) | (with_reducible refine Kd.C_alloc ?_ _) | (with_reducible refine Kd.C_drewN ?_ _) | (with_reducible refine Kd.C_drew ?_))); (case side2 => exact HC0_0.out); (case side3 => repeat (first | exact (Kd.C_below HR0_1.out HB.out) | (with_reducible refine Kd.C_alloc ?_ _) | (with_reducible refine Kd.C_drewN ?_ _) | (with_reducible refine Kd.C_drew ?_))); (case side4 => exact HC0_1.out); rintro e w57 ⟨rfl, hb⟩; refine ⟨_, rfl, ?_⟩; have n0_ := zC.mk (zK (g := gb151) (o := .cells #[.slice (some ad154) l0_0.length c0_0, .slice A0_1 l0_1.length c0_1] 31 (0, 0)) (by (with_reducible repeat (first | refine zB ?_ _ | refine zD ?_ | refine zA ?_ _)); exact BK151.out) hb); have n1_ := zC.mk (zK (g := gb152) (o := .cells #[.int .i64 a3_0, .int .i64 a3_1, .int .u8 a3_2, .int .i64 a3_3, .int .i64 a3_4, .float .f64 a3_5] 35 (0, 0)) (by (with_reducible repeat (first | refine zB ?_ _ | refine zD ?_ | refine zA ?_ _)); exact BK152.out) hb); have n2_ := zC.mk (zK (g := gb153) (o := .cells #[.int .i64 0, .int .i64 0, .int .i64 0, .int .u8 0] 54 (0, 0)) (by (with_reducible repeat (first | refine zB ?_ _ | refine zD ?_ | refine zA ?_ _)); exact BK153.out) hb); have n3_ := zC.mk (zK (g := gb155) (o := .cells #[.int .i64 ((rd_T66 l0_0 (ji10)).f0), .int .i64 ((rd_T66 l0_0 (ji10)).f1), .int .i64 ((rd_T66 l0_0 (ji10)).f2), .int .u8 ((rd_T66 l0_0 (ji10)).f3)] 66 (0, 0)) (by (with_reducible repeat (first | refine zB ?_ _ | refine zD ?_ | refine zA ?_ _)); exact BK155.out) hb); have n4_ := zC.mk (zQ (by repeat (first | (with_reducible first | exact HB.out | apply zJ | apply zG | apply zI | refine zE ?_ GE151.out | refine zE ?_ GE152.out | refine zE ?_ GE153.out | refine zE ?_ GE155.out) | exact HB.out)) hb); clear BK151; clear BK152; clear BK153; clear BK155; clear HB; have BK151 := n0_; have BK152 := n1_; have BK153 := n2_; have BK155 := n3_; have HB := n4_; clear n0_ n1_ n2_ n3_ n4_; (try clear hb); (try clear hb2); (try clear hk); (try clear hi); have hcz58_0 : w57.cell? ⟨gb152, 0, none⟩ = some (.int .i64 a3_0) := (zF BK152.out 0).trans rfl; have hcz58_1 : w57.cell? ⟨gb152, 1, none⟩ = some (.int .i64 a3_1) := (zF BK152.out 1).trans rfl; have hcz58_2 : w57.cell? ⟨gb152, 2, none⟩ = some (.int .u8 a3_2) := (zF BK152.out 2).trans rfl; have hcz58_3 : w57.cell? ⟨gb152, 3, none⟩ = some (.int .i64 a3_3) := (zF BK152.out 3).trans rfl; have hcz58_4 : w57.cell? ⟨gb152, 4, none⟩ = some (.int .i64 a3_4) := (zF BK152.out 4).trans rfl; have hcz58_5 : w57.cell? ⟨gb152, 5, none⟩ = some (.float .f64 a3_5) := (zF BK152.out 5).trans rfl; have hfz58_0 := zH BK152.out 0; have hfz58_1 := zH BK152.out 1; have hfz58_2 := zH BK152.out 2; have hfz58_3 := zH BK152.out 3; have hfz58_4 := zH BK152.out 4; have hfz58_5 := zH BK152.out 5))
        go_roundg kj14
        case measure => have := HK1.out; have := HJ14.out; omega
        case rel => exact ⟨(x9_1), (x13_1), (t156), (x12_14), (wrap64 (x13_1 + 1)), (by first | rfl | (simp; done) | (simp [*]; done)), (by first | rfl | (simp; done) | (simp [*]; done)), (by first | rfl | (simp; done) | (simp [*]; done)), (by first | rfl | (simp; done) | (simp [*]; done)), (by first | rfl | (simp; done) | (simp [*]; done)), H', ⟨by have := HK1.out; have := HJ14.out; omega⟩, ⟨by (with_reducible repeat (first | refine zB ?_ _ | refine zD ?_ | refine zA ?_ _)); exact BK151.out⟩, ⟨by (with_reducible repeat (first | refine zB ?_ _ | refine zD ?_ | refine zA ?_ _)); exact BK152.out⟩, ⟨by (with_reducible repeat (first | refine zB ?_ _ | refine zD ?_ | refine zA ?_ _)); exact BK153.out⟩, ⟨by repeat (first | (with_reducible first | exact HB.out | apply zJ | apply zG | apply zI | refine zE ?_ GE151.out | refine zE ?_ GE152.out | refine zE ?_ GE153.out | refine zE ?_ GE155.out) | exact HB.out)⟩⟩
  clear HC5; try clear c1
  try clear p1
  try clear q1
  try clear hx1
  try clear c2
  try clear p2
  try clear c3
  try clear c4
  try clear c5
  try clear c6
  try clear p6
  try clear c7
  try clear c9
  try clear c9b0
  try clear c11
  try clear c11b0
  try clear c12
  try clear c12b0
  try clear p15
  try clear q15
  try clear hx15
  try clear c16
  try clear c17
  try clear c20
  try clear c21
  try clear c22
  try clear c26
  try clear c28
  try clear c31
  try clear c31b0
  try clear c31b1
  try clear c32
  try clear c32b0
  try clear c33
  try clear c34
  try clear c35
  try clear c38
  try clear c39
  try clear c39b0
  try clear c39b1
  try clear c40
  try clear c40b0
  try clear c41
  try clear c42
  try clear c43
  try clear c45
  try clear c46
  try clear c50
  try clear c51
  try clear c52
  try clear c54
  try clear c55
  try clear c59
  try clear c60
  try clear c61
  try clear c63
  try clear c64
  try clear p64
  try clear c67
  try clear c68
  try clear c69
  try clear c71
  try clear c72
  try clear hcz18_0
  try clear hcz18_1
  try clear hcz23_0
  try clear hcz23_1
  try clear hcz23_2
  try clear hcz23_3
  try clear hcz25_0
  try clear hcz25_1
  try clear hcz25_2
  try clear hcz25_3
  try clear hcz27_0
  try clear hcz27_1
  try clear hcz27_2
  try clear hcz27_3
  try clear hcz27_4
  try clear hcz27_5
  try clear hcz29_0
  try clear hcz29_1
  try clear hcz36_0
  try clear hcz36_1
  try clear hcz36_2
  try clear hcz36_3
  try clear hcz36_4
  try clear hcz36_5
  try clear hcz44_0
  try clear hcz44_1
  try clear hcz44_2
  try clear hcz44_3
  try clear hcz44_4
  try clear hcz44_5
  try clear hcz47_0
  try clear hcz47_1
  try clear hcz49_0
  try clear hcz49_1
  try clear hcz49_2
  try clear hcz49_3
  try clear hcz49_4
  try clear hcz49_5
  try clear hcz53_0
  try clear hcz53_1
  try clear hcz53_2
  try clear hcz53_3
  try clear hcz53_4
  try clear hcz53_5
  try clear hcz56_0
  try clear hcz56_1
  try clear hcz58_0
  try clear hcz58_1
  try clear hcz58_2
  try clear hcz58_3
  try clear hcz58_4
  try clear hcz58_5
  try clear hcz62_0
  try clear hcz62_1
  try clear hcz62_2
  try clear hcz62_3
  try clear hcz62_4
  try clear hcz62_5
  try clear hcz65_0
  try clear hcz65_1
  try clear hcz70_0
  try clear hcz70_1
  try clear hcz70_2
  try clear hcz70_3
  try clear hcz70_4
  try clear hcz70_5
  try clear hcz73_0
  try clear hcz73_1
  try clear hfz18_0
  try clear hfz18_1
  try clear hfz23_0
  try clear hfz23_1
  try clear hfz23_2
  try clear hfz23_3
  try clear hfz25_0
  try clear hfz25_1
  try clear hfz25_2
  try clear hfz25_3
  try clear hfz27_0
  try clear hfz27_1
  try clear hfz27_2
  try clear hfz27_3
  try clear hfz27_4
  try clear hfz27_5
  try clear hfz29_0
  try clear hfz29_1
  try clear hfz36_0
  try clear hfz36_1
  try clear hfz36_2
  try clear hfz36_3
  try clear hfz36_4
  try clear hfz36_5
  try clear hfz44_0
  try clear hfz44_1
  try clear hfz44_2
  try clear hfz44_3
  try clear hfz44_4
  try clear hfz44_5
  try clear hfz47_0
  try clear hfz47_1
  try clear hfz49_0
  try clear hfz49_1
  try clear hfz49_2
  try clear hfz49_3
  try clear hfz49_4
  try clear hfz49_5
  try clear hfz53_0
  try clear hfz53_1
  try clear hfz53_2
  try clear hfz53_3
  try clear hfz53_4
  try clear hfz53_5
  try clear hfz56_0
  try clear hfz56_1
  try clear hfz58_0
  try clear hfz58_1
  try clear hfz58_2
  try clear hfz58_3
  try clear hfz58_4
  try clear hfz58_5
  try clear hfz62_0
  try clear hfz62_1
  try clear hfz62_2
  try clear hfz62_3
  try clear hfz62_4
  try clear hfz62_5
  try clear hfz65_0
  try clear hfz65_1
  try clear hfz70_0
  try clear hfz70_1
  try clear hfz70_2
  try clear hfz70_3
  try clear hfz70_4
  try clear hfz70_5
  try clear hfz73_0
  try clear hfz73_1
  try clear hx154_0
  try clear hx154_1
  try clear hx154_2
  try clear hx154_3
  try clear p1
  try clear p15
  try clear p154
  try clear p2
  try clear p6
  try clear q1
  try clear q15
  try clear q154
  obtain ⟨kq, x9_4, x10_4, rfl, rfl, HA, HJ4, BK151, BK152, BK153, HB⟩ := hcut; cases kq with
  | zero => exact absurd HA.out (by simp [first_one.j2])
  | succ kj4 =>
    have H := HA.out; clear HA; simp only [first_one.j2] at H; by_cases c75 : x9_4 ≥ 0
    · rw [if_pos c75] at H
      have c75b0 : decide (0 ≤ x9_4) = true := decide_eq_true c75
      clear c75; by_cases c76 : 0 ≤ x9_4
      rotate_left
      · rw [if_neg c76] at H
        exact absurd H (by simp)
      rw [if_pos c76] at H; have c76b0 : decide (0 ≤ x9_4) = true := decide_eq_true c76
      clear c76; by_cases c77 : x9_4 < (l0_1.length : Int)
      rotate_left
      · rw [if_neg c77] at H
        exact absurd H (by simp)
      rw [if_pos c77] at H; have c77b0 : decide (x9_4 < (l0_1.length : Int)) = true := decide_eq_true c77
      clear c77; replace H := Option.bind_eq_some_iff.mp H; obtain ⟨⟨t161, t162, t163, t164⟩, A780, H⟩ := H; replace H : (some (t161, t162, t163, t164)) = some (r1, r2, r3, r4) := H; have A78 := zC.mk A780; clear A780; simp only [Option.some.injEq, Prod.mk.injEq] at H; obtain ⟨rfl, rfl, rfl, rfl⟩ := H; try go_wp2
      have n0_ := zC.mk (zD BK151.out); have n1_ := zC.mk (zD BK152.out); have n2_ := zC.mk (zD BK153.out); have n3_ := zC.mk (zI HB.out); clear BK151; clear BK152; clear BK153; clear HB; have BK151 := n0_; have BK152 := n1_; have BK153 := n2_; have HB := n3_; clear n0_ n1_ n2_ n3_; have p160 : 0 ≤ (x9_4 : Int) := of_decide_eq_true (by first | (with_reducible assumption) | assumption)
      have q160 : x9_4 < (l0_1.length : Int) := of_decide_eq_true (by first | (with_reducible assumption) | assumption)
      obtain ⟨ad160, e160, hx160_0⟩ := Kd.at_int HR0_1.out x9_4 p160 q160; have hw160_0 := hx160_0; cases e160
      replace hx160_0 := (HB.out.cell (World.block_lt_of_cell? w _ hx160_0)).trans hx160_0; replace p160 := eq_true p160; replace q160 := eq_true q160; refine start_ (n := 12) (S := fun w' => w'.cell? ⟨gb151, 0, none⟩ = some (.slice A0_0 l0_0.length c0_0) ∧ w'.cell? ⟨gb151, 1, none⟩ = some (.slice (some ad160) l0_1.length c0_1) ∧ w'.cell? ⟨gb152, 0, none⟩ = some (.int .i64 a3_0) ∧ w'.cell? ⟨gb152, 1, none⟩ = some (.int .i64 a3_1) ∧ w'.cell? ⟨gb152, 2, none⟩ = some (.int .u8 a3_2) ∧ w'.cell? ⟨gb152, 3, none⟩ = some (.int .i64 a3_3) ∧ w'.cell? ⟨gb152, 4, none⟩ = some (.int .i64 a3_4) ∧ w'.cell? ⟨gb152, 5, none⟩ = some (.float .f64 a3_5) ∧ w'.cell? (ad160.add (x9_4).toNat) = some (.int .u8 (rd l0_1 x9_4))) (ds := []) #[false, false, false, false, false, false, false, false, false, false, false, false] (by kernel_rfl) rfl rfl ⟨(zF BK151.out 0).trans rfl, (zF BK151.out 1).trans rfl, (zF BK152.out 0).trans rfl, (zF BK152.out 1).trans rfl, (zF BK152.out 2).trans rfl, (zF BK152.out 3).trans rfl, (zF BK152.out 4).trans rfl, (zF BK152.out 5).trans rfl, ((HB.out.cell (World.block_lt_of_cell? w _ hw160_0)).trans hw160_0)⟩ (fun hHeld => ?_); refine with_tabW first_one.tab16 first_one.bits16 (fun HT_ HW_ => ?_)
      generalize wc.drew = w79 at BK151 BK152 BK153 HB hx160_0 hHeld ⊢
      refine pure_ (i := 1) (N := some 72) (v := ?_) (a' := ?_) #[false, true, false, false, false, false, false, false, false, false, false, false] rfl rfl (zN HT_.out (by kernel_rfl)) (fun _ _ _ h => h) (Or.inl ⟨by rfl, ?_⟩) ?_ ?_
      rotate_left
      · intro w'
        go_simp
        with_reducible rfl
      rotate_left
      · simp only [Act.put, sA_, sB_, sC_, zL, zM]
        rfl
      refine pure_ (i := 2) (N := some 73) (v := ?_) (a' := ?_) #[false, true, true, false, false, false, false, false, false, false, false, false] rfl rfl (zN HT_.out (by kernel_rfl)) (fun _ _ _ h => h) (Or.inl ⟨by rfl, ?_⟩) ?_ ?_
      rotate_left
      · intro w'
        go_simp
        with_reducible rfl
      rotate_left
      · simp only [Act.put, sA_, sB_, sC_, zL, zM]
        rfl
      refine pure_ (i := 3) (N := some 74) (v := ?_) (a' := ?_) #[false, true, true, true, false, false, false, false, false, false, false, false] rfl rfl (zN HT_.out (by kernel_rfl)) (fun _ _ _ h => h) (Or.inl ⟨by rfl, ?_⟩) ?_ ?_
      rotate_left
      · intro w'
        go_simp
        with_reducible rfl
      rotate_left
      · simp only [Act.put, sA_, sB_, sC_, zL, zM]
        rfl
      refine pure_ (i := 5) (N := some 76) (v := ?_) (a' := ?_) #[false, true, true, true, false, true, false, false, false, false, false, false] rfl rfl (zN HT_.out (by kernel_rfl)) (fun _ _ _ h => h) (Or.inl ⟨by rfl, ?_⟩) ?_ ?_
      rotate_left
      · intro w'
        go_simp
        with_reducible rfl
      rotate_left
      · simp only [Act.put, sA_, sB_, sC_, zL, zM]
        rfl
      refine pure_ (i := 8) (N := some 79) (v := ?_) (a' := ?_) #[false, true, true, true, false, true, false, false, true, false, false, false] rfl rfl (zN HT_.out (by kernel_rfl)) (fun _ _ _ h => h) (Or.inl ⟨by rfl, ?_⟩) ?_ ?_
      rotate_left
      · intro w'
        go_simp
        with_reducible rfl
      rotate_left
      · simp only [Act.put, sA_, sB_, sC_, zL, zM]
        rfl
      refine take_ (i := 0) (N := some 71) (v := ?_) (a' := ?_) #[true, true, true, true, false, true, false, false, true, false, false, false] rfl rfl (take_ofW HT_.out HW_.out (by kernel_rfl)) (fun _ _ _ h => h) (Or.inl ⟨by rfl, ?_⟩) hHeld ?_ ?_
      rotate_left
      · rintro w' ⟨s0, s1, s2, s3, s4, s5, s6, s7, s8⟩
        go_simp
        with_reducible rfl
      rotate_left
      · simp only [Act.put, sA_, sB_, sC_, zL, zM]
        rfl
      refine take_ (i := 4) (N := some 75) (v := ?_) (a' := ?_) #[true, true, true, true, true, true, false, false, true, false, false, false] rfl rfl (take_ofW HT_.out HW_.out (by kernel_rfl)) (fun _ _ _ h => h) (Or.inl ⟨by rfl, ?_⟩) hHeld ?_ ?_
      rotate_left
      · rintro w' ⟨s0, s1, s2, s3, s4, s5, s6, s7, s8⟩
        go_simp
        with_reducible rfl
      rotate_left
      · simp only [Act.put, sA_, sB_, sC_, zL, zM]
        rfl
      refine pure_ (i := 6) (N := some 77) (v := ?_) (a' := ?_) #[true, true, true, true, true, true, true, false, true, false, false, false] rfl rfl (zN HT_.out (by kernel_rfl)) (fun _ _ _ h => h) (Or.inl ⟨by rfl, ?_⟩) ?_ ?_
      rotate_left
      · intro w'
        go_simp
        with_reducible rfl
      rotate_left
      · simp only [Act.put, sA_, sB_, sC_, zL, zM]
        rfl
      refine take_ (i := 7) (N := some 78) (v := ?_) (a' := ?_) (tf_ 9 12) rfl rfl (take_ofW HT_.out HW_.out (by kernel_rfl)) (fun _ _ _ h => h) (Or.inl ⟨by rfl, ?_⟩) hHeld ?_ ?_
      rotate_left
      · rintro w' ⟨s0, s1, s2, s3, s4, s5, s6, s7, s8⟩
        go_simp
        with_reducible rfl
      rotate_left
      · simp only [Act.put, sA_, sB_, sC_, zL, zM]
        rfl
      refine take_ (i := 9) (N := some 80) (v := ?_) (a' := ?_) (tf_ 10 12) rfl rfl (take_ofW HT_.out HW_.out (by kernel_rfl)) (fun _ _ _ h => h) (Or.inl ⟨by rfl, ?_⟩) hHeld ?_ ?_
      rotate_left
      · rintro w' ⟨s0, s1, s2, s3, s4, s5, s6, s7, s8⟩
        go_simp
        with_reducible rfl
      rotate_left
      · simp only [Act.put, sA_, sB_, sC_, zL, zM]
        rfl
      refine one_ (i := 10) (N := some 81) #[true, true, true, true, true, true, true, true, true, true, true, false] rfl rfl (one_of HT_.out (by kernel_rfl)) (by decide) (fun K hK => ?_)
      refine goes_ Try.func30 (by kernel_rfl) rfl #[.agg #[.slice A0_0 l0_0.length c0_0, .slice (some ad160) l0_1.length c0_1], .int .i64 a1, .int .i64 x9_4, .int .u8 (rd l0_1 x9_4), .int .i64 a3_1] (by rfl) rfl rfl (by (try simp only [List.map_toArray, List.map_cons, List.map_nil]); first | done | rfl | (simp only [List.length_drop, List.length_take]; rfl)) ?_
      with_reducible refine (span_Make.calls kj4 _ _ l0_0 _ _ l0_1 a1 x9_4 (rd l0_1 x9_4) a3_1 t161 t162 t163 t164 _ ?side1 ?side2 ?side3 ?side4 A78.out).mono ?_
      (case side1 => repeat (first | exact (Kd.C_below HR0_0.out HB.out) | (with_reducible refine Kd.C_alloc ?_ _) | (with_reducible refine Kd.C_drewN ?_ _) | (with_reducible refine Kd.C_drew ?_)))
      (case side2 => exact HC0_0.out)
      (case side3 => repeat (first | exact (Kd.C_below HR0_1.out HB.out) | (with_reducible refine Kd.C_alloc ?_ _) | (with_reducible refine Kd.C_drewN ?_ _) | (with_reducible refine Kd.C_drew ?_)))
      (case side4 => exact HC0_1.out)
      rintro e w80 ⟨rfl, hb⟩
      refine ⟨_, rfl, ?_⟩
      have n0_ := zC.mk (zK (g := gb151) (o := .cells #[.slice A0_0 l0_0.length c0_0, .slice (some ad160) l0_1.length c0_1] 31 (0, 0)) (by (with_reducible repeat (first | refine zB ?_ _ | refine zD ?_ | refine zA ?_ _)); exact BK151.out) hb)
      have n1_ := zC.mk (zK (g := gb152) (o := .cells #[.int .i64 a3_0, .int .i64 a3_1, .int .u8 a3_2, .int .i64 a3_3, .int .i64 a3_4, .float .f64 a3_5] 35 (0, 0)) (by (with_reducible repeat (first | refine zB ?_ _ | refine zD ?_ | refine zA ?_ _)); exact BK152.out) hb)
      have n2_ := zC.mk (zK (g := gb153) (o := .cells #[.int .i64 0, .int .i64 0, .int .i64 0, .int .u8 0] 54 (0, 0)) (by (with_reducible repeat (first | refine zB ?_ _ | refine zD ?_ | refine zA ?_ _)); exact BK153.out) hb)
      have n3_ := zC.mk (zQ (by repeat (first | (with_reducible first | exact HB.out | apply zJ | apply zG | apply zI | refine zE ?_ GE151.out | refine zE ?_ GE152.out | refine zE ?_ GE153.out) | exact HB.out)) hb)
      clear BK151 BK152 BK153 HB; have BK151 := n0_; have BK152 := n1_; have BK153 := n2_; have HB := n3_; clear n0_ n1_ n2_ n3_; (try clear hb)
      (try clear hb2)
      (try clear hk)
      (try clear hi)
      refine hK.out _ _ ⟨(zF BK151.out 0).trans rfl, (zF BK151.out 1).trans rfl, (zF BK152.out 0).trans rfl, (zF BK152.out 1).trans rfl, (zF BK152.out 2).trans rfl, (zF BK152.out 3).trans rfl, (zF BK152.out 4).trans rfl, (zF BK152.out 5).trans rfl, ((HB.out.cell (World.block_lt_of_cell? w _ hw160_0)).trans hw160_0)⟩ (fun hHeld => ?_)
      clear hK K; refine norm_ (a' := ?_) ?_ ?_
      rotate_left
      · show Act.put _ (some 81) _ = _
        simp only [Act.put, sA_, sB_, sC_, zL, zM]; rfl
      refine one_ (i := 11) (N := none) #[true, true, true, true, true, true, true, true, true, true, true, true] rfl rfl (one_of HT_.out (by kernel_rfl)) (by decide) (fun K hK => ?_)
      have hs81 : w80.cell? ⟨gb153, 0, none⟩ = some (.int .i64 0) := (zF BK153.out 0).trans rfl
      have hfs81 := zH BK153.out 0; have hns81_0 := NB151_153.out; have hns81_1 := NB152_153.out; have hms81_0 := NB153_151.out; have hms81_1 := NB153_152.out; have hs82 : w80.cell? ⟨gb153, 1, none⟩ = some (.int .i64 0) := (zF BK153.out 1).trans rfl
      have hfs82 := zH BK153.out 1; have hns82_0 := NB151_153.out; have hns82_1 := NB152_153.out; have hms82_0 := NB153_151.out; have hms82_1 := NB153_152.out; have hs83 : w80.cell? ⟨gb153, 2, none⟩ = some (.int .i64 0) := (zF BK153.out 2).trans rfl
      have hfs83 := zH BK153.out 2; have hns83_0 := NB151_153.out; have hns83_1 := NB152_153.out; have hms83_0 := NB153_151.out; have hms83_1 := NB153_152.out; have hs84 : w80.cell? ⟨gb153, 3, none⟩ = some (.int .u8 0) := (zF BK153.out 3).trans rfl
      have hfs84 := zH BK153.out 3; have hns84_0 := NB151_153.out; have hns84_1 := NB152_153.out; have hms84_0 := NB153_151.out; have hms84_1 := NB153_152.out; refine skip_ (w1 := ?_) (by rfl) rfl ?_ ?_
      rotate_left
      · go_simp
        rfl
      refine hK.out _ _ ⟨((cell_far (p := ⟨gb153, _, none⟩) NB151_153.out _).trans (((cell_far (p := ⟨gb153, _, none⟩) NB151_153.out _).trans (((cell_far (p := ⟨gb153, _, none⟩) NB151_153.out _).trans (((cell_far (p := ⟨gb153, _, none⟩) NB151_153.out _).trans (hHeld.1)))))))), ((cell_far (p := ⟨gb153, _, none⟩) NB151_153.out _).trans (((cell_far (p := ⟨gb153, _, none⟩) NB151_153.out _).trans (((cell_far (p := ⟨gb153, _, none⟩) NB151_153.out _).trans (((cell_far (p := ⟨gb153, _, none⟩) NB151_153.out _).trans (hHeld.2.1)))))))), ((cell_far (p := ⟨gb153, _, none⟩) NB152_153.out _).trans (((cell_far (p := ⟨gb153, _, none⟩) NB152_153.out _).trans (((cell_far (p := ⟨gb153, _, none⟩) NB152_153.out _).trans (((cell_far (p := ⟨gb153, _, none⟩) NB152_153.out _).trans (hHeld.2.2.1)))))))), ((cell_far (p := ⟨gb153, _, none⟩) NB152_153.out _).trans (((cell_far (p := ⟨gb153, _, none⟩) NB152_153.out _).trans (((cell_far (p := ⟨gb153, _, none⟩) NB152_153.out _).trans (((cell_far (p := ⟨gb153, _, none⟩) NB152_153.out _).trans (hHeld.2.2.2.1)))))))), ((cell_far (p := ⟨gb153, _, none⟩) NB152_153.out _).trans (((cell_far (p := ⟨gb153, _, none⟩) NB152_153.out _).trans (((cell_far (p := ⟨gb153, _, none⟩) NB152_153.out _).trans (((cell_far (p := ⟨gb153, _, none⟩) NB152_153.out _).trans (hHeld.2.2.2.2.1)))))))), ((cell_far (p := ⟨gb153, _, none⟩) NB152_153.out _).trans (((cell_far (p := ⟨gb153, _, none⟩) NB152_153.out _).trans (((cell_far (p := ⟨gb153, _, none⟩) NB152_153.out _).trans (((cell_far (p := ⟨gb153, _, none⟩) NB152_153.out _).trans (hHeld.2.2.2.2.2.1)))))))), ((cell_far (p := ⟨gb153, _, none⟩) NB152_153.out _).trans (((cell_far (p := ⟨gb153, _, none⟩) NB152_153.out _).trans (((cell_far (p := ⟨gb153, _, none⟩) NB152_153.out _).trans (((cell_far (p := ⟨gb153, _, none⟩) NB152_153.out _).trans (hHeld.2.2.2.2.2.2.1)))))))), ((cell_far (p := ⟨gb153, _, none⟩) NB152_153.out _).trans (((cell_far (p := ⟨gb153, _, none⟩) NB152_153.out _).trans (((cell_far (p := ⟨gb153, _, none⟩) NB152_153.out _).trans (((cell_far (p := ⟨gb153, _, none⟩) NB152_153.out _).trans (hHeld.2.2.2.2.2.2.2.1)))))))), ((cell_far (p := ⟨gb153, _, none⟩) (by first | exact Nat.ne_of_lt (Nat.lt_of_lt_of_le (by have := World.block_lt_of_cell? _ _ hw160_0; first | rwa [add_block] at this | exact this) GW153.out) | (rw [add_block]; exact Nat.ne_of_lt (Nat.lt_of_lt_of_le (by have := World.block_lt_of_cell? _ _ hw160_0; first | rwa [add_block] at this | exact this) GW153.out)) | (show (Addr.add _ _).block ≠ _; rw [add_block]; exact Nat.ne_of_lt (Nat.lt_of_lt_of_le (by have := World.block_lt_of_cell? _ _ hw160_0; first | rwa [add_block] at this | exact this) GW153.out)) | (dsimp only; exact Nat.ne_of_lt (Nat.lt_of_lt_of_le (by have := World.block_lt_of_cell? _ _ hw160_0; first | rwa [add_block] at this | exact this) GW153.out))) _).trans (((cell_far (p := ⟨gb153, _, none⟩) (by first | exact Nat.ne_of_lt (Nat.lt_of_lt_of_le (by have := World.block_lt_of_cell? _ _ hw160_0; first | rwa [add_block] at this | exact this) GW153.out) | (rw [add_block]; exact Nat.ne_of_lt (Nat.lt_of_lt_of_le (by have := World.block_lt_of_cell? _ _ hw160_0; first | rwa [add_block] at this | exact this) GW153.out)) | (show (Addr.add _ _).block ≠ _; rw [add_block]; exact Nat.ne_of_lt (Nat.lt_of_lt_of_le (by have := World.block_lt_of_cell? _ _ hw160_0; first | rwa [add_block] at this | exact this) GW153.out)) | (dsimp only; exact Nat.ne_of_lt (Nat.lt_of_lt_of_le (by have := World.block_lt_of_cell? _ _ hw160_0; first | rwa [add_block] at this | exact this) GW153.out))) _).trans (((cell_far (p := ⟨gb153, _, none⟩) (by first | exact Nat.ne_of_lt (Nat.lt_of_lt_of_le (by have := World.block_lt_of_cell? _ _ hw160_0; first | rwa [add_block] at this | exact this) GW153.out) | (rw [add_block]; exact Nat.ne_of_lt (Nat.lt_of_lt_of_le (by have := World.block_lt_of_cell? _ _ hw160_0; first | rwa [add_block] at this | exact this) GW153.out)) | (show (Addr.add _ _).block ≠ _; rw [add_block]; exact Nat.ne_of_lt (Nat.lt_of_lt_of_le (by have := World.block_lt_of_cell? _ _ hw160_0; first | rwa [add_block] at this | exact this) GW153.out)) | (dsimp only; exact Nat.ne_of_lt (Nat.lt_of_lt_of_le (by have := World.block_lt_of_cell? _ _ hw160_0; first | rwa [add_block] at this | exact this) GW153.out))) _).trans (((cell_far (p := ⟨gb153, _, none⟩) (by first | exact Nat.ne_of_lt (Nat.lt_of_lt_of_le (by have := World.block_lt_of_cell? _ _ hw160_0; first | rwa [add_block] at this | exact this) GW153.out) | (rw [add_block]; exact Nat.ne_of_lt (Nat.lt_of_lt_of_le (by have := World.block_lt_of_cell? _ _ hw160_0; first | rwa [add_block] at this | exact this) GW153.out)) | (show (Addr.add _ _).block ≠ _; rw [add_block]; exact Nat.ne_of_lt (Nat.lt_of_lt_of_le (by have := World.block_lt_of_cell? _ _ hw160_0; first | rwa [add_block] at this | exact this) GW153.out)) | (dsimp only; exact Nat.ne_of_lt (Nat.lt_of_lt_of_le (by have := World.block_lt_of_cell? _ _ hw160_0; first | rwa [add_block] at this | exact this) GW153.out))) _).trans (hHeld.2.2.2.2.2.2.2.2))))))))⟩ (fun hHeld => ?_)
      clear hK K; refine done_ (done_of HT_.out (by kernel_rfl)) ?_
      try go_wp2
      refine bodyPost_ret (results_cell_row rfl _ _ gb153 54 #[.int .i64 t161, .int .i64 t162, .int .i64 t163, .int .u8 t164] (0, 0) _ rfl (by (with_reducible repeat (first | refine zB ?_ _ | refine zD ?_ | refine zA ?_ _)); refine blk_put (cs := #[.int .i64 t161, .int .i64 t162, .int .i64 t163, .int .u8 0]) ?_ 3 _ rfl; (with_reducible repeat (first | refine zB ?_ _ | refine zD ?_ | refine zA ?_ _)); refine blk_put (cs := #[.int .i64 t161, .int .i64 t162, .int .i64 0, .int .u8 0]) ?_ 2 _ rfl; (with_reducible repeat (first | refine zB ?_ _ | refine zD ?_ | refine zA ?_ _)); refine blk_put (cs := #[.int .i64 t161, .int .i64 0, .int .i64 0, .int .u8 0]) ?_ 1 _ rfl; (with_reducible repeat (first | refine zB ?_ _ | refine zD ?_ | refine zA ?_ _)); refine blk_put (cs := #[.int .i64 0, .int .i64 0, .int .i64 0, .int .u8 0]) ?_ 0 _ rfl; (with_reducible repeat (first | refine zB ?_ _ | refine zD ?_ | refine zA ?_ _)); exact BK153.out) Try.underlying54 rfl (by kernel_rfl)) rfl ?_
      exact ⟨by first | rfl | (simp [errW_none, errW_some] <;> rfl) | (simp [*, errW_none, errW_some] <;> rfl), by repeat (first | (with_reducible first | exact HB.out | apply zJ | apply zG | apply zI | refine zE ?_ GE151.out | refine zE ?_ GE152.out | refine zE ?_ GE153.out) | exact HB.out)⟩
    rw [if_neg c75] at H; have c75b0 : decide (0 ≤ x9_4) = false := decide_eq_false c75
    clear c75; by_cases c85 : x10_4 = a2
    rotate_left
    · rw [if_neg c85] at H
      have c85b0 : (x10_4 == a2) = false := beq_eq_false_iff_ne.mpr c85
      have c85b1 : (x10_4 != a2) = true := bne_iff_ne.mpr c85
      by_cases c119 : x10_4 < a2
      rotate_left
      · rw [if_neg c119] at H
        have c119b0 : decide (x10_4 < a2) = false := decide_eq_false c119
        clear c119; replace H := Option.bind_eq_some_iff.mp H; obtain ⟨⟨t188, t189, t190, t191⟩, A1410, H⟩ := H; replace H : (some (t188, t189, t190, t191)) = some (r1, r2, r3, r4) := H; have A141 := zC.mk A1410; clear A1410; simp only [Option.some.injEq, Prod.mk.injEq] at H; obtain ⟨rfl, rfl, rfl, rfl⟩ := H; have hnb142 := NB151_152.out; have hnc142 := NB152_151.out; have hnb143 := NB151_153.out; have hnc143 := NB153_151.out; have hcz144_0 : wc.cell? ⟨gb151, 0, none⟩ = some (.slice A0_0 l0_0.length c0_0) := (zF BK151.out 0).trans rfl
        have hcz144_1 : wc.cell? ⟨gb151, 1, none⟩ = some (.slice A0_1 l0_1.length c0_1) := (zF BK151.out 1).trans rfl
        have hfz144_0 := zH BK151.out 0; have hfz144_1 := zH BK151.out 1; have hnb145 := NB152_153.out; have hnc145 := NB153_152.out; have hcz146_0 : wc.cell? ⟨gb152, 0, none⟩ = some (.int .i64 a3_0) := (zF BK152.out 0).trans rfl
        have hcz146_1 : wc.cell? ⟨gb152, 1, none⟩ = some (.int .i64 a3_1) := (zF BK152.out 1).trans rfl
        have hcz146_2 : wc.cell? ⟨gb152, 2, none⟩ = some (.int .u8 a3_2) := (zF BK152.out 2).trans rfl
        have hcz146_3 : wc.cell? ⟨gb152, 3, none⟩ = some (.int .i64 a3_3) := (zF BK152.out 3).trans rfl
        have hcz146_4 : wc.cell? ⟨gb152, 4, none⟩ = some (.int .i64 a3_4) := (zF BK152.out 4).trans rfl
        have hcz146_5 : wc.cell? ⟨gb152, 5, none⟩ = some (.float .f64 a3_5) := (zF BK152.out 5).trans rfl
        have hfz146_0 := zH BK152.out 0; have hfz146_1 := zH BK152.out 1; have hfz146_2 := zH BK152.out 2; have hfz146_3 := zH BK152.out 3; have hfz146_4 := zH BK152.out 4; have hfz146_5 := zH BK152.out 5; go_wp2_with (first | ((with_reducible refine gate_callee (f := 30) rfl ?_); refine goesL_ (some 107) rfl rfl Try.func30 (by kernel_rfl) rfl #[.agg #[.slice A0_0 l0_0.length c0_0, .slice A0_1 l0_1.length c0_1], .int .i64 a1, .int .i64 x10_4, .int .u8 4, .int .i64 a3_1] rfl (by (try simp only [List.map_toArray, List.map_cons, List.map_nil]); first | done | rfl | (simp only [List.length_drop, List.length_take]; rfl)) ?_; (with_reducible refine (span_Make.calls kj4 _ _ l0_0 _ _ l0_1 a1 x10_4 4 a3_1 t188 t189 t190 t191 _ ?side1 ?side2 ?side3 ?side4 A141.out).mono ?_); (case side1 => repeat (first | exact (Kd.C_below HR0_0.out HB.out) | (with_reducible refine Kd.C_alloc ?_ _) | (with_reducible refine Kd.C_drewN ?_ _) | (with_reducible refine Kd.C_drew ?_))); (case side2 => exact HC0_0.out); (case side3 => repeat (first | exact (Kd.C_below HR0_1.out HB.out) | (with_reducible refine Kd.C_alloc ?_ _) | (with_reducible refine Kd.C_drewN ?_ _) | (with_reducible refine Kd.C_drew ?_))); (case side4 => exact HC0_1.out); rintro e w147 ⟨rfl, hb⟩; refine ⟨_, rfl, ?_⟩; have n0_ := zC.mk (zK (g := gb151) (o := .cells #[.slice A0_0 l0_0.length c0_0, .slice A0_1 l0_1.length c0_1] 31 (0, 0)) (by (with_reducible repeat (first | refine zB ?_ _ | refine zD ?_ | refine zA ?_ _)); exact BK151.out) hb); have n1_ := zC.mk (zK (g := gb152) (o := .cells #[.int .i64 a3_0, .int .i64 a3_1, .int .u8 a3_2, .int .i64 a3_3, .int .i64 a3_4, .float .f64 a3_5] 35 (0, 0)) (by (with_reducible repeat (first | refine zB ?_ _ | refine zD ?_ | refine zA ?_ _)); exact BK152.out) hb); have n2_ := zC.mk (zK (g := gb153) (o := .cells #[.int .i64 0, .int .i64 0, .int .i64 0, .int .u8 0] 54 (0, 0)) (by (with_reducible repeat (first | refine zB ?_ _ | refine zD ?_ | refine zA ?_ _)); exact BK153.out) hb); have n3_ := zC.mk (zQ (by repeat (first | (with_reducible first | exact HB.out | apply zJ | apply zG | apply zI | refine zE ?_ GE151.out | refine zE ?_ GE152.out | refine zE ?_ GE153.out) | exact HB.out)) hb); clear BK151; clear BK152; clear BK153; clear HB; have BK151 := n0_; have BK152 := n1_; have BK153 := n2_; have HB := n3_; clear n0_ n1_ n2_ n3_; (try clear hb); (try clear hb2); (try clear hk); (try clear hi); have hcz148_0 : w147.cell? ⟨gb153, 0, none⟩ = some (.int .i64 0) := (zF BK153.out 0).trans rfl; have hcz148_1 : w147.cell? ⟨gb153, 1, none⟩ = some (.int .i64 0) := (zF BK153.out 1).trans rfl; have hcz148_2 : w147.cell? ⟨gb153, 2, none⟩ = some (.int .i64 0) := (zF BK153.out 2).trans rfl; have hcz148_3 : w147.cell? ⟨gb153, 3, none⟩ = some (.int .u8 0) := (zF BK153.out 3).trans rfl; have hfz148_0 := zH BK153.out 0; have hfz148_1 := zH BK153.out 1; have hfz148_2 := zH BK153.out 2; have hfz148_3 := zH BK153.out 3) | ((with_reducible refine gate_store (t := 54) (p := 8) rfl ?_); refine store_event (t := 54) (p := 8) (v := ?vo_w149) (w1 := ((((w147.setCell ⟨gb153, 0, none⟩ (.int .i64 t188)).setCell ⟨gb153, 1, none⟩ (.int .i64 t189)).setCell ⟨gb153, 2, none⟩ (.int .i64 t190)).setCell ⟨gb153, 3, none⟩ (.int .u8 t191))) ?hg ?ho ?hn ?hr ?_; (case ho => rfl); (case hg => rfl); (case hn => rfl); (case hr => first | (go_simp; done) | (go_simp; rfl)); intro w149 hw; have n0_ : zC (w149.heap[gb151]? = some (.cells #[.slice A0_0 l0_0.length c0_0, .slice A0_1 l0_1.length c0_1] 31 (0, 0))) := ⟨(by rw [hw]; exact (by (with_reducible repeat (first | refine zB ?_ _ | refine zD ?_ | refine zA ?_ _)); refine zO ?_ NB151_153.out _; (with_reducible repeat (first | refine zB ?_ _ | refine zD ?_ | refine zA ?_ _)); refine zO ?_ NB151_153.out _; (with_reducible repeat (first | refine zB ?_ _ | refine zD ?_ | refine zA ?_ _)); refine zO ?_ NB151_153.out _; (with_reducible repeat (first | refine zB ?_ _ | refine zD ?_ | refine zA ?_ _)); refine zO ?_ NB151_153.out _; (with_reducible repeat (first | refine zB ?_ _ | refine zD ?_ | refine zA ?_ _)); exact BK151.out))⟩; have n1_ : zC (w149.heap[gb152]? = some (.cells #[.int .i64 a3_0, .int .i64 a3_1, .int .u8 a3_2, .int .i64 a3_3, .int .i64 a3_4, .float .f64 a3_5] 35 (0, 0))) := ⟨(by rw [hw]; exact (by (with_reducible repeat (first | refine zB ?_ _ | refine zD ?_ | refine zA ?_ _)); refine zO ?_ NB152_153.out _; (with_reducible repeat (first | refine zB ?_ _ | refine zD ?_ | refine zA ?_ _)); refine zO ?_ NB152_153.out _; (with_reducible repeat (first | refine zB ?_ _ | refine zD ?_ | refine zA ?_ _)); refine zO ?_ NB152_153.out _; (with_reducible repeat (first | refine zB ?_ _ | refine zD ?_ | refine zA ?_ _)); refine zO ?_ NB152_153.out _; (with_reducible repeat (first | refine zB ?_ _ | refine zD ?_ | refine zA ?_ _)); exact BK152.out))⟩; have n2_ : zC (w149.heap[gb153]? = some (.cells #[.int .i64 t188, .int .i64 t189, .int .i64 t190, .int .u8 t191] 54 (0, 0))) := ⟨(by rw [hw]; exact (by (with_reducible repeat (first | refine zB ?_ _ | refine zD ?_ | refine zA ?_ _)); refine blk_put (cs := #[.int .i64 t188, .int .i64 t189, .int .i64 t190, .int .u8 0]) ?_ 3 _ rfl; (with_reducible repeat (first | refine zB ?_ _ | refine zD ?_ | refine zA ?_ _)); refine blk_put (cs := #[.int .i64 t188, .int .i64 t189, .int .i64 0, .int .u8 0]) ?_ 2 _ rfl; (with_reducible repeat (first | refine zB ?_ _ | refine zD ?_ | refine zA ?_ _)); refine blk_put (cs := #[.int .i64 t188, .int .i64 0, .int .i64 0, .int .u8 0]) ?_ 1 _ rfl; (with_reducible repeat (first | refine zB ?_ _ | refine zD ?_ | refine zA ?_ _)); refine blk_put (cs := #[.int .i64 0, .int .i64 0, .int .i64 0, .int .u8 0]) ?_ 0 _ rfl; (with_reducible repeat (first | refine zB ?_ _ | refine zD ?_ | refine zA ?_ _)); exact BK153.out))⟩; have n3_ : zC (Below w.heap.size w w149) := ⟨(by rw [hw]; exact (by repeat (first | (with_reducible first | exact HB.out | apply zJ | apply zG | apply zI | refine zE ?_ GE151.out | refine zE ?_ GE152.out | refine zE ?_ GE153.out) | exact HB.out)))⟩; clear hw; clear BK151; clear BK152; clear BK153; clear HB; have BK151 := n0_; have BK152 := n1_; have BK153 := n2_; have HB := n3_; clear n0_ n1_ n2_ n3_))
        refine bodyPost_ret (results_cell_row rfl _ _ gb153 54 #[.int .i64 t188, .int .i64 t189, .int .i64 t190, .int .u8 t191] (0, 0) _ rfl (by (with_reducible repeat (first | refine zB ?_ _ | refine zD ?_ | refine zA ?_ _)); exact BK153.out) Try.underlying54 rfl (by kernel_rfl)) rfl ?_
        exact ⟨by first | rfl | (simp [errW_none, errW_some] <;> rfl) | (simp [*, errW_none, errW_some] <;> rfl), by repeat (first | (with_reducible first | exact HB.out | apply zJ | apply zG | apply zI | refine zE ?_ GE151.out | refine zE ?_ GE152.out | refine zE ?_ GE153.out) | exact HB.out)⟩
      rw [if_pos c119] at H; have c119b0 : decide (x10_4 < a2) = true := decide_eq_true c119
      clear c119; by_cases c120 : 0 ≤ x10_4
      rotate_left
      · rw [if_neg c120] at H
        exact absurd H (by simp)
      rw [if_pos c120] at H; have c120b0 : decide (0 ≤ x10_4) = true := decide_eq_true c120
      clear c120; by_cases c121 : x10_4 < (l0_1.length : Int)
      rotate_left
      · rw [if_neg c121] at H
        exact absurd H (by simp)
      rw [if_pos c121] at H; have c121b0 : decide (x10_4 < (l0_1.length : Int)) = true := decide_eq_true c121
      clear c121; by_cases c122 : (rd l0_1 x10_4) = 1
      · rw [if_pos c122] at H
        have c122b0 : ((rd l0_1 x10_4) == 1) = true := beq_iff_eq.mpr c122
        have c122b1 : ((rd l0_1 x10_4) != 1) = false := bne_eq_false_iff_eq.mpr c122
        clear c122; replace H := Option.bind_eq_some_iff.mp H; obtain ⟨⟨t180, t181, t182, t183⟩, A1230, H⟩ := H; replace H : (some (t180, t181, t182, t183)) = some (r1, r2, r3, r4) := H; have A123 := zC.mk A1230; clear A1230; simp only [Option.some.injEq, Prod.mk.injEq] at H; obtain ⟨rfl, rfl, rfl, rfl⟩ := H; have hnb124 := NB151_152.out; have hnc124 := NB152_151.out; have hnb125 := NB151_153.out; have hnc125 := NB153_151.out; have hcz126_0 : wc.cell? ⟨gb151, 0, none⟩ = some (.slice A0_0 l0_0.length c0_0) := (zF BK151.out 0).trans rfl
        have hcz126_1 : wc.cell? ⟨gb151, 1, none⟩ = some (.slice A0_1 l0_1.length c0_1) := (zF BK151.out 1).trans rfl
        have hfz126_0 := zH BK151.out 0; have hfz126_1 := zH BK151.out 1; have p179 : 0 ≤ (x10_4 : Int) := of_decide_eq_true (by first | (with_reducible assumption) | assumption)
        have q179 : x10_4 < (l0_1.length : Int) := of_decide_eq_true (by first | (with_reducible assumption) | assumption)
        obtain ⟨ad179, e179, hx179_0⟩ := Kd.at_int HR0_1.out x10_4 p179 q179; cases e179
        replace hx179_0 := (HB.out.cell (World.block_lt_of_cell? w _ hx179_0)).trans hx179_0; replace p179 := eq_true p179; replace q179 := eq_true q179; have hnb127 := NB152_153.out; have hnc127 := NB153_152.out; have hcz128_0 : wc.cell? ⟨gb152, 0, none⟩ = some (.int .i64 a3_0) := (zF BK152.out 0).trans rfl
        have hcz128_1 : wc.cell? ⟨gb152, 1, none⟩ = some (.int .i64 a3_1) := (zF BK152.out 1).trans rfl
        have hcz128_2 : wc.cell? ⟨gb152, 2, none⟩ = some (.int .u8 a3_2) := (zF BK152.out 2).trans rfl
        have hcz128_3 : wc.cell? ⟨gb152, 3, none⟩ = some (.int .i64 a3_3) := (zF BK152.out 3).trans rfl
        have hcz128_4 : wc.cell? ⟨gb152, 4, none⟩ = some (.int .i64 a3_4) := (zF BK152.out 4).trans rfl
        have hcz128_5 : wc.cell? ⟨gb152, 5, none⟩ = some (.float .f64 a3_5) := (zF BK152.out 5).trans rfl
        have hfz128_0 := zH BK152.out 0; have hfz128_1 := zH BK152.out 1; have hfz128_2 := zH BK152.out 2; have hfz128_3 := zH BK152.out 3; have hfz128_4 := zH BK152.out 4; have hfz128_5 := zH BK152.out 5; go_wp2_with (first | ((with_reducible refine gate_callee (f := 30) rfl ?_); refine goesL_ (some 107) rfl rfl Try.func30 (by kernel_rfl) rfl #[.agg #[.slice A0_0 l0_0.length c0_0, .slice (some ad179) l0_1.length c0_1], .int .i64 a1, .int .i64 x10_4, .int .u8 1, .int .i64 a3_1] rfl (by (try simp only [List.map_toArray, List.map_cons, List.map_nil]); first | done | rfl | (simp only [List.length_drop, List.length_take]; rfl)) ?_; (with_reducible refine (span_Make.calls kj4 _ _ l0_0 _ _ l0_1 a1 x10_4 1 a3_1 t180 t181 t182 t183 _ ?side1 ?side2 ?side3 ?side4 A123.out).mono ?_); (case side1 => repeat (first | exact (Kd.C_below HR0_0.out HB.out) | (with_reducible refine Kd.C_alloc ?_ _) | (with_reducible refine Kd.C_drewN ?_ _) | (with_reducible refine Kd.C_drew ?_))); (case side2 => exact HC0_0.out); (case side3 => repeat (first | exact (Kd.C_below HR0_1.out HB.out) | (with_reducible refine Kd.C_alloc ?_ _) | (with_reducible refine Kd.C_drewN ?_ _) | (with_reducible refine Kd.C_drew ?_))); (case side4 => exact HC0_1.out); rintro e w129 ⟨rfl, hb⟩; refine ⟨_, rfl, ?_⟩; have n0_ := zC.mk (zK (g := gb151) (o := .cells #[.slice A0_0 l0_0.length c0_0, .slice (some ad179) l0_1.length c0_1] 31 (0, 0)) (by (with_reducible repeat (first | refine zB ?_ _ | refine zD ?_ | refine zA ?_ _)); exact BK151.out) hb); have n1_ := zC.mk (zK (g := gb152) (o := .cells #[.int .i64 a3_0, .int .i64 a3_1, .int .u8 a3_2, .int .i64 a3_3, .int .i64 a3_4, .float .f64 a3_5] 35 (0, 0)) (by (with_reducible repeat (first | refine zB ?_ _ | refine zD ?_ | refine zA ?_ _)); exact BK152.out) hb); have n2_ := zC.mk (zK (g := gb153) (o := .cells #[.int .i64 0, .int .i64 0, .int .i64 0, .int .u8 0] 54 (0, 0)) (by (with_reducible repeat (first | refine zB ?_ _ | refine zD ?_ | refine zA ?_ _)); exact BK153.out) hb); have n3_ := zC.mk (zQ (by repeat (first | (with_reducible first | exact HB.out | apply zJ | apply zG | apply zI | refine zE ?_ GE151.out | refine zE ?_ GE152.out | refine zE ?_ GE153.out) | exact HB.out)) hb); clear BK151; clear BK152; clear BK153; clear HB; have BK151 := n0_; have BK152 := n1_; have BK153 := n2_; have HB := n3_; clear n0_ n1_ n2_ n3_; (try clear hb); (try clear hb2); (try clear hk); (try clear hi); have hcz130_0 : w129.cell? ⟨gb153, 0, none⟩ = some (.int .i64 0) := (zF BK153.out 0).trans rfl; have hcz130_1 : w129.cell? ⟨gb153, 1, none⟩ = some (.int .i64 0) := (zF BK153.out 1).trans rfl; have hcz130_2 : w129.cell? ⟨gb153, 2, none⟩ = some (.int .i64 0) := (zF BK153.out 2).trans rfl; have hcz130_3 : w129.cell? ⟨gb153, 3, none⟩ = some (.int .u8 0) := (zF BK153.out 3).trans rfl; have hfz130_0 := zH BK153.out 0; have hfz130_1 := zH BK153.out 1; have hfz130_2 := zH BK153.out 2; have hfz130_3 := zH BK153.out 3) | ((with_reducible refine gate_store (t := 54) (p := 8) rfl ?_); refine store_event (t := 54) (p := 8) (v := ?vo_w131) (w1 := ((((w129.setCell ⟨gb153, 0, none⟩ (.int .i64 t180)).setCell ⟨gb153, 1, none⟩ (.int .i64 t181)).setCell ⟨gb153, 2, none⟩ (.int .i64 t182)).setCell ⟨gb153, 3, none⟩ (.int .u8 t183))) ?hg ?ho ?hn ?hr ?_; (case ho => rfl); (case hg => rfl); (case hn => rfl); (case hr => first | (go_simp; done) | (go_simp; rfl)); intro w131 hw; have n0_ : zC (w131.heap[gb151]? = some (.cells #[.slice A0_0 l0_0.length c0_0, .slice (some ad179) l0_1.length c0_1] 31 (0, 0))) := ⟨(by rw [hw]; exact (by (with_reducible repeat (first | refine zB ?_ _ | refine zD ?_ | refine zA ?_ _)); refine zO ?_ NB151_153.out _; (with_reducible repeat (first | refine zB ?_ _ | refine zD ?_ | refine zA ?_ _)); refine zO ?_ NB151_153.out _; (with_reducible repeat (first | refine zB ?_ _ | refine zD ?_ | refine zA ?_ _)); refine zO ?_ NB151_153.out _; (with_reducible repeat (first | refine zB ?_ _ | refine zD ?_ | refine zA ?_ _)); refine zO ?_ NB151_153.out _; (with_reducible repeat (first | refine zB ?_ _ | refine zD ?_ | refine zA ?_ _)); exact BK151.out))⟩; have n1_ : zC (w131.heap[gb152]? = some (.cells #[.int .i64 a3_0, .int .i64 a3_1, .int .u8 a3_2, .int .i64 a3_3, .int .i64 a3_4, .float .f64 a3_5] 35 (0, 0))) := ⟨(by rw [hw]; exact (by (with_reducible repeat (first | refine zB ?_ _ | refine zD ?_ | refine zA ?_ _)); refine zO ?_ NB152_153.out _; (with_reducible repeat (first | refine zB ?_ _ | refine zD ?_ | refine zA ?_ _)); refine zO ?_ NB152_153.out _; (with_reducible repeat (first | refine zB ?_ _ | refine zD ?_ | refine zA ?_ _)); refine zO ?_ NB152_153.out _; (with_reducible repeat (first | refine zB ?_ _ | refine zD ?_ | refine zA ?_ _)); refine zO ?_ NB152_153.out _; (with_reducible repeat (first | refine zB ?_ _ | refine zD ?_ | refine zA ?_ _)); exact BK152.out))⟩; have n2_ : zC (w131.heap[gb153]? = some (.cells #[.int .i64 t180, .int .i64 t181, .int .i64 t182, .int .u8 t183] 54 (0, 0))) := ⟨(by rw [hw]; exact (by (with_reducible repeat (first | refine zB ?_ _ | refine zD ?_ | refine zA ?_ _)); refine blk_put (cs := #[.int .i64 t180, .int .i64 t181, .int .i64 t182, .int .u8 0]) ?_ 3 _ rfl; (with_reducible repeat (first | refine zB ?_ _ | refine zD ?_ | refine zA ?_ _)); refine blk_put (cs := #[.int .i64 t180, .int .i64 t181, .int .i64 0, .int .u8 0]) ?_ 2 _ rfl; (with_reducible repeat (first | refine zB ?_ _ | refine zD ?_ | refine zA ?_ _)); refine blk_put (cs := #[.int .i64 t180, .int .i64 0, .int .i64 0, .int .u8 0]) ?_ 1 _ rfl; (with_reducible repeat (first | refine zB ?_ _ | refine zD ?_ | refine zA ?_ _)); refine blk_put (cs := #[.int .i64 0, .int .i64 0, .int .i64 0, .int .u8 0]) ?_ 0 _ rfl; (with_reducible repeat (first | refine zB ?_ _ | refine zD ?_ | refine zA ?_ _)); exact BK153.out))⟩; have n3_ : zC (Below w.heap.size w w131) := ⟨(by rw [hw]; exact (by repeat (first | (with_reducible first | exact HB.out | apply zJ | apply zG | apply zI | refine zE ?_ GE151.out | refine zE ?_ GE152.out | refine zE ?_ GE153.out) | exact HB.out)))⟩; clear hw; clear BK151; clear BK152; clear BK153; clear HB; have BK151 := n0_; have BK152 := n1_; have BK153 := n2_; have HB := n3_; clear n0_ n1_ n2_ n3_))
        refine bodyPost_ret (results_cell_row rfl _ _ gb153 54 #[.int .i64 t180, .int .i64 t181, .int .i64 t182, .int .u8 t183] (0, 0) _ rfl (by (with_reducible repeat (first | refine zB ?_ _ | refine zD ?_ | refine zA ?_ _)); exact BK153.out) Try.underlying54 rfl (by kernel_rfl)) rfl ?_
        exact ⟨by first | rfl | (simp [errW_none, errW_some] <;> rfl) | (simp [*, errW_none, errW_some] <;> rfl), by repeat (first | (with_reducible first | exact HB.out | apply zJ | apply zG | apply zI | refine zE ?_ GE151.out | refine zE ?_ GE152.out | refine zE ?_ GE153.out) | exact HB.out)⟩
      rw [if_neg c122] at H; have c122b0 : ((rd l0_1 x10_4) == 1) = false := beq_eq_false_iff_ne.mpr c122
      have c122b1 : ((rd l0_1 x10_4) != 1) = true := bne_iff_ne.mpr c122
      replace H := Option.bind_eq_some_iff.mp H; obtain ⟨⟨t184, t185, t186, t187⟩, A1320, H⟩ := H; replace H : (some (t184, t185, t186, t187)) = some (r1, r2, r3, r4) := H; have A132 := zC.mk A1320; clear A1320; simp only [Option.some.injEq, Prod.mk.injEq] at H; obtain ⟨rfl, rfl, rfl, rfl⟩ := H; have hnb133 := NB151_152.out; have hnc133 := NB152_151.out; have hnb134 := NB151_153.out; have hnc134 := NB153_151.out; have hcz135_0 : wc.cell? ⟨gb151, 0, none⟩ = some (.slice A0_0 l0_0.length c0_0) := (zF BK151.out 0).trans rfl
      have hcz135_1 : wc.cell? ⟨gb151, 1, none⟩ = some (.slice A0_1 l0_1.length c0_1) := (zF BK151.out 1).trans rfl
      have hfz135_0 := zH BK151.out 0; have hfz135_1 := zH BK151.out 1; have p179 : 0 ≤ (x10_4 : Int) := of_decide_eq_true (by first | (with_reducible assumption) | assumption)
      have q179 : x10_4 < (l0_1.length : Int) := of_decide_eq_true (by first | (with_reducible assumption) | assumption)
      obtain ⟨ad179, e179, hx179_0⟩ := Kd.at_int HR0_1.out x10_4 p179 q179; cases e179
      replace hx179_0 := (HB.out.cell (World.block_lt_of_cell? w _ hx179_0)).trans hx179_0; replace p179 := eq_true p179; replace q179 := eq_true q179; have hnb136 := NB152_153.out; have hnc136 := NB153_152.out; have hcz137_0 : wc.cell? ⟨gb152, 0, none⟩ = some (.int .i64 a3_0) := (zF BK152.out 0).trans rfl
      have hcz137_1 : wc.cell? ⟨gb152, 1, none⟩ = some (.int .i64 a3_1) := (zF BK152.out 1).trans rfl
      have hcz137_2 : wc.cell? ⟨gb152, 2, none⟩ = some (.int .u8 a3_2) := (zF BK152.out 2).trans rfl
      have hcz137_3 : wc.cell? ⟨gb152, 3, none⟩ = some (.int .i64 a3_3) := (zF BK152.out 3).trans rfl
      have hcz137_4 : wc.cell? ⟨gb152, 4, none⟩ = some (.int .i64 a3_4) := (zF BK152.out 4).trans rfl
      have hcz137_5 : wc.cell? ⟨gb152, 5, none⟩ = some (.float .f64 a3_5) := (zF BK152.out 5).trans rfl
      have hfz137_0 := zH BK152.out 0; have hfz137_1 := zH BK152.out 1; have hfz137_2 := zH BK152.out 2; have hfz137_3 := zH BK152.out 3; have hfz137_4 := zH BK152.out 4; have hfz137_5 := zH BK152.out 5; go_wp2_with (first | ((with_reducible refine gate_callee (f := 30) rfl ?_); refine goesL_ (some 107) rfl rfl Try.func30 (by kernel_rfl) rfl #[.agg #[.slice A0_0 l0_0.length c0_0, .slice (some ad179) l0_1.length c0_1], .int .i64 a1, .int .i64 x10_4, .int .u8 4, .int .i64 a3_1] rfl (by (try simp only [List.map_toArray, List.map_cons, List.map_nil]); first | done | rfl | (simp only [List.length_drop, List.length_take]; rfl)) ?_; (with_reducible refine (span_Make.calls kj4 _ _ l0_0 _ _ l0_1 a1 x10_4 4 a3_1 t184 t185 t186 t187 _ ?side1 ?side2 ?side3 ?side4 A132.out).mono ?_); (case side1 => repeat (first | exact (Kd.C_below HR0_0.out HB.out) | (with_reducible refine Kd.C_alloc ?_ _) | (with_reducible refine Kd.C_drewN ?_ _) | (with_reducible refine Kd.C_drew ?_))); (case side2 => exact HC0_0.out); (case side3 => repeat (first | exact (Kd.C_below HR0_1.out HB.out) | (with_reducible refine Kd.C_alloc ?_ _) | (with_reducible refine Kd.C_drewN ?_ _) | (with_reducible refine Kd.C_drew ?_))); (case side4 => exact HC0_1.out); rintro e w138 ⟨rfl, hb⟩; refine ⟨_, rfl, ?_⟩; have n0_ := zC.mk (zK (g := gb151) (o := .cells #[.slice A0_0 l0_0.length c0_0, .slice (some ad179) l0_1.length c0_1] 31 (0, 0)) (by (with_reducible repeat (first | refine zB ?_ _ | refine zD ?_ | refine zA ?_ _)); exact BK151.out) hb); have n1_ := zC.mk (zK (g := gb152) (o := .cells #[.int .i64 a3_0, .int .i64 a3_1, .int .u8 a3_2, .int .i64 a3_3, .int .i64 a3_4, .float .f64 a3_5] 35 (0, 0)) (by (with_reducible repeat (first | refine zB ?_ _ | refine zD ?_ | refine zA ?_ _)); exact BK152.out) hb); have n2_ := zC.mk (zK (g := gb153) (o := .cells #[.int .i64 0, .int .i64 0, .int .i64 0, .int .u8 0] 54 (0, 0)) (by (with_reducible repeat (first | refine zB ?_ _ | refine zD ?_ | refine zA ?_ _)); exact BK153.out) hb); have n3_ := zC.mk (zQ (by repeat (first | (with_reducible first | exact HB.out | apply zJ | apply zG | apply zI | refine zE ?_ GE151.out | refine zE ?_ GE152.out | refine zE ?_ GE153.out) | exact HB.out)) hb); clear BK151; clear BK152; clear BK153; clear HB; have BK151 := n0_; have BK152 := n1_; have BK153 := n2_; have HB := n3_; clear n0_ n1_ n2_ n3_; (try clear hb); (try clear hb2); (try clear hk); (try clear hi); have hcz139_0 : w138.cell? ⟨gb153, 0, none⟩ = some (.int .i64 0) := (zF BK153.out 0).trans rfl; have hcz139_1 : w138.cell? ⟨gb153, 1, none⟩ = some (.int .i64 0) := (zF BK153.out 1).trans rfl; have hcz139_2 : w138.cell? ⟨gb153, 2, none⟩ = some (.int .i64 0) := (zF BK153.out 2).trans rfl; have hcz139_3 : w138.cell? ⟨gb153, 3, none⟩ = some (.int .u8 0) := (zF BK153.out 3).trans rfl; have hfz139_0 := zH BK153.out 0; have hfz139_1 := zH BK153.out 1; have hfz139_2 := zH BK153.out 2; have hfz139_3 := zH BK153.out 3) | ((with_reducible refine gate_store (t := 54) (p := 8) rfl ?_); refine store_event (t := 54) (p := 8) (v := ?vo_w140) (w1 := ((((w138.setCell ⟨gb153, 0, none⟩ (.int .i64 t184)).setCell ⟨gb153, 1, none⟩ (.int .i64 t185)).setCell ⟨gb153, 2, none⟩ (.int .i64 t186)).setCell ⟨gb153, 3, none⟩ (.int .u8 t187))) ?hg ?ho ?hn ?hr ?_; (case ho => rfl); (case hg => rfl); (case hn => rfl); (case hr => first | (go_simp; done) | (go_simp; rfl)); intro w140 hw; have n0_ : zC (w140.heap[gb151]? = some (.cells #[.slice A0_0 l0_0.length c0_0, .slice (some ad179) l0_1.length c0_1] 31 (0, 0))) := ⟨(by rw [hw]; exact (by (with_reducible repeat (first | refine zB ?_ _ | refine zD ?_ | refine zA ?_ _)); refine zO ?_ NB151_153.out _; (with_reducible repeat (first | refine zB ?_ _ | refine zD ?_ | refine zA ?_ _)); refine zO ?_ NB151_153.out _; (with_reducible repeat (first | refine zB ?_ _ | refine zD ?_ | refine zA ?_ _)); refine zO ?_ NB151_153.out _; (with_reducible repeat (first | refine zB ?_ _ | refine zD ?_ | refine zA ?_ _)); refine zO ?_ NB151_153.out _; (with_reducible repeat (first | refine zB ?_ _ | refine zD ?_ | refine zA ?_ _)); exact BK151.out))⟩; have n1_ : zC (w140.heap[gb152]? = some (.cells #[.int .i64 a3_0, .int .i64 a3_1, .int .u8 a3_2, .int .i64 a3_3, .int .i64 a3_4, .float .f64 a3_5] 35 (0, 0))) := ⟨(by rw [hw]; exact (by (with_reducible repeat (first | refine zB ?_ _ | refine zD ?_ | refine zA ?_ _)); refine zO ?_ NB152_153.out _; (with_reducible repeat (first | refine zB ?_ _ | refine zD ?_ | refine zA ?_ _)); refine zO ?_ NB152_153.out _; (with_reducible repeat (first | refine zB ?_ _ | refine zD ?_ | refine zA ?_ _)); refine zO ?_ NB152_153.out _; (with_reducible repeat (first | refine zB ?_ _ | refine zD ?_ | refine zA ?_ _)); refine zO ?_ NB152_153.out _; (with_reducible repeat (first | refine zB ?_ _ | refine zD ?_ | refine zA ?_ _)); exact BK152.out))⟩; have n2_ : zC (w140.heap[gb153]? = some (.cells #[.int .i64 t184, .int .i64 t185, .int .i64 t186, .int .u8 t187] 54 (0, 0))) := ⟨(by rw [hw]; exact (by (with_reducible repeat (first | refine zB ?_ _ | refine zD ?_ | refine zA ?_ _)); refine blk_put (cs := #[.int .i64 t184, .int .i64 t185, .int .i64 t186, .int .u8 0]) ?_ 3 _ rfl; (with_reducible repeat (first | refine zB ?_ _ | refine zD ?_ | refine zA ?_ _)); refine blk_put (cs := #[.int .i64 t184, .int .i64 t185, .int .i64 0, .int .u8 0]) ?_ 2 _ rfl; (with_reducible repeat (first | refine zB ?_ _ | refine zD ?_ | refine zA ?_ _)); refine blk_put (cs := #[.int .i64 t184, .int .i64 0, .int .i64 0, .int .u8 0]) ?_ 1 _ rfl; (with_reducible repeat (first | refine zB ?_ _ | refine zD ?_ | refine zA ?_ _)); refine blk_put (cs := #[.int .i64 0, .int .i64 0, .int .i64 0, .int .u8 0]) ?_ 0 _ rfl; (with_reducible repeat (first | refine zB ?_ _ | refine zD ?_ | refine zA ?_ _)); exact BK153.out))⟩; have n3_ : zC (Below w.heap.size w w140) := ⟨(by rw [hw]; exact (by repeat (first | (with_reducible first | exact HB.out | apply zJ | apply zG | apply zI | refine zE ?_ GE151.out | refine zE ?_ GE152.out | refine zE ?_ GE153.out) | exact HB.out)))⟩; clear hw; clear BK151; clear BK152; clear BK153; clear HB; have BK151 := n0_; have BK152 := n1_; have BK153 := n2_; have HB := n3_; clear n0_ n1_ n2_ n3_))
      refine bodyPost_ret (results_cell_row rfl _ _ gb153 54 #[.int .i64 t184, .int .i64 t185, .int .i64 t186, .int .u8 t187] (0, 0) _ rfl (by (with_reducible repeat (first | refine zB ?_ _ | refine zD ?_ | refine zA ?_ _)); exact BK153.out) Try.underlying54 rfl (by kernel_rfl)) rfl ?_
      exact ⟨by first | rfl | (simp [errW_none, errW_some] <;> rfl) | (simp [*, errW_none, errW_some] <;> rfl), by repeat (first | (with_reducible first | exact HB.out | apply zJ | apply zG | apply zI | refine zE ?_ GE151.out | refine zE ?_ GE152.out | refine zE ?_ GE153.out) | exact HB.out)⟩
    rw [if_pos c85] at H; have c85b0 : (x10_4 == a2) = true := beq_iff_eq.mpr c85
    have c85b1 : (x10_4 != a2) = false := bne_eq_false_iff_eq.mpr c85
    clear c85; by_cases c86 : 0 ≤ a2
    rotate_left
    · rw [if_neg c86] at H
      exact absurd H (by simp)
    rw [if_pos c86] at H; have c86b0 : decide (0 ≤ a2) = true := decide_eq_true c86
    clear c86; by_cases c87 : a2 < (l0_1.length : Int)
    rotate_left
    · rw [if_neg c87] at H
      exact absurd H (by simp)
    rw [if_pos c87] at H; have c87b0 : decide (a2 < (l0_1.length : Int)) = true := decide_eq_true c87
    clear c87; by_cases c88 : x10_4 < a2
    rotate_left
    · rw [if_neg c88] at H
      have c88b0 : decide (x10_4 < a2) = false := decide_eq_false c88
      clear c88; replace H := Option.bind_eq_some_iff.mp H; obtain ⟨⟨t175, t176, t177, t178⟩, A1100, H⟩ := H; replace H : (some (t175, t176, t177, t178)) = some (r1, r2, r3, r4) := H; have A110 := zC.mk A1100; clear A1100; simp only [Option.some.injEq, Prod.mk.injEq] at H; obtain ⟨rfl, rfl, rfl, rfl⟩ := H; have hnb111 := NB151_152.out; have hnc111 := NB152_151.out; have hnb112 := NB151_153.out; have hnc112 := NB153_151.out; have hcz113_0 : wc.cell? ⟨gb151, 0, none⟩ = some (.slice A0_0 l0_0.length c0_0) := (zF BK151.out 0).trans rfl
      have hcz113_1 : wc.cell? ⟨gb151, 1, none⟩ = some (.slice A0_1 l0_1.length c0_1) := (zF BK151.out 1).trans rfl
      have hfz113_0 := zH BK151.out 0; have hfz113_1 := zH BK151.out 1; have p165 : 0 ≤ (a2 : Int) := of_decide_eq_true (by first | (with_reducible assumption) | assumption)
      have q165 : a2 < (l0_1.length : Int) := of_decide_eq_true (by first | (with_reducible assumption) | assumption)
      obtain ⟨ad165, e165, hx165_0⟩ := Kd.at_int HR0_1.out a2 p165 q165; cases e165
      replace hx165_0 := (HB.out.cell (World.block_lt_of_cell? w _ hx165_0)).trans hx165_0; replace p165 := eq_true p165; replace q165 := eq_true q165; have hnb114 := NB152_153.out; have hnc114 := NB153_152.out; have hcz115_0 : wc.cell? ⟨gb152, 0, none⟩ = some (.int .i64 a3_0) := (zF BK152.out 0).trans rfl
      have hcz115_1 : wc.cell? ⟨gb152, 1, none⟩ = some (.int .i64 a3_1) := (zF BK152.out 1).trans rfl
      have hcz115_2 : wc.cell? ⟨gb152, 2, none⟩ = some (.int .u8 a3_2) := (zF BK152.out 2).trans rfl
      have hcz115_3 : wc.cell? ⟨gb152, 3, none⟩ = some (.int .i64 a3_3) := (zF BK152.out 3).trans rfl
      have hcz115_4 : wc.cell? ⟨gb152, 4, none⟩ = some (.int .i64 a3_4) := (zF BK152.out 4).trans rfl
      have hcz115_5 : wc.cell? ⟨gb152, 5, none⟩ = some (.float .f64 a3_5) := (zF BK152.out 5).trans rfl
      have hfz115_0 := zH BK152.out 0; have hfz115_1 := zH BK152.out 1; have hfz115_2 := zH BK152.out 2; have hfz115_3 := zH BK152.out 3; have hfz115_4 := zH BK152.out 4; have hfz115_5 := zH BK152.out 5; go_wp2_with (first | ((with_reducible refine gate_callee (f := 30) rfl ?_); refine goesL_ (some 107) rfl rfl Try.func30 (by kernel_rfl) rfl #[.agg #[.slice A0_0 l0_0.length c0_0, .slice (some ad165) l0_1.length c0_1], .int .i64 a1, .int .i64 x10_4, .int .u8 (rd l0_1 a2), .int .i64 a3_1] rfl (by (try simp only [List.map_toArray, List.map_cons, List.map_nil]); first | done | rfl | (simp only [List.length_drop, List.length_take]; rfl)) ?_; (with_reducible refine (span_Make.calls kj4 _ _ l0_0 _ _ l0_1 a1 x10_4 (rd l0_1 a2) a3_1 t175 t176 t177 t178 _ ?side1 ?side2 ?side3 ?side4 A110.out).mono ?_); (case side1 => repeat (first | exact (Kd.C_below HR0_0.out HB.out) | (with_reducible refine Kd.C_alloc ?_ _) | (with_reducible refine Kd.C_drewN ?_ _) | (with_reducible refine Kd.C_drew ?_))); (case side2 => exact HC0_0.out); (case side3 => repeat (first | exact (Kd.C_below HR0_1.out HB.out) | (with_reducible refine Kd.C_alloc ?_ _) | (with_reducible refine Kd.C_drewN ?_ _) | (with_reducible refine Kd.C_drew ?_))); (case side4 => exact HC0_1.out); rintro e w116 ⟨rfl, hb⟩; refine ⟨_, rfl, ?_⟩; have n0_ := zC.mk (zK (g := gb151) (o := .cells #[.slice A0_0 l0_0.length c0_0, .slice (some ad165) l0_1.length c0_1] 31 (0, 0)) (by (with_reducible repeat (first | refine zB ?_ _ | refine zD ?_ | refine zA ?_ _)); exact BK151.out) hb); have n1_ := zC.mk (zK (g := gb152) (o := .cells #[.int .i64 a3_0, .int .i64 a3_1, .int .u8 a3_2, .int .i64 a3_3, .int .i64 a3_4, .float .f64 a3_5] 35 (0, 0)) (by (with_reducible repeat (first | refine zB ?_ _ | refine zD ?_ | refine zA ?_ _)); exact BK152.out) hb); have n2_ := zC.mk (zK (g := gb153) (o := .cells #[.int .i64 0, .int .i64 0, .int .i64 0, .int .u8 0] 54 (0, 0)) (by (with_reducible repeat (first | refine zB ?_ _ | refine zD ?_ | refine zA ?_ _)); exact BK153.out) hb); have n3_ := zC.mk (zQ (by repeat (first | (with_reducible first | exact HB.out | apply zJ | apply zG | apply zI | refine zE ?_ GE151.out | refine zE ?_ GE152.out | refine zE ?_ GE153.out) | exact HB.out)) hb); clear BK151; clear BK152; clear BK153; clear HB; have BK151 := n0_; have BK152 := n1_; have BK153 := n2_; have HB := n3_; clear n0_ n1_ n2_ n3_; (try clear hb); (try clear hb2); (try clear hk); (try clear hi); have hcz117_0 : w116.cell? ⟨gb153, 0, none⟩ = some (.int .i64 0) := (zF BK153.out 0).trans rfl; have hcz117_1 : w116.cell? ⟨gb153, 1, none⟩ = some (.int .i64 0) := (zF BK153.out 1).trans rfl; have hcz117_2 : w116.cell? ⟨gb153, 2, none⟩ = some (.int .i64 0) := (zF BK153.out 2).trans rfl; have hcz117_3 : w116.cell? ⟨gb153, 3, none⟩ = some (.int .u8 0) := (zF BK153.out 3).trans rfl; have hfz117_0 := zH BK153.out 0; have hfz117_1 := zH BK153.out 1; have hfz117_2 := zH BK153.out 2; have hfz117_3 := zH BK153.out 3) | ((with_reducible refine gate_store (t := 54) (p := 8) rfl ?_); refine store_event (t := 54) (p := 8) (v := ?vo_w118) (w1 := ((((w116.setCell ⟨gb153, 0, none⟩ (.int .i64 t175)).setCell ⟨gb153, 1, none⟩ (.int .i64 t176)).setCell ⟨gb153, 2, none⟩ (.int .i64 t177)).setCell ⟨gb153, 3, none⟩ (.int .u8 t178))) ?hg ?ho ?hn ?hr ?_; (case ho => rfl); (case hg => rfl); (case hn => rfl); (case hr => first | (go_simp; done) | (go_simp; rfl)); intro w118 hw; have n0_ : zC (w118.heap[gb151]? = some (.cells #[.slice A0_0 l0_0.length c0_0, .slice (some ad165) l0_1.length c0_1] 31 (0, 0))) := ⟨(by rw [hw]; exact (by (with_reducible repeat (first | refine zB ?_ _ | refine zD ?_ | refine zA ?_ _)); refine zO ?_ NB151_153.out _; (with_reducible repeat (first | refine zB ?_ _ | refine zD ?_ | refine zA ?_ _)); refine zO ?_ NB151_153.out _; (with_reducible repeat (first | refine zB ?_ _ | refine zD ?_ | refine zA ?_ _)); refine zO ?_ NB151_153.out _; (with_reducible repeat (first | refine zB ?_ _ | refine zD ?_ | refine zA ?_ _)); refine zO ?_ NB151_153.out _; (with_reducible repeat (first | refine zB ?_ _ | refine zD ?_ | refine zA ?_ _)); exact BK151.out))⟩; have n1_ : zC (w118.heap[gb152]? = some (.cells #[.int .i64 a3_0, .int .i64 a3_1, .int .u8 a3_2, .int .i64 a3_3, .int .i64 a3_4, .float .f64 a3_5] 35 (0, 0))) := ⟨(by rw [hw]; exact (by (with_reducible repeat (first | refine zB ?_ _ | refine zD ?_ | refine zA ?_ _)); refine zO ?_ NB152_153.out _; (with_reducible repeat (first | refine zB ?_ _ | refine zD ?_ | refine zA ?_ _)); refine zO ?_ NB152_153.out _; (with_reducible repeat (first | refine zB ?_ _ | refine zD ?_ | refine zA ?_ _)); refine zO ?_ NB152_153.out _; (with_reducible repeat (first | refine zB ?_ _ | refine zD ?_ | refine zA ?_ _)); refine zO ?_ NB152_153.out _; (with_reducible repeat (first | refine zB ?_ _ | refine zD ?_ | refine zA ?_ _)); exact BK152.out))⟩; have n2_ : zC (w118.heap[gb153]? = some (.cells #[.int .i64 t175, .int .i64 t176, .int .i64 t177, .int .u8 t178] 54 (0, 0))) := ⟨(by rw [hw]; exact (by (with_reducible repeat (first | refine zB ?_ _ | refine zD ?_ | refine zA ?_ _)); refine blk_put (cs := #[.int .i64 t175, .int .i64 t176, .int .i64 t177, .int .u8 0]) ?_ 3 _ rfl; (with_reducible repeat (first | refine zB ?_ _ | refine zD ?_ | refine zA ?_ _)); refine blk_put (cs := #[.int .i64 t175, .int .i64 t176, .int .i64 0, .int .u8 0]) ?_ 2 _ rfl; (with_reducible repeat (first | refine zB ?_ _ | refine zD ?_ | refine zA ?_ _)); refine blk_put (cs := #[.int .i64 t175, .int .i64 0, .int .i64 0, .int .u8 0]) ?_ 1 _ rfl; (with_reducible repeat (first | refine zB ?_ _ | refine zD ?_ | refine zA ?_ _)); refine blk_put (cs := #[.int .i64 0, .int .i64 0, .int .i64 0, .int .u8 0]) ?_ 0 _ rfl; (with_reducible repeat (first | refine zB ?_ _ | refine zD ?_ | refine zA ?_ _)); exact BK153.out))⟩; have n3_ : zC (Below w.heap.size w w118) := ⟨(by rw [hw]; exact (by repeat (first | (with_reducible first | exact HB.out | apply zJ | apply zG | apply zI | refine zE ?_ GE151.out | refine zE ?_ GE152.out | refine zE ?_ GE153.out) | exact HB.out)))⟩; clear hw; clear BK151; clear BK152; clear BK153; clear HB; have BK151 := n0_; have BK152 := n1_; have BK153 := n2_; have HB := n3_; clear n0_ n1_ n2_ n3_))
      refine bodyPost_ret (results_cell_row rfl _ _ gb153 54 #[.int .i64 t175, .int .i64 t176, .int .i64 t177, .int .u8 t178] (0, 0) _ rfl (by (with_reducible repeat (first | refine zB ?_ _ | refine zD ?_ | refine zA ?_ _)); exact BK153.out) Try.underlying54 rfl (by kernel_rfl)) rfl ?_
      exact ⟨by first | rfl | (simp [errW_none, errW_some] <;> rfl) | (simp [*, errW_none, errW_some] <;> rfl), by repeat (first | (with_reducible first | exact HB.out | apply zJ | apply zG | apply zI | refine zE ?_ GE151.out | refine zE ?_ GE152.out | refine zE ?_ GE153.out) | exact HB.out)⟩
    rw [if_pos c88] at H; have c88b0 : decide (x10_4 < a2) = true := decide_eq_true c88
    clear c88; by_cases c89 : 0 ≤ x10_4
    rotate_left
    · rw [if_neg c89] at H
      exact absurd H (by simp)
    rw [if_pos c89] at H; have c89b0 : decide (0 ≤ x10_4) = true := decide_eq_true c89
    clear c89; by_cases c90 : x10_4 < (l0_1.length : Int)
    rotate_left
    · rw [if_neg c90] at H
      exact absurd H (by simp)
    rw [if_pos c90] at H; have c90b0 : decide (x10_4 < (l0_1.length : Int)) = true := decide_eq_true c90
    clear c90; by_cases c91 : (rd l0_1 x10_4) = 1
    · rw [if_pos c91] at H
      have c91b0 : ((rd l0_1 x10_4) == 1) = true := beq_iff_eq.mpr c91
      have c91b1 : ((rd l0_1 x10_4) != 1) = false := bne_eq_false_iff_eq.mpr c91
      clear c91; replace H := Option.bind_eq_some_iff.mp H; obtain ⟨⟨t167, t168, t169, t170⟩, A920, H⟩ := H; replace H : (some (t167, t168, t169, t170)) = some (r1, r2, r3, r4) := H; have A92 := zC.mk A920; clear A920; simp only [Option.some.injEq, Prod.mk.injEq] at H; obtain ⟨rfl, rfl, rfl, rfl⟩ := H; have hnb93 := NB151_152.out; have hnc93 := NB152_151.out; have hnb94 := NB151_153.out; have hnc94 := NB153_151.out; have hcz95_0 : wc.cell? ⟨gb151, 0, none⟩ = some (.slice A0_0 l0_0.length c0_0) := (zF BK151.out 0).trans rfl
      have hcz95_1 : wc.cell? ⟨gb151, 1, none⟩ = some (.slice A0_1 l0_1.length c0_1) := (zF BK151.out 1).trans rfl
      have hfz95_0 := zH BK151.out 0; have hfz95_1 := zH BK151.out 1; have p165 : 0 ≤ (a2 : Int) := of_decide_eq_true (by first | (with_reducible assumption) | assumption)
      have q165 : a2 < (l0_1.length : Int) := of_decide_eq_true (by first | (with_reducible assumption) | assumption)
      obtain ⟨ad165, e165, hx165_0⟩ := Kd.at_int HR0_1.out a2 p165 q165; cases e165
      replace hx165_0 := (HB.out.cell (World.block_lt_of_cell? w _ hx165_0)).trans hx165_0; replace p165 := eq_true p165; replace q165 := eq_true q165; have p166 : 0 ≤ (x10_4 : Int) := of_decide_eq_true (by first | (with_reducible assumption) | assumption)
      have q166 : x10_4 < (l0_1.length : Int) := of_decide_eq_true (by first | (with_reducible assumption) | assumption)
      obtain ⟨ad166, e166, hx166_0⟩ := Kd.at_int HR0_1.out x10_4 p166 q166; obtain rfl : ad165 = ad166 := (by injection e166)
      replace hx166_0 := (HB.out.cell (World.block_lt_of_cell? w _ hx166_0)).trans hx166_0; replace p166 := eq_true p166; replace q166 := eq_true q166; have hnb96 := NB152_153.out; have hnc96 := NB153_152.out; have hcz97_0 : wc.cell? ⟨gb152, 0, none⟩ = some (.int .i64 a3_0) := (zF BK152.out 0).trans rfl
      have hcz97_1 : wc.cell? ⟨gb152, 1, none⟩ = some (.int .i64 a3_1) := (zF BK152.out 1).trans rfl
      have hcz97_2 : wc.cell? ⟨gb152, 2, none⟩ = some (.int .u8 a3_2) := (zF BK152.out 2).trans rfl
      have hcz97_3 : wc.cell? ⟨gb152, 3, none⟩ = some (.int .i64 a3_3) := (zF BK152.out 3).trans rfl
      have hcz97_4 : wc.cell? ⟨gb152, 4, none⟩ = some (.int .i64 a3_4) := (zF BK152.out 4).trans rfl
      have hcz97_5 : wc.cell? ⟨gb152, 5, none⟩ = some (.float .f64 a3_5) := (zF BK152.out 5).trans rfl
      have hfz97_0 := zH BK152.out 0; have hfz97_1 := zH BK152.out 1; have hfz97_2 := zH BK152.out 2; have hfz97_3 := zH BK152.out 3; have hfz97_4 := zH BK152.out 4; have hfz97_5 := zH BK152.out 5; go_wp2_with (first | ((with_reducible refine gate_callee (f := 30) rfl ?_); refine goesL_ (some 107) rfl rfl Try.func30 (by kernel_rfl) rfl #[.agg #[.slice A0_0 l0_0.length c0_0, .slice (some ad165) l0_1.length c0_1], .int .i64 a1, .int .i64 x10_4, .int .u8 1, .int .i64 a3_1] rfl (by (try simp only [List.map_toArray, List.map_cons, List.map_nil]); first | done | rfl | (simp only [List.length_drop, List.length_take]; rfl)) ?_; (with_reducible refine (span_Make.calls kj4 _ _ l0_0 _ _ l0_1 a1 x10_4 1 a3_1 t167 t168 t169 t170 _ ?side1 ?side2 ?side3 ?side4 A92.out).mono ?_); (case side1 => repeat (first | exact (Kd.C_below HR0_0.out HB.out) | (with_reducible refine Kd.C_alloc ?_ _) | (with_reducible refine Kd.C_drewN ?_ _) | (with_reducible refine Kd.C_drew ?_))); (case side2 => exact HC0_0.out); (case side3 => repeat (first | exact (Kd.C_below HR0_1.out HB.out) | (with_reducible refine Kd.C_alloc ?_ _) | (with_reducible refine Kd.C_drewN ?_ _) | (with_reducible refine Kd.C_drew ?_))); (case side4 => exact HC0_1.out); rintro e w98 ⟨rfl, hb⟩; refine ⟨_, rfl, ?_⟩; have n0_ := zC.mk (zK (g := gb151) (o := .cells #[.slice A0_0 l0_0.length c0_0, .slice (some ad165) l0_1.length c0_1] 31 (0, 0)) (by (with_reducible repeat (first | refine zB ?_ _ | refine zD ?_ | refine zA ?_ _)); exact BK151.out) hb); have n1_ := zC.mk (zK (g := gb152) (o := .cells #[.int .i64 a3_0, .int .i64 a3_1, .int .u8 a3_2, .int .i64 a3_3, .int .i64 a3_4, .float .f64 a3_5] 35 (0, 0)) (by (with_reducible repeat (first | refine zB ?_ _ | refine zD ?_ | refine zA ?_ _)); exact BK152.out) hb); have n2_ := zC.mk (zK (g := gb153) (o := .cells #[.int .i64 0, .int .i64 0, .int .i64 0, .int .u8 0] 54 (0, 0)) (by (with_reducible repeat (first | refine zB ?_ _ | refine zD ?_ | refine zA ?_ _)); exact BK153.out) hb); have n3_ := zC.mk (zQ (by repeat (first | (with_reducible first | exact HB.out | apply zJ | apply zG | apply zI | refine zE ?_ GE151.out | refine zE ?_ GE152.out | refine zE ?_ GE153.out) | exact HB.out)) hb); clear BK151; clear BK152; clear BK153; clear HB; have BK151 := n0_; have BK152 := n1_; have BK153 := n2_; have HB := n3_; clear n0_ n1_ n2_ n3_; (try clear hb); (try clear hb2); (try clear hk); (try clear hi); have hcz99_0 : w98.cell? ⟨gb153, 0, none⟩ = some (.int .i64 0) := (zF BK153.out 0).trans rfl; have hcz99_1 : w98.cell? ⟨gb153, 1, none⟩ = some (.int .i64 0) := (zF BK153.out 1).trans rfl; have hcz99_2 : w98.cell? ⟨gb153, 2, none⟩ = some (.int .i64 0) := (zF BK153.out 2).trans rfl; have hcz99_3 : w98.cell? ⟨gb153, 3, none⟩ = some (.int .u8 0) := (zF BK153.out 3).trans rfl; have hfz99_0 := zH BK153.out 0; have hfz99_1 := zH BK153.out 1; have hfz99_2 := zH BK153.out 2; have hfz99_3 := zH BK153.out 3) | ((with_reducible refine gate_store (t := 54) (p := 8) rfl ?_); refine store_event (t := 54) (p := 8) (v := ?vo_w100) (w1 := ((((w98.setCell ⟨gb153, 0, none⟩ (.int .i64 t167)).setCell ⟨gb153, 1, none⟩ (.int .i64 t168)).setCell ⟨gb153, 2, none⟩ (.int .i64 t169)).setCell ⟨gb153, 3, none⟩ (.int .u8 t170))) ?hg ?ho ?hn ?hr ?_; (case ho => rfl); (case hg => rfl); (case hn => rfl); (case hr => first | (go_simp; done) | (go_simp; rfl)); intro w100 hw; have n0_ : zC (w100.heap[gb151]? = some (.cells #[.slice A0_0 l0_0.length c0_0, .slice (some ad165) l0_1.length c0_1] 31 (0, 0))) := ⟨(by rw [hw]; exact (by (with_reducible repeat (first | refine zB ?_ _ | refine zD ?_ | refine zA ?_ _)); refine zO ?_ NB151_153.out _; (with_reducible repeat (first | refine zB ?_ _ | refine zD ?_ | refine zA ?_ _)); refine zO ?_ NB151_153.out _; (with_reducible repeat (first | refine zB ?_ _ | refine zD ?_ | refine zA ?_ _)); refine zO ?_ NB151_153.out _; (with_reducible repeat (first | refine zB ?_ _ | refine zD ?_ | refine zA ?_ _)); refine zO ?_ NB151_153.out _; (with_reducible repeat (first | refine zB ?_ _ | refine zD ?_ | refine zA ?_ _)); exact BK151.out))⟩; have n1_ : zC (w100.heap[gb152]? = some (.cells #[.int .i64 a3_0, .int .i64 a3_1, .int .u8 a3_2, .int .i64 a3_3, .int .i64 a3_4, .float .f64 a3_5] 35 (0, 0))) := ⟨(by rw [hw]; exact (by (with_reducible repeat (first | refine zB ?_ _ | refine zD ?_ | refine zA ?_ _)); refine zO ?_ NB152_153.out _; (with_reducible repeat (first | refine zB ?_ _ | refine zD ?_ | refine zA ?_ _)); refine zO ?_ NB152_153.out _; (with_reducible repeat (first | refine zB ?_ _ | refine zD ?_ | refine zA ?_ _)); refine zO ?_ NB152_153.out _; (with_reducible repeat (first | refine zB ?_ _ | refine zD ?_ | refine zA ?_ _)); refine zO ?_ NB152_153.out _; (with_reducible repeat (first | refine zB ?_ _ | refine zD ?_ | refine zA ?_ _)); exact BK152.out))⟩; have n2_ : zC (w100.heap[gb153]? = some (.cells #[.int .i64 t167, .int .i64 t168, .int .i64 t169, .int .u8 t170] 54 (0, 0))) := ⟨(by rw [hw]; exact (by (with_reducible repeat (first | refine zB ?_ _ | refine zD ?_ | refine zA ?_ _)); refine blk_put (cs := #[.int .i64 t167, .int .i64 t168, .int .i64 t169, .int .u8 0]) ?_ 3 _ rfl; (with_reducible repeat (first | refine zB ?_ _ | refine zD ?_ | refine zA ?_ _)); refine blk_put (cs := #[.int .i64 t167, .int .i64 t168, .int .i64 0, .int .u8 0]) ?_ 2 _ rfl; (with_reducible repeat (first | refine zB ?_ _ | refine zD ?_ | refine zA ?_ _)); refine blk_put (cs := #[.int .i64 t167, .int .i64 0, .int .i64 0, .int .u8 0]) ?_ 1 _ rfl; (with_reducible repeat (first | refine zB ?_ _ | refine zD ?_ | refine zA ?_ _)); refine blk_put (cs := #[.int .i64 0, .int .i64 0, .int .i64 0, .int .u8 0]) ?_ 0 _ rfl; (with_reducible repeat (first | refine zB ?_ _ | refine zD ?_ | refine zA ?_ _)); exact BK153.out))⟩; have n3_ : zC (Below w.heap.size w w100) := ⟨(by rw [hw]; exact (by repeat (first | (with_reducible first | exact HB.out | apply zJ | apply zG | apply zI | refine zE ?_ GE151.out | refine zE ?_ GE152.out | refine zE ?_ GE153.out) | exact HB.out)))⟩; clear hw; clear BK151; clear BK152; clear BK153; clear HB; have BK151 := n0_; have BK152 := n1_; have BK153 := n2_; have HB := n3_; clear n0_ n1_ n2_ n3_))
      refine bodyPost_ret (results_cell_row rfl _ _ gb153 54 #[.int .i64 t167, .int .i64 t168, .int .i64 t169, .int .u8 t170] (0, 0) _ rfl (by (with_reducible repeat (first | refine zB ?_ _ | refine zD ?_ | refine zA ?_ _)); exact BK153.out) Try.underlying54 rfl (by kernel_rfl)) rfl ?_
      exact ⟨by first | rfl | (simp [errW_none, errW_some] <;> rfl) | (simp [*, errW_none, errW_some] <;> rfl), by repeat (first | (with_reducible first | exact HB.out | apply zJ | apply zG | apply zI | refine zE ?_ GE151.out | refine zE ?_ GE152.out | refine zE ?_ GE153.out) | exact HB.out)⟩
    rw [if_neg c91] at H; have c91b0 : ((rd l0_1 x10_4) == 1) = false := beq_eq_false_iff_ne.mpr c91
    have c91b1 : ((rd l0_1 x10_4) != 1) = true := bne_iff_ne.mpr c91
    replace H := Option.bind_eq_some_iff.mp H; obtain ⟨⟨t171, t172, t173, t174⟩, A1010, H⟩ := H; replace H : (some (t171, t172, t173, t174)) = some (r1, r2, r3, r4) := H; have A101 := zC.mk A1010; clear A1010; simp only [Option.some.injEq, Prod.mk.injEq] at H; obtain ⟨rfl, rfl, rfl, rfl⟩ := H; have hnb102 := NB151_152.out; have hnc102 := NB152_151.out; have hnb103 := NB151_153.out; have hnc103 := NB153_151.out; have hcz104_0 : wc.cell? ⟨gb151, 0, none⟩ = some (.slice A0_0 l0_0.length c0_0) := (zF BK151.out 0).trans rfl
    have hcz104_1 : wc.cell? ⟨gb151, 1, none⟩ = some (.slice A0_1 l0_1.length c0_1) := (zF BK151.out 1).trans rfl
    have hfz104_0 := zH BK151.out 0; have hfz104_1 := zH BK151.out 1; have p165 : 0 ≤ (a2 : Int) := of_decide_eq_true (by first | (with_reducible assumption) | assumption)
    have q165 : a2 < (l0_1.length : Int) := of_decide_eq_true (by first | (with_reducible assumption) | assumption)
    obtain ⟨ad165, e165, hx165_0⟩ := Kd.at_int HR0_1.out a2 p165 q165; cases e165
    replace hx165_0 := (HB.out.cell (World.block_lt_of_cell? w _ hx165_0)).trans hx165_0; replace p165 := eq_true p165; replace q165 := eq_true q165; have p166 : 0 ≤ (x10_4 : Int) := of_decide_eq_true (by first | (with_reducible assumption) | assumption)
    have q166 : x10_4 < (l0_1.length : Int) := of_decide_eq_true (by first | (with_reducible assumption) | assumption)
    obtain ⟨ad166, e166, hx166_0⟩ := Kd.at_int HR0_1.out x10_4 p166 q166; obtain rfl : ad165 = ad166 := (by injection e166)
    replace hx166_0 := (HB.out.cell (World.block_lt_of_cell? w _ hx166_0)).trans hx166_0; replace p166 := eq_true p166; replace q166 := eq_true q166; have hnb105 := NB152_153.out; have hnc105 := NB153_152.out; have hcz106_0 : wc.cell? ⟨gb152, 0, none⟩ = some (.int .i64 a3_0) := (zF BK152.out 0).trans rfl
    have hcz106_1 : wc.cell? ⟨gb152, 1, none⟩ = some (.int .i64 a3_1) := (zF BK152.out 1).trans rfl
    have hcz106_2 : wc.cell? ⟨gb152, 2, none⟩ = some (.int .u8 a3_2) := (zF BK152.out 2).trans rfl
    have hcz106_3 : wc.cell? ⟨gb152, 3, none⟩ = some (.int .i64 a3_3) := (zF BK152.out 3).trans rfl
    have hcz106_4 : wc.cell? ⟨gb152, 4, none⟩ = some (.int .i64 a3_4) := (zF BK152.out 4).trans rfl
    have hcz106_5 : wc.cell? ⟨gb152, 5, none⟩ = some (.float .f64 a3_5) := (zF BK152.out 5).trans rfl
    have hfz106_0 := zH BK152.out 0; have hfz106_1 := zH BK152.out 1; have hfz106_2 := zH BK152.out 2; have hfz106_3 := zH BK152.out 3; have hfz106_4 := zH BK152.out 4; have hfz106_5 := zH BK152.out 5; go_wp2_with (first | ((with_reducible refine gate_callee (f := 30) rfl ?_); refine goesL_ (some 107) rfl rfl Try.func30 (by kernel_rfl) rfl #[.agg #[.slice A0_0 l0_0.length c0_0, .slice (some ad165) l0_1.length c0_1], .int .i64 a1, .int .i64 x10_4, .int .u8 (rd l0_1 a2), .int .i64 a3_1] rfl (by (try simp only [List.map_toArray, List.map_cons, List.map_nil]); first | done | rfl | (simp only [List.length_drop, List.length_take]; rfl)) ?_; (with_reducible refine (span_Make.calls kj4 _ _ l0_0 _ _ l0_1 a1 x10_4 (rd l0_1 a2) a3_1 t171 t172 t173 t174 _ ?side1 ?side2 ?side3 ?side4 A101.out).mono ?_); (case side1 => repeat (first | exact (Kd.C_below HR0_0.out HB.out) | (with_reducible refine Kd.C_alloc ?_ _) | (with_reducible refine Kd.C_drewN ?_ _) | (with_reducible refine Kd.C_drew ?_))); (case side2 => exact HC0_0.out); (case side3 => repeat (first | exact (Kd.C_below HR0_1.out HB.out) | (with_reducible refine Kd.C_alloc ?_ _) | (with_reducible refine Kd.C_drewN ?_ _) | (with_reducible refine Kd.C_drew ?_))); (case side4 => exact HC0_1.out); rintro e w107 ⟨rfl, hb⟩; refine ⟨_, rfl, ?_⟩; have n0_ := zC.mk (zK (g := gb151) (o := .cells #[.slice A0_0 l0_0.length c0_0, .slice (some ad165) l0_1.length c0_1] 31 (0, 0)) (by (with_reducible repeat (first | refine zB ?_ _ | refine zD ?_ | refine zA ?_ _)); exact BK151.out) hb); have n1_ := zC.mk (zK (g := gb152) (o := .cells #[.int .i64 a3_0, .int .i64 a3_1, .int .u8 a3_2, .int .i64 a3_3, .int .i64 a3_4, .float .f64 a3_5] 35 (0, 0)) (by (with_reducible repeat (first | refine zB ?_ _ | refine zD ?_ | refine zA ?_ _)); exact BK152.out) hb); have n2_ := zC.mk (zK (g := gb153) (o := .cells #[.int .i64 0, .int .i64 0, .int .i64 0, .int .u8 0] 54 (0, 0)) (by (with_reducible repeat (first | refine zB ?_ _ | refine zD ?_ | refine zA ?_ _)); exact BK153.out) hb); have n3_ := zC.mk (zQ (by repeat (first | (with_reducible first | exact HB.out | apply zJ | apply zG | apply zI | refine zE ?_ GE151.out | refine zE ?_ GE152.out | refine zE ?_ GE153.out) | exact HB.out)) hb); clear BK151; clear BK152; clear BK153; clear HB; have BK151 := n0_; have BK152 := n1_; have BK153 := n2_; have HB := n3_; clear n0_ n1_ n2_ n3_; (try clear hb); (try clear hb2); (try clear hk); (try clear hi); have hcz108_0 : w107.cell? ⟨gb153, 0, none⟩ = some (.int .i64 0) := (zF BK153.out 0).trans rfl; have hcz108_1 : w107.cell? ⟨gb153, 1, none⟩ = some (.int .i64 0) := (zF BK153.out 1).trans rfl; have hcz108_2 : w107.cell? ⟨gb153, 2, none⟩ = some (.int .i64 0) := (zF BK153.out 2).trans rfl; have hcz108_3 : w107.cell? ⟨gb153, 3, none⟩ = some (.int .u8 0) := (zF BK153.out 3).trans rfl; have hfz108_0 := zH BK153.out 0; have hfz108_1 := zH BK153.out 1; have hfz108_2 := zH BK153.out 2; have hfz108_3 := zH BK153.out 3) | ((with_reducible refine gate_store (t := 54) (p := 8) rfl ?_); refine store_event (t := 54) (p := 8) (v := ?vo_w109) (w1 := ((((w107.setCell ⟨gb153, 0, none⟩ (.int .i64 t171)).setCell ⟨gb153, 1, none⟩ (.int .i64 t172)).setCell ⟨gb153, 2, none⟩ (.int .i64 t173)).setCell ⟨gb153, 3, none⟩ (.int .u8 t174))) ?hg ?ho ?hn ?hr ?_; (case ho => rfl); (case hg => rfl); (case hn => rfl); (case hr => first | (go_simp; done) | (go_simp; rfl)); intro w109 hw; have n0_ : zC (w109.heap[gb151]? = some (.cells #[.slice A0_0 l0_0.length c0_0, .slice (some ad165) l0_1.length c0_1] 31 (0, 0))) := ⟨(by rw [hw]; exact (by (with_reducible repeat (first | refine zB ?_ _ | refine zD ?_ | refine zA ?_ _)); refine zO ?_ NB151_153.out _; (with_reducible repeat (first | refine zB ?_ _ | refine zD ?_ | refine zA ?_ _)); refine zO ?_ NB151_153.out _; (with_reducible repeat (first | refine zB ?_ _ | refine zD ?_ | refine zA ?_ _)); refine zO ?_ NB151_153.out _; (with_reducible repeat (first | refine zB ?_ _ | refine zD ?_ | refine zA ?_ _)); refine zO ?_ NB151_153.out _; (with_reducible repeat (first | refine zB ?_ _ | refine zD ?_ | refine zA ?_ _)); exact BK151.out))⟩; have n1_ : zC (w109.heap[gb152]? = some (.cells #[.int .i64 a3_0, .int .i64 a3_1, .int .u8 a3_2, .int .i64 a3_3, .int .i64 a3_4, .float .f64 a3_5] 35 (0, 0))) := ⟨(by rw [hw]; exact (by (with_reducible repeat (first | refine zB ?_ _ | refine zD ?_ | refine zA ?_ _)); refine zO ?_ NB152_153.out _; (with_reducible repeat (first | refine zB ?_ _ | refine zD ?_ | refine zA ?_ _)); refine zO ?_ NB152_153.out _; (with_reducible repeat (first | refine zB ?_ _ | refine zD ?_ | refine zA ?_ _)); refine zO ?_ NB152_153.out _; (with_reducible repeat (first | refine zB ?_ _ | refine zD ?_ | refine zA ?_ _)); refine zO ?_ NB152_153.out _; (with_reducible repeat (first | refine zB ?_ _ | refine zD ?_ | refine zA ?_ _)); exact BK152.out))⟩; have n2_ : zC (w109.heap[gb153]? = some (.cells #[.int .i64 t171, .int .i64 t172, .int .i64 t173, .int .u8 t174] 54 (0, 0))) := ⟨(by rw [hw]; exact (by (with_reducible repeat (first | refine zB ?_ _ | refine zD ?_ | refine zA ?_ _)); refine blk_put (cs := #[.int .i64 t171, .int .i64 t172, .int .i64 t173, .int .u8 0]) ?_ 3 _ rfl; (with_reducible repeat (first | refine zB ?_ _ | refine zD ?_ | refine zA ?_ _)); refine blk_put (cs := #[.int .i64 t171, .int .i64 t172, .int .i64 0, .int .u8 0]) ?_ 2 _ rfl; (with_reducible repeat (first | refine zB ?_ _ | refine zD ?_ | refine zA ?_ _)); refine blk_put (cs := #[.int .i64 t171, .int .i64 0, .int .i64 0, .int .u8 0]) ?_ 1 _ rfl; (with_reducible repeat (first | refine zB ?_ _ | refine zD ?_ | refine zA ?_ _)); refine blk_put (cs := #[.int .i64 0, .int .i64 0, .int .i64 0, .int .u8 0]) ?_ 0 _ rfl; (with_reducible repeat (first | refine zB ?_ _ | refine zD ?_ | refine zA ?_ _)); exact BK153.out))⟩; have n3_ : zC (Below w.heap.size w w109) := ⟨(by rw [hw]; exact (by repeat (first | (with_reducible first | exact HB.out | apply zJ | apply zG | apply zI | refine zE ?_ GE151.out | refine zE ?_ GE152.out | refine zE ?_ GE153.out) | exact HB.out)))⟩; clear hw; clear BK151; clear BK152; clear BK153; clear HB; have BK151 := n0_; have BK152 := n1_; have BK153 := n2_; have HB := n3_; clear n0_ n1_ n2_ n3_))
    refine bodyPost_ret (results_cell_row rfl _ _ gb153 54 #[.int .i64 t171, .int .i64 t172, .int .i64 t173, .int .u8 t174] (0, 0) _ rfl (by (with_reducible repeat (first | refine zB ?_ _ | refine zD ?_ | refine zA ?_ _)); exact BK153.out) Try.underlying54 rfl (by kernel_rfl)) rfl ?_
    exact ⟨by first | rfl | (simp [errW_none, errW_some] <;> rfl) | (simp [*, errW_none, errW_some] <;> rfl), by repeat (first | (with_reducible first | exact HB.out | apply zJ | apply zG | apply zI | refine zE ?_ GE151.out | refine zE ?_ GE152.out | refine zE ?_ GE153.out) | exact HB.out)⟩
end Go.Proofs.Ytcnblneghbgjgaa.F
end
section
namespace Go.Proofs.Ytcnblneghbgjgaa.F
open Go.RowKit Go.Proofs.YtcnblneghbgjgaaW.PrintWords Go.Proofs.YtcnblneghbgjgaaW.PrintLast Go.Proofs.YtcnblneghbgjgaaW.PrintMore
attribute [local go_sem] max2_int min2_int max_two min_two max_three min_three max_four min_four   -- for this text's walks alone
set_option linter.unusedVariables false
set_option linter.unusedSimpArgs false
def first_Break.l0 : Nat → Int → Int → List (S54) → List (S66) → List Int → Int → Int → Int → Int → Int → Nat → Option ((List (S54)))
  | 0, _, _, _, _, _, _, _, _, _, _, _ => none
  | k + 1, x1, x2, x9, x193000, x193001, x194000, x194001, x194002, x194003, x194004, x194005 => if x1 < x2 then ((first_one.f k x193000 x193001 x1 x2 x194000 x194001 x194002 x194003 x194004 x194005).bind fun bt194 => (if x9.length < 4398046511104 then (first_Break.l0 k bt194.2.1 x2 (x9 ++ [(⟨bt194.1, bt194.2.1, bt194.2.2.1, bt194.2.2.2⟩ : S54)]) x193000 x193001 x194000 x194001 x194002 x194003 x194004 x194005) else (none))) else (some x9)
def first_Break.f (k : Nat) (l0_0 : List (S66)) (l0_1 : List Int) (a1 : Int) (a2 : Int) (a3_0 : Int) (a3_1 : Int) (a3_2 : Int) (a3_3 : Int) (a3_4 : Int) (a3_5 : Nat) : Option ((List (S54))) := first_Break.l0 k a1 a2 ([] : List (S54)) l0_0 l0_1 a3_0 a3_1 a3_2 a3_3 a3_4 a3_5
theorem first_Break.mono_l : ∀ k, (∀ y0 y1 y2 y3 y4 y5 y6 y7 y8 y9 y10, LeO (first_Break.l0 k y0 y1 y2 y3 y4 y5 y6 y7 y8 y9 y10) (first_Break.l0 (k + 1) y0 y1 y2 y3 y4 y5 y6 y7 y8 y9 y10))
  | 0 => fun _ _ _ _ _ _ _ _ _ _ _ r h => by simp [first_Break.l0] at h
  | k + 1 => by
    have ih0 := first_Break.mono_l k
    · intro y0 y1 y2 y3 y4 y5 y6 y7 y8 y9 y10
      unfold first_Break.l0
      repeat' first
      | (with_reducible exact ih0 _ _ _ _ _ _ _ _ _ _ _)
      | (with_reducible exact first_one.mono _ _ _ _ _ _ _ _ _ _ _)
      | (with_reducible exact LeO.refl _)
      | (with_reducible exact LeO.none _)
      | (with_reducible refine LeO.ite ?_ ?_)
      | (with_reducible refine LeO.bind ?_ (fun _ => ?_))
      | exact ih0 _ _ _ _ _ _ _ _ _ _ _
      | exact first_one.mono _ _ _ _ _ _ _ _ _ _ _
      | exact LeO.none _
      | refine LeO.ite ?_ ?_
      | refine LeO.bind ?_ (fun _ => ?_)
theorem first_Break.mono : ∀ a0 a1 a2 a3 a4 a5 a6 a7 a8 a9 k, LeO (first_Break.f k a0 a1 a2 a3 a4 a5 a6 a7 a8 a9) (first_Break.f (k + 1) a0 a1 a2 a3 a4 a5 a6 a7 a8 a9) := by
  intro a0 a1 a2 a3 a4 a5 a6 a7 a8 a9 k
  have ih0 := first_Break.mono_l k; unfold first_Break.f
  repeat' first
      | (with_reducible exact ih0 _ _ _ _ _ _ _ _ _ _ _)
      | (with_reducible exact first_one.mono _ _ _ _ _ _ _ _ _ _ _)
      | (with_reducible exact LeO.refl _)
      | (with_reducible exact LeO.none _)
      | (with_reducible refine LeO.ite ?_ ?_)
      | (with_reducible refine LeO.bind ?_ (fun _ => ?_))
      | exact ih0 _ _ _ _ _ _ _ _ _ _ _
      | exact first_one.mono _ _ _ _ _ _ _ _ _ _ _
      | exact LeO.none _
      | refine LeO.ite ?_ ?_
      | refine LeO.bind ?_ (fun _ => ?_)
set_option maxHeartbeats 8000000 in
set_option maxRecDepth 100000 in
theorem first_Break.calls (k : Nat) (A0_0 : Option Addr) (c0_0 : Nat) (l0_0 : List (S66)) (A0_1 : Option Addr) (c0_1 : Nat) (l0_1 : List Int) (a1 : Int) (a2 : Int) (a3_0 : Int) (a3_1 : Int) (a3_2 : Int) (a3_3 : Int) (a3_4 : Int) (a3_5 : Nat) (r : List (S54)) (w : World) (hr0_0 : Kd.C k66 w A0_0 l0_0.length l0_0) (hc0_0 : l0_0.length ≤ c0_0) (hr0_1 : Kd.C (Kd.int .u8) w A0_1 l0_1.length l0_1) (hc0_1 : l0_1.length ≤ c0_1) (h : first_Break.f k l0_0 l0_1 a1 a2 a3_0 a3_1 a3_2 a3_3 a3_4 a3_5 = some r) :
    Calls Try.prog 20 #[.agg #[.slice A0_0 l0_0.length c0_0, .slice A0_1 l0_1.length c0_1], .int .i64 a1, .int .i64 a2, .agg #[.int .i64 a3_0, .int .i64 a3_1, .int .u8 a3_2, .int .i64 a3_3, .int .i64 a3_4, .float .f64 a3_5]] w fun e w' => ∃ v0_ : Value, e = .returned (v0_) ∧ Kd.R k54 54 w' w.heap.size (fun _ => True) v0_ r ∧ Below w.heap.size w w' := by
  have hu31 := Try.underlying31; have hu35 := Try.underlying35; have hu54 := Try.underlying54; have HR0_0 := zC.mk hr0_0; have HC0_0 := zC.mk hc0_0; clear hr0_0 hc0_0; have HR0_1 := zC.mk hr0_1; have HC0_1 := zC.mk hc0_1; clear hr0_1 hc0_1; have HB := zC.mk (Below.refl w.heap.size w); have H : (first_Break.l0 k a1 a2 ([] : List (S54)) l0_0 l0_1 a3_0 a3_1 a3_2 a3_3 a3_4 a3_5) = some r := h
  clear h; have H' := zC.mk H
  clear H; go_enter Try.func20, Try.ntmps20
  go_wp2_with (first | ((with_reducible refine gate_dst (N := 4) rfl ?_); refine box_event ?hg (N := 4) ?hd (cs := #[.slice A0_0 l0_0.length c0_0, .slice A0_1 l0_1.length c0_1]) (t := 31) ?hr ?_; (case hd => rfl); (case hg => rfl); (case hr => first | (go_simp; done) | (go_simp; rfl)); intro gb192 hg w5 hbox hb; have n0_ := zC.mk (zQ (by repeat (first | (with_reducible first | exact HB.out | apply zJ | apply zG | apply zI) | exact HB.out)) hb); have n1_ := zC.mk (hbox); have n2_ := zC.mk ((by rw [hg]; exact (zP (by repeat (first | (with_reducible first | exact HB.out | apply zJ | apply zG | apply zI) | exact HB.out))) : w.heap.size ≤ gb192)); have n3_ := zC.mk ((by rw [hg]; exact (zP (by repeat (first | (with_reducible first | exact HB.out | apply zJ | apply zG | apply zI) | exact HB.out))) : w.heap.size ≤ gb192)); clear HB; have HB := n0_; have BK192 := n1_; have GW192 := n2_; have GE192 := n3_; clear n0_ n1_ n2_ n3_; clear hb hbox hg) | ((with_reducible refine gate_dst (N := 7) rfl ?_); refine box_event ?hg (N := 7) ?hd (cs := #[.int .i64 a3_0, .int .i64 a3_1, .int .u8 a3_2, .int .i64 a3_3, .int .i64 a3_4, .float .f64 a3_5]) (t := 35) ?hr ?_; (case hd => rfl); (case hg => rfl); (case hr => first | (go_simp; done) | (go_simp; rfl)); intro gb193 hg w6 hbox hb; have n0_ := zC.mk (zK (g := gb192) (o := .cells #[.slice A0_0 l0_0.length c0_0, .slice A0_1 l0_1.length c0_1] 31 (0, 0)) (by (with_reducible repeat (first | refine zB ?_ _ | refine zD ?_ | refine zA ?_ _)); exact BK192.out) hb); have n1_ := zC.mk (zQ (by repeat (first | (with_reducible first | exact HB.out | apply zJ | apply zG | apply zI | refine zE ?_ GE192.out) | exact HB.out)) hb); have n2_ := zC.mk (hbox); have n3_ := zC.mk ((by rw [hg]; exact (zP (by repeat (first | (with_reducible first | exact HB.out | apply zJ | apply zG | apply zI | refine zE ?_ GE192.out) | exact HB.out))) : w.heap.size ≤ gb193)); have n4_ := zC.mk ((by rw [hg]; exact (zP (by repeat (first | (with_reducible first | exact HB.out | apply zJ | apply zG | apply zI | refine zE ?_ GE192.out) | exact HB.out))) : w.heap.size ≤ gb193)); have n5_ := zC.mk ((by rw [hg]; exact Nat.ne_of_lt (blk_lt (g := gb192) (o := .cells #[.slice A0_0 l0_0.length c0_0, .slice A0_1 l0_1.length c0_1] 31 (0, 0)) (by (with_reducible repeat (first | refine zB ?_ _ | refine zD ?_ | refine zA ?_ _)); exact BK192.out)) : gb192 ≠ gb193)); have n6_ := zC.mk ((by rw [hg]; exact Nat.ne_of_gt (blk_lt (g := gb192) (o := .cells #[.slice A0_0 l0_0.length c0_0, .slice A0_1 l0_1.length c0_1] 31 (0, 0)) (by (with_reducible repeat (first | refine zB ?_ _ | refine zD ?_ | refine zA ?_ _)); exact BK192.out)) : gb193 ≠ gb192)); clear BK192; clear HB; have BK192 := n0_; have HB := n1_; have BK193 := n2_; have GW193 := n3_; have GE193 := n4_; have NB192_193 := n5_; have NB193_192 := n6_; clear n0_ n1_ n2_ n3_ n4_ n5_ n6_; clear hb hbox hg))
  go_loopg [1, 9] k (fun kq v1 v9 w' => ∃ (x1_1 : Int) (x9_1 : List (S54)), v1 = .int .i64 x1_1 ∧ zC (first_Break.l0 kq x1_1 a2 x9_1 l0_0 l0_1 a3_0 a3_1 a3_2 a3_3 a3_4 a3_5 = some r) ∧ zC (kq ≤ k) ∧ zC (Kd.R k54 54 w' w.heap.size (fun _ => True) v9 x9_1) ∧ zC (w'.heap[gb192]? = some (.cells #[(.slice A0_0 l0_0.length c0_0), (.slice A0_1 l0_1.length c0_1)] 31 (0, 0))) ∧ zC (w'.heap[gb193]? = some (.cells #[.int .i64 a3_0, .int .i64 a3_1, .int .u8 a3_2, .int .i64 a3_3, .int .i64 a3_4, .float .f64 a3_5] 35 (0, 0))) ∧ zC (Below w.heap.size w w'))
  case atStart => exact ⟨(a1), (([] : List (S54))), (by first | rfl | (simp; done) | (simp [*]; done)), H', ⟨Nat.le_refl _⟩, ⟨by first | exact Kd.R_nil _ _ _ _ _ | exact Kd.N_nil _ _ _ _ _ | exact Kd.V_nil _ _ _ _ _ | exact Kd.Q_nil _ _ _ _ _ | exact Kd.S_nil _ _ _ _ _⟩, ⟨by (with_reducible repeat (first | refine zB ?_ _ | refine zD ?_ | refine zA ?_ _)); exact BK192.out⟩, ⟨by (with_reducible repeat (first | refine zB ?_ _ | refine zD ?_ | refine zA ?_ _)); exact BK193.out⟩, ⟨by repeat (first | (with_reducible first | exact HB.out | apply zJ | apply zG | apply zI | refine zE ?_ GE192.out | refine zE ?_ GE193.out) | exact HB.out)⟩⟩
  clear H'; try clear c2
  try clear p2
  obtain ⟨x1_1, x9_1, rfl, HA, HK1, HO_9, BK192, BK193, HB⟩ := hrel; cases gk with
  | zero => exact absurd HA.out (by simp [first_Break.l0])
  | succ k1 =>
    have H := HA.out; clear HA; simp only [first_Break.l0] at H; by_cases c7 : x1_1 < a2
    rotate_left
    · rw [if_neg c7] at H
      have c7b0 : decide (x1_1 < a2) = false := decide_eq_false c7
      clear c7; obtain rfl := Option.some.inj H
      go_wp2
      go_ret
      exact ⟨_, by first | rfl | (simp [errW_none, errW_some] <;> rfl) | (simp [*, errW_none, errW_some] <;> rfl), by (with_reducible repeat (first | apply Kd.R_alloc | apply Kd.R_drewN | apply Kd.R_drew)); exact HO_9.out, by repeat (first | (with_reducible first | exact HB.out | apply zJ | apply zG | apply zI | refine zE ?_ GE192.out | refine zE ?_ GE193.out) | exact HB.out)⟩
    rw [if_pos c7] at H; have c7b0 : decide (x1_1 < a2) = true := decide_eq_true c7
    clear c7; replace H := Option.bind_eq_some_iff.mp H; obtain ⟨⟨t194, t195, t196, t197⟩, A80, H⟩ := H; replace H : (if x9_1.length < 4398046511104 then (first_Break.l0 k1 t195 a2 (x9_1 ++ [(⟨t194, t195, t196, t197⟩ : S54)]) l0_0 l0_1 a3_0 a3_1 a3_2 a3_3 a3_4 a3_5) else (none)) = some r := H; have A8 := zC.mk A80; clear A80; by_cases c9 : x9_1.length < 4398046511104
    rotate_left
    · rw [if_neg c9] at H
      exact absurd H (by simp)
    rw [if_pos c9] at H; have LMc9 := zC.mk c9; clear c9; obtain ⟨y199, hy199⟩ : ∃ y_ : List (S54), y_ = (x9_1 ++ [(⟨t194, t195, t196, t197⟩ : S54)]) := ⟨_, rfl⟩; replace H : (first_Break.l0 k1 t195 a2 y199 l0_0 l0_1 a3_0 a3_1 a3_2 a3_3 a3_4 a3_5) = some r := by first | (rw [hy199]; with_reducible exact H) | (have H2_ := (Option.bind_some _ _).symm.trans H; rw [hy199]; with_reducible exact H2_) | (have H2_ := (Option.bind_some _ _).symm.trans H; with_reducible exact H2_) | with_reducible exact H | (rw [hy199]; exact H) | exact H
    have Ny199 := zC.mk hy199; clear hy199; have H' := zC.mk H
    clear H; have hnb10 := NB192_193.out; have hnc10 := NB193_192.out; have hcz11_0 : wr.cell? ⟨gb192, 0, none⟩ = some (.slice A0_0 l0_0.length c0_0) := (zF BK192.out 0).trans rfl
    have hcz11_1 : wr.cell? ⟨gb192, 1, none⟩ = some (.slice A0_1 l0_1.length c0_1) := (zF BK192.out 1).trans rfl
    have hfz11_0 := zH BK192.out 0; have hfz11_1 := zH BK192.out 1; have hcz12_0 : wr.cell? ⟨gb193, 0, none⟩ = some (.int .i64 a3_0) := (zF BK193.out 0).trans rfl
    have hcz12_1 : wr.cell? ⟨gb193, 1, none⟩ = some (.int .i64 a3_1) := (zF BK193.out 1).trans rfl
    have hcz12_2 : wr.cell? ⟨gb193, 2, none⟩ = some (.int .u8 a3_2) := (zF BK193.out 2).trans rfl
    have hcz12_3 : wr.cell? ⟨gb193, 3, none⟩ = some (.int .i64 a3_3) := (zF BK193.out 3).trans rfl
    have hcz12_4 : wr.cell? ⟨gb193, 4, none⟩ = some (.int .i64 a3_4) := (zF BK193.out 4).trans rfl
    have hcz12_5 : wr.cell? ⟨gb193, 5, none⟩ = some (.float .f64 a3_5) := (zF BK193.out 5).trans rfl
    have hfz12_0 := zH BK193.out 0; have hfz12_1 := zH BK193.out 1; have hfz12_2 := zH BK193.out 2; have hfz12_3 := zH BK193.out 3; have hfz12_4 := zH BK193.out 4; have hfz12_5 := zH BK193.out 5; go_wp2_with (first | ((with_reducible refine gate_callee (f := 28) rfl ?_); refine goesL_ (some 18) rfl rfl Try.func28 (by kernel_rfl) rfl #[.agg #[.slice A0_0 l0_0.length c0_0, .slice A0_1 l0_1.length c0_1], .int .i64 x1_1, .int .i64 a2, .agg #[.int .i64 a3_0, .int .i64 a3_1, .int .u8 a3_2, .int .i64 a3_3, .int .i64 a3_4, .float .f64 a3_5]] rfl (by (try simp only [List.map_toArray, List.map_cons, List.map_nil]); first | done | rfl | (simp only [List.length_drop, List.length_take]; rfl)) ?_; (with_reducible refine (first_one.calls k1 _ _ l0_0 _ _ l0_1 x1_1 a2 a3_0 a3_1 a3_2 a3_3 a3_4 a3_5 t194 t195 t196 t197 _ ?side1 ?side2 ?side3 ?side4 A8.out).mono ?_); (case side1 => repeat (first | exact (Kd.C_below HR0_0.out HB.out) | (with_reducible refine Kd.C_alloc ?_ _) | (with_reducible refine Kd.C_drewN ?_ _) | (with_reducible refine Kd.C_drew ?_))); (case side2 => exact HC0_0.out); (case side3 => repeat (first | exact (Kd.C_below HR0_1.out HB.out) | (with_reducible refine Kd.C_alloc ?_ _) | (with_reducible refine Kd.C_drewN ?_ _) | (with_reducible refine Kd.C_drew ?_))); (case side4 => exact HC0_1.out); rintro e w13 ⟨rfl, hb⟩; refine ⟨_, rfl, ?_⟩; have n0_ := zC.mk (Kd.R_below (by (with_reducible repeat (first | apply Kd.R_alloc | apply Kd.R_drewN | apply Kd.R_drew)); exact HO_9.out) hb); have n1_ := zC.mk (zK (g := gb192) (o := .cells #[.slice A0_0 l0_0.length c0_0, .slice A0_1 l0_1.length c0_1] 31 (0, 0)) (by (with_reducible repeat (first | refine zB ?_ _ | refine zD ?_ | refine zA ?_ _)); exact BK192.out) hb); have n2_ := zC.mk (zK (g := gb193) (o := .cells #[.int .i64 a3_0, .int .i64 a3_1, .int .u8 a3_2, .int .i64 a3_3, .int .i64 a3_4, .float .f64 a3_5] 35 (0, 0)) (by (with_reducible repeat (first | refine zB ?_ _ | refine zD ?_ | refine zA ?_ _)); exact BK193.out) hb); have n3_ := zC.mk (zQ (by repeat (first | (with_reducible first | exact HB.out | apply zJ | apply zG | apply zI | refine zE ?_ GE192.out | refine zE ?_ GE193.out) | exact HB.out)) hb); clear HO_9; clear BK192; clear BK193; clear HB; have HO_9 := n0_; have BK192 := n1_; have BK193 := n2_; have HB := n3_; clear n0_ n1_ n2_ n3_; (try clear hb); (try clear hb2); (try clear hk); (try clear hi)) | ((with_reducible refine gate_dst (N := 10) rfl ?_); refine box_event ?hg (N := 10) ?hd (cs := #[.int .i64 0, .int .i64 0, .int .i64 0, .int .u8 0]) (t := 54) ?hr ?_; (case hd => rfl); (case hg => rfl); (case hr => first | (go_simp; done) | (go_simp; rfl)); intro gb198 hg w14 hbox hb; have n0_ := zC.mk (Kd.R_below (Kd.R_elderB (by (with_reducible repeat (first | apply Kd.R_alloc | apply Kd.R_drewN | apply Kd.R_drew)); exact HO_9.out) gb198 (Nat.le_of_eq hg.symm)) hb); have n1_ := zC.mk (zK (g := gb192) (o := .cells #[.slice A0_0 l0_0.length c0_0, .slice A0_1 l0_1.length c0_1] 31 (0, 0)) (by (with_reducible repeat (first | refine zB ?_ _ | refine zD ?_ | refine zA ?_ _)); exact BK192.out) hb); have n2_ := zC.mk (zK (g := gb193) (o := .cells #[.int .i64 a3_0, .int .i64 a3_1, .int .u8 a3_2, .int .i64 a3_3, .int .i64 a3_4, .float .f64 a3_5] 35 (0, 0)) (by (with_reducible repeat (first | refine zB ?_ _ | refine zD ?_ | refine zA ?_ _)); exact BK193.out) hb); have n3_ := zC.mk (zQ (by repeat (first | (with_reducible first | exact HB.out | apply zJ | apply zG | apply zI | refine zE ?_ GE192.out | refine zE ?_ GE193.out) | exact HB.out)) hb); have n4_ := zC.mk (hbox); have n5_ := zC.mk ((by rw [hg]; exact (zP (by repeat (first | (with_reducible first | exact HB.out | apply zJ | apply zG | apply zI | refine zE ?_ GE192.out | refine zE ?_ GE193.out) | exact HB.out))) : w.heap.size ≤ gb198)); have n6_ := zC.mk ((by rw [hg]; exact (zP (by repeat (first | (with_reducible first | exact HB.out | apply zJ | apply zG | apply zI | refine zE ?_ GE192.out | refine zE ?_ GE193.out) | exact HB.out))) : w.heap.size ≤ gb198)); have n7_ := zC.mk ((by rw [hg]; exact Nat.ne_of_lt (blk_lt (g := gb192) (o := .cells #[.slice A0_0 l0_0.length c0_0, .slice A0_1 l0_1.length c0_1] 31 (0, 0)) (by (with_reducible repeat (first | refine zB ?_ _ | refine zD ?_ | refine zA ?_ _)); exact BK192.out)) : gb192 ≠ gb198)); have n8_ := zC.mk ((by rw [hg]; exact Nat.ne_of_gt (blk_lt (g := gb192) (o := .cells #[.slice A0_0 l0_0.length c0_0, .slice A0_1 l0_1.length c0_1] 31 (0, 0)) (by (with_reducible repeat (first | refine zB ?_ _ | refine zD ?_ | refine zA ?_ _)); exact BK192.out)) : gb198 ≠ gb192)); have n9_ := zC.mk ((by rw [hg]; exact Nat.ne_of_lt (blk_lt (g := gb193) (o := .cells #[.int .i64 a3_0, .int .i64 a3_1, .int .u8 a3_2, .int .i64 a3_3, .int .i64 a3_4, .float .f64 a3_5] 35 (0, 0)) (by (with_reducible repeat (first | refine zB ?_ _ | refine zD ?_ | refine zA ?_ _)); exact BK193.out)) : gb193 ≠ gb198)); have n10_ := zC.mk ((by rw [hg]; exact Nat.ne_of_gt (blk_lt (g := gb193) (o := .cells #[.int .i64 a3_0, .int .i64 a3_1, .int .u8 a3_2, .int .i64 a3_3, .int .i64 a3_4, .float .f64 a3_5] 35 (0, 0)) (by (with_reducible repeat (first | refine zB ?_ _ | refine zD ?_ | refine zA ?_ _)); exact BK193.out)) : gb198 ≠ gb193)); clear HO_9; clear BK192; clear BK193; clear HB; have HO_9 := n0_; have BK192 := n1_; have BK193 := n2_; have HB := n3_; have BK198 := n4_; have GW198 := n5_; have GE198 := n6_; have NB192_198 := n7_; have NB198_192 := n8_; have NB193_198 := n9_; have NB198_193 := n10_; clear n0_ n1_ n2_ n3_ n4_ n5_ n6_ n7_ n8_ n9_ n10_; clear hb hbox hg; have hnb15 := NB198_192.out; have hnc15 := NB192_198.out; have hnb16 := NB198_193.out; have hnc16 := NB193_198.out; have hcz17_0 : w14.cell? ⟨gb198, 0, none⟩ = some (.int .i64 0) := (zF BK198.out 0).trans rfl; have hcz17_1 : w14.cell? ⟨gb198, 1, none⟩ = some (.int .i64 0) := (zF BK198.out 1).trans rfl; have hcz17_2 : w14.cell? ⟨gb198, 2, none⟩ = some (.int .i64 0) := (zF BK198.out 2).trans rfl; have hcz17_3 : w14.cell? ⟨gb198, 3, none⟩ = some (.int .u8 0) := (zF BK198.out 3).trans rfl; have hfz17_0 := zH BK198.out 0; have hfz17_1 := zH BK198.out 1; have hfz17_2 := zH BK198.out 2; have hfz17_3 := zH BK198.out 3) | ((with_reducible refine gate_store (t := 54) (p := 10) rfl ?_); refine store_event (t := 54) (p := 10) (v := ?vo_w18) (w1 := ((((w14.setCell ⟨gb198, 0, none⟩ (.int .i64 t194)).setCell ⟨gb198, 1, none⟩ (.int .i64 t195)).setCell ⟨gb198, 2, none⟩ (.int .i64 t196)).setCell ⟨gb198, 3, none⟩ (.int .u8 t197))) ?hg ?ho ?hn ?hr ?_; (case ho => rfl); (case hg => rfl); (case hn => rfl); (case hr => first | (go_simp; done) | (go_simp; rfl)); intro w18 hw; have n0_ : zC (Kd.R k54 54 w18 w.heap.size (fun k_ => k_ ≠ gb198) u9 x9_1) := ⟨(by rw [hw]; exact (by (with_reducible repeat (first | apply Kd.R_alloc | apply Kd.R_drewN | apply Kd.R_drew)); exact Kd.R_mono (Kd.R_far (p := ⟨gb198, 3, none⟩) (Kd.R_far (p := ⟨gb198, 2, none⟩) (Kd.R_far (p := ⟨gb198, 1, none⟩) (Kd.R_far (p := ⟨gb198, 0, none⟩) (Kd.R_mono HO_9.out (fun k_ hk => (⟨hk, hk.2⟩ : _ ∧ k_ ≠ gb198))) (fun _ hk => hk.2) (.int .i64 t194)) (fun _ hk => hk.2) (.int .i64 t195)) (fun _ hk => hk.2) (.int .i64 t196)) (fun _ hk => hk.2) (.int .u8 t197)) (fun _ hk => hk.1.2)))⟩; have n1_ : zC (w18.heap[gb192]? = some (.cells #[.slice A0_0 l0_0.length c0_0, .slice A0_1 l0_1.length c0_1] 31 (0, 0))) := ⟨(by rw [hw]; exact (by (with_reducible repeat (first | refine zB ?_ _ | refine zD ?_ | refine zA ?_ _)); refine zO ?_ NB192_198.out _; (with_reducible repeat (first | refine zB ?_ _ | refine zD ?_ | refine zA ?_ _)); refine zO ?_ NB192_198.out _; (with_reducible repeat (first | refine zB ?_ _ | refine zD ?_ | refine zA ?_ _)); refine zO ?_ NB192_198.out _; (with_reducible repeat (first | refine zB ?_ _ | refine zD ?_ | refine zA ?_ _)); refine zO ?_ NB192_198.out _; (with_reducible repeat (first | refine zB ?_ _ | refine zD ?_ | refine zA ?_ _)); exact BK192.out))⟩; have n2_ : zC (w18.heap[gb193]? = some (.cells #[.int .i64 a3_0, .int .i64 a3_1, .int .u8 a3_2, .int .i64 a3_3, .int .i64 a3_4, .float .f64 a3_5] 35 (0, 0))) := ⟨(by rw [hw]; exact (by (with_reducible repeat (first | refine zB ?_ _ | refine zD ?_ | refine zA ?_ _)); refine zO ?_ NB193_198.out _; (with_reducible repeat (first | refine zB ?_ _ | refine zD ?_ | refine zA ?_ _)); refine zO ?_ NB193_198.out _; (with_reducible repeat (first | refine zB ?_ _ | refine zD ?_ | refine zA ?_ _)); refine zO ?_ NB193_198.out _; (with_reducible repeat (first | refine zB ?_ _ | refine zD ?_ | refine zA ?_ _)); refine zO ?_ NB193_198.out _; (with_reducible repeat (first | refine zB ?_ _ | refine zD ?_ | refine zA ?_ _)); exact BK193.out))⟩; have n3_ : zC (w18.heap[gb198]? = some (.cells #[.int .i64 t194, .int .i64 t195, .int .i64 t196, .int .u8 t197] 54 (0, 0))) := ⟨(by rw [hw]; exact (by (with_reducible repeat (first | refine zB ?_ _ | refine zD ?_ | refine zA ?_ _)); refine blk_put (cs := #[.int .i64 t194, .int .i64 t195, .int .i64 t196, .int .u8 0]) ?_ 3 _ rfl; (with_reducible repeat (first | refine zB ?_ _ | refine zD ?_ | refine zA ?_ _)); refine blk_put (cs := #[.int .i64 t194, .int .i64 t195, .int .i64 0, .int .u8 0]) ?_ 2 _ rfl; (with_reducible repeat (first | refine zB ?_ _ | refine zD ?_ | refine zA ?_ _)); refine blk_put (cs := #[.int .i64 t194, .int .i64 0, .int .i64 0, .int .u8 0]) ?_ 1 _ rfl; (with_reducible repeat (first | refine zB ?_ _ | refine zD ?_ | refine zA ?_ _)); refine blk_put (cs := #[.int .i64 0, .int .i64 0, .int .i64 0, .int .u8 0]) ?_ 0 _ rfl; (with_reducible repeat (first | refine zB ?_ _ | refine zD ?_ | refine zA ?_ _)); exact BK198.out))⟩; have n4_ : zC (Below w.heap.size w w18) := ⟨(by rw [hw]; exact (by repeat (first | (with_reducible first | exact HB.out | apply zJ | apply zG | apply zI | refine zE ?_ GE192.out | refine zE ?_ GE193.out | refine zE ?_ GE198.out) | exact HB.out)))⟩; clear hw; clear HO_9; clear BK192; clear BK193; clear BK198; clear HB; have HO_9 := n0_; have BK192 := n1_; have BK193 := n2_; have BK198 := n3_; have HB := n4_; clear n0_ n1_ n2_ n3_ n4_; have hcz19_0 : w18.cell? ⟨gb198, 0, none⟩ = some (.int .i64 t194) := (zF BK198.out 0).trans rfl; have hcz19_1 : w18.cell? ⟨gb198, 1, none⟩ = some (.int .i64 t195) := (zF BK198.out 1).trans rfl; have hcz19_2 : w18.cell? ⟨gb198, 2, none⟩ = some (.int .i64 t196) := (zF BK198.out 2).trans rfl; have hcz19_3 : w18.cell? ⟨gb198, 3, none⟩ = some (.int .u8 t197) := (zF BK198.out 3).trans rfl; have hfz19_0 := zH BK198.out 0; have hfz19_1 := zH BK198.out 1; have hfz19_2 := zH BK198.out 2; have hfz19_3 := zH BK198.out 3) | ((with_reducible refine gate_builtin (b := .append) (xs := #[.tmp 19, .tmp 21]) rfl ?_); at_builtin; refine Kd.R_append k54 (w0 := w) w.heap.size rfl (.tmp 19) (.tmp 21) 37 54 (.agg #[(.int .i64 0), (.int .i64 0), (.int .i64 0), (.int .u8 0)]) 32 rfl Try.underlying37 info54 rfl (by decide) (by omega) u9 x9_1 (⟨t194, t195, t196, t197⟩ : S54) [.int .i64 t194, .int .i64 t195, .int .i64 t196, .int .u8 t197] (fun k_ => k_ ≠ gb198) (fun _ => False) rfl rfl ?aP (fun _ hk => hk.elim) ?aF ?aO ?aB ?aS ?aL ?_; (case aP => exact k54_mkM _ _ _ (⟨t194, t195, t196, t197⟩ : S54)); (case aB => exact (by repeat (first | (with_reducible first | exact HB.out | apply zJ | apply zG | apply zI | refine zE ?_ GE192.out | refine zE ?_ GE193.out | refine zE ?_ GE198.out) | exact HB.out))); (case aF => exact (fun k_ hk => Kd.freshB (g := gb198) (o := .cells #[.int .i64 t194, .int .i64 t195, .int .i64 t196, .int .u8 t197] 54 (0, 0)) (by (with_reducible repeat (first | refine zB ?_ _ | refine zD ?_ | refine zA ?_ _)); exact BK198.out) k_ hk)); (case aO => exact (by (with_reducible repeat (first | apply Kd.R_alloc | apply Kd.R_drewN | apply Kd.R_drew)); exact HO_9.out)); (case aS => exact (zP (by repeat (first | (with_reducible first | exact HB.out | apply zJ | apply zG | apply zI | refine zE ?_ GE192.out | refine zE ?_ GE193.out | refine zE ?_ GE198.out) | exact HB.out)))); (case aL => have := LMc9.out; omega); intro v200 w20 ho hb hg hat; rw [← Ny199.out] at ho; have n0_ := zC.mk (blk_grown (g := gb192) (o := .cells #[.slice A0_0 l0_0.length c0_0, .slice A0_1 l0_1.length c0_1] 31 (0, 0)) (by (with_reducible repeat (first | refine zB ?_ _ | refine zD ?_ | refine zA ?_ _)); exact BK192.out) hg (Kd.R_ne HO_9.out BK192.out (by decide))); have n1_ := zC.mk (blk_grown (g := gb193) (o := .cells #[.int .i64 a3_0, .int .i64 a3_1, .int .u8 a3_2, .int .i64 a3_3, .int .i64 a3_4, .float .f64 a3_5] 35 (0, 0)) (by (with_reducible repeat (first | refine zB ?_ _ | refine zD ?_ | refine zA ?_ _)); exact BK193.out) hg (Kd.R_ne HO_9.out BK193.out (by decide))); have n2_ := zC.mk (blk_grown (g := gb198) (o := .cells #[.int .i64 t194, .int .i64 t195, .int .i64 t196, .int .u8 t197] 54 (0, 0)) (by (with_reducible repeat (first | refine zB ?_ _ | refine zD ?_ | refine zA ?_ _)); exact BK198.out) hg (Kd.R_away HO_9.out (fun _ hk => hk))); have n3_ := zC.mk (hb); have n4_ := zC.mk (ho); clear BK192; clear BK193; clear BK198; clear HB; clear HO_9; have BK192 := n0_; have BK193 := n1_; have BK198 := n2_; have HB := n3_; have HO201 := n4_; clear n0_ n1_ n2_ n3_ n4_; clear ho hb hg hat; have hcz21_0 : w20.cell? ⟨gb198, 0, none⟩ = some (.int .i64 t194) := (zF BK198.out 0).trans rfl; have hcz21_1 : w20.cell? ⟨gb198, 1, none⟩ = some (.int .i64 t195) := (zF BK198.out 1).trans rfl; have hcz21_2 : w20.cell? ⟨gb198, 2, none⟩ = some (.int .i64 t196) := (zF BK198.out 2).trans rfl; have hcz21_3 : w20.cell? ⟨gb198, 3, none⟩ = some (.int .u8 t197) := (zF BK198.out 3).trans rfl; have hfz21_0 := zH BK198.out 0; have hfz21_1 := zH BK198.out 1; have hfz21_2 := zH BK198.out 2; have hfz21_3 := zH BK198.out 3))
    go_roundg k1
    case measure => have := HK1.out; omega
    case rel => exact ⟨(t195), (y199), (by first | rfl | (simp; done) | (simp [*]; done)), H', ⟨by have := HK1.out; omega⟩, ⟨by (with_reducible repeat (first | apply Kd.R_alloc | apply Kd.R_drewN | apply Kd.R_drew)); exact Kd.R_mono HO201.out (fun _ hk => trivial)⟩, ⟨by (with_reducible repeat (first | refine zB ?_ _ | refine zD ?_ | refine zA ?_ _)); exact BK192.out⟩, ⟨by (with_reducible repeat (first | refine zB ?_ _ | refine zD ?_ | refine zA ?_ _)); exact BK193.out⟩, ⟨by repeat (first | (with_reducible first | exact HB.out | apply zJ | apply zG | apply zI | refine zE ?_ GE192.out | refine zE ?_ GE193.out | refine zE ?_ GE198.out) | exact HB.out)⟩⟩
def ratio_Of.f (a0 : Int) (a1 : Int) : Option Nat := some (fop .quo (floatOfInt .f64 a0) (floatOfInt .f64 a1))
set_option maxHeartbeats 8000000 in
set_option maxRecDepth 100000 in
theorem ratio_Of.calls (a0 : Int) (a1 : Int) (r : Nat) (w : World) (h : ratio_Of.f a0 a1 = some r) :
    Calls Try.prog 50 #[.int .i64 a0, .int .i64 a1] w fun e w' => ∃ b_ : Nat, e = .returned (.float .f64 b_) ∧ Drawn0 w w' ∧ FR r b_ := by
  have hu3 : (Try.prog.underlying 3).isSome = true := by kernel_rfl
  have hu24 := Try.underlying24; obtain rfl := Option.some.inj h
  obtain ⟨b, m, hrun, hb⟩ := run_rough (P := Try.prog) w .quo (by simp) 24 (floatOfInt .f64 a0) (floatOfInt .f64 a1)
  go_enter Try.func50, Try.ntmps50
  go_wp2
  go_ret
  exact ⟨b, rfl, ⟨⟨m, rfl⟩⟩, fr_fop hb⟩
def ratio_Fits.f (a0 : Nat) (a1 : Nat) : Option Bool := some (!(FloatKind.f64.format.order a0 a1 == some .gt))
set_option maxHeartbeats 8000000 in
set_option maxRecDepth 100000 in
theorem ratio_Fits.calls (a0 : Nat) (a1 : Nat) (r : Bool) (w : World) (h : ratio_Fits.f a0 a1 = some r) {b0_ : Nat} (hf0_ : zC (FR a0 b0_) := by first | assumption | exact ⟨FR.same _⟩) {b1_ : Nat} (hf1_ : zC (FR a1 b1_) := by first | assumption | exact ⟨FR.same _⟩) :
    Calls Try.prog 51 #[.float .f64 b0_, .float .f64 b1_] w fun e w' => e = .returned (.bool r) ∧ Drawn0 w w' := by
  have hu24 := Try.underlying24; obtain rfl := Option.some.inj h
  go_enter Try.func51, Try.ntmps51
  go_wp2
  go_ret
  exact ⟨by rw [hf0_.out.order_l, hf1_.out.order_r]; rfl, Drawn0.refl _⟩
end Go.Proofs.Ytcnblneghbgjgaa.F
end
section
namespace Go.Proofs.Ytcnblneghbgjgaa.F
open Go.RowKit Go.Proofs.YtcnblneghbgjgaaW.PrintWords Go.Proofs.YtcnblneghbgjgaaW.PrintLast Go.Proofs.YtcnblneghbgjgaaW.PrintMore
attribute [local go_sem] max2_int min2_int max_two min_two max_three min_three max_four min_four   -- for this text's walks alone
set_option linter.unusedVariables false
set_option linter.unusedSimpArgs false
def absb (x : Nat) : Nat := (Go.bits .andNot .u64 (x : Int) 9223372036854775808).toNat
def cube (x : Nat) : Nat := fop .mul (fop .mul (fop .mul 4636737291354636288 (absb x)) (absb x)) (absb x)
def ratio_Badness.f (a0 : Nat) : Option Int := if isNan a0 = true then some 0 else if (FloatKind.f64.format.order (cube a0) 4666723172467343360 == some .lt) = true then floatToIntVal .f64 (cube a0) .i64 else some 10000
set_option maxHeartbeats 8000000 in
set_option maxRecDepth 100000 in
theorem ratio_Badness.calls (a0 : Nat) (r : Int) (w : World) (h : ratio_Badness.f a0 = some r) {b0_ : Nat} (hf0_ : zC (FR a0 b0_) := by first | assumption | exact ⟨FR.same _⟩) :
    Calls Try.prog 52 #[.float .f64 b0_] w fun e w' => e = .returned (.int .i64 r) ∧ Drawn0 w w' := by
  have hu24 := Try.underlying24; have hu3 := Try.underlying3; have hA : ∀ (b : Nat) (W : World), (callFunc 56 #[.float .f64 b]).run Try.prog W = .ok (.value (.int .u64 b)) W := fun b W => by rw [run_callFunc_extern (fn := Try.f56) (e := Extern.MathFloatBits.float64bits) (by kernel_rfl) (by kernel_rfl) (by kernel_rfl) (by rfl) (by rfl)]; rfl
  have hB : ∀ (b : Int) (W : World), (callFunc 59 #[.int .u64 b]).run Try.prog W = .ok (.value (.float .f64 b.toNat)) W := fun b W => by rw [run_callFunc_extern (fn := Try.f59) (e := Extern.MathFloatBits.float64frombits) (by kernel_rfl) (by kernel_rfl) (by kernel_rfl) (by rfl) (by rfl)]; rfl
  unfold ratio_Badness.f at h
  by_cases hx : isNan a0 = true
  · rw [if_pos hx] at h
    obtain rfl := Option.some.inj h
    have ho := order_nan_l (b := b0_) (y := b0_) (by rw [← hf0_.out.nan]; exact hx)
    go_enter Try.func52, Try.ntmps52
    go_wp2
    go_ret
    exact ⟨rfl, Drawn0.refl _⟩
  rw [if_neg hx] at h; have hx' : isNan a0 = false := by simpa using hx
  obtain rfl := hf0_.out.eq_of hx'
  have ho := order_self hx'; obtain ⟨p1, m1, hr1, hp1⟩ := run_rough (P := Try.prog) w .mul (by simp) 24 4636737291354636288 (absb a0)
  obtain ⟨p2, m2, hr2, hp2⟩ := run_rough (P := Try.prog) (w.drewN m1) .mul (by simp) 24 p1 (absb a0)
  obtain ⟨p3, m3, hr3, hp3⟩ := run_rough (P := Try.prog) (w.drewN (m1 + m2)) .mul (by simp) 24 p2 (absb a0)
  have hc : FR (cube a0) p3 := ((fr_fop hp1).fop_l (fr_fop hp2)).fop_l (fr_fop hp3)
  have hd : Drawn0 w (w.drewN (m1 + m2 + m3)) := ⟨⟨_, rfl⟩⟩
  rw [← hc.order_l] at h; unfold absb at hr1 hr2 hr3
  by_cases hl : (FloatKind.f64.format.order p3 4666723172467343360 == some .lt) = true
  rotate_left
  · rw [if_neg hl] at h
    obtain rfl := Option.some.inj h
    have hl' := Bool.eq_false_iff.mpr hl
    go_enter Try.func52, Try.ntmps52
    go_wp2
    go_ret
    exact ⟨rfl, hd⟩
  rw [if_pos hl] at h; have hn : isNan (cube a0) = false := by
    rcases Bool.eq_false_or_eq_true (isNan (cube a0)) with hh | hh
    · rw [hc.order_l, order_nan_l hh] at hl; cases hl
    · exact hh
  rw [hc.eq_of hn] at h; have hk := fun W => run_convert_float_int (P := Try.prog) W 24 3 .f64 .i64 p3 r (by kernel_rfl) hu3 h
  go_enter Try.func52, Try.ntmps52
  go_wp2
  go_ret
  exact ⟨rfl, hd⟩
end Go.Proofs.Ytcnblneghbgjgaa.F
end
section
namespace Go.Proofs.Ytcnblneghbgjgaa.F
open Go.RowKit Go.Proofs.YtcnblneghbgjgaaW.PrintWords Go.Proofs.YtcnblneghbgjgaaW.PrintLast Go.Proofs.YtcnblneghbgjgaaW.PrintMore
attribute [local go_sem] max2_int min2_int max_two min_two max_three min_three max_four min_four   -- for this text's walks alone
set_option linter.unusedVariables false
set_option linter.unusedSimpArgs false
def best_price.j0 : Nat → Int → Int → Int → List (S66) → List Int → Int → Int → Int → Int → Int → Nat → Option (Int × Bool)
  | 0, _, _, _, _, _, _, _, _, _, _, _ => none
  | k + 1, x1, x2, x16, x203000, x203001, x204000, x204001, x204002, x204003, x204004, x204005 => if x2 = 3 then (if 0 ≤ x1 then (if x1 < (x203001.length : Int) then (if (rd x203001 x1) = 3 then (some (wrap64 ((wrap64 ((wrap64 ((wrap64 (10 + x16)) * (wrap64 (10 + x16)))) + x204003)) + x204004), true)) else (some (wrap64 ((wrap64 ((wrap64 (10 + x16)) * (wrap64 (10 + x16)))) + x204003), true))) else (none)) else (none)) else (some (wrap64 ((wrap64 (10 + x16)) * (wrap64 (10 + x16))), true))
def best_price.f (k : Nat) (l0_0 : List (S66)) (l0_1 : List Int) (a1 : Int) (a2 : Int) (a3 : Int) (a4 : Int) (a5 : Bool) (a6_0 : Int) (a6_1 : Int) (a6_2 : Int) (a6_3 : Int) (a6_4 : Int) (a6_5 : Nat) : Option (Int × Bool) := if a3 > a6_0 then (some (0, false)) else (if a5 = true then (best_price.j0 k a1 a2 0 l0_0 l0_1 a6_0 a6_1 a6_2 a6_3 a6_4 a6_5) else ((ratio_Of.f (wrap64 (a6_0 - a3)) a4).bind fun t204 => ((ratio_Fits.f t204 a6_5).bind fun t205 => (if t205 = true then ((ratio_Badness.f t204).bind fun t206 => (best_price.j0 k a1 a2 t206 l0_0 l0_1 a6_0 a6_1 a6_2 a6_3 a6_4 a6_5)) else (some (0, false))))))
theorem best_price.mono_l : ∀ k, (∀ y0 y1 y2 y3 y4 y5 y6 y7 y8 y9 y10, LeO (best_price.j0 k y0 y1 y2 y3 y4 y5 y6 y7 y8 y9 y10) (best_price.j0 (k + 1) y0 y1 y2 y3 y4 y5 y6 y7 y8 y9 y10))
  | 0 => fun _ _ _ _ _ _ _ _ _ _ _ r h => by simp [best_price.j0] at h
  | k + 1 => by
    have ih0 := best_price.mono_l k
    · intro y0 y1 y2 y3 y4 y5 y6 y7 y8 y9 y10
      unfold best_price.j0
      repeat' first
      | (with_reducible exact ih0 _ _ _ _ _ _ _ _ _ _ _)
      | (with_reducible exact LeO.refl _)
      | (with_reducible exact LeO.none _)
      | (with_reducible refine LeO.ite ?_ ?_)
      | (with_reducible refine LeO.bind ?_ (fun _ => ?_))
      | exact ih0 _ _ _ _ _ _ _ _ _ _ _
      | exact LeO.none _
      | refine LeO.ite ?_ ?_
      | refine LeO.bind ?_ (fun _ => ?_)
theorem best_price.mono : ∀ a0 a1 a2 a3 a4 a5 a6 a7 a8 a9 a10 a11 a12 k, LeO (best_price.f k a0 a1 a2 a3 a4 a5 a6 a7 a8 a9 a10 a11 a12) (best_price.f (k + 1) a0 a1 a2 a3 a4 a5 a6 a7 a8 a9 a10 a11 a12) := by
  intro a0 a1 a2 a3 a4 a5 a6 a7 a8 a9 a10 a11 a12 k
  have ih0 := best_price.mono_l k; unfold best_price.f
  repeat' first
      | (with_reducible exact ih0 _ _ _ _ _ _ _ _ _ _ _)
      | (with_reducible exact LeO.refl _)
      | (with_reducible exact LeO.none _)
      | (with_reducible refine LeO.ite ?_ ?_)
      | (with_reducible refine LeO.bind ?_ (fun _ => ?_))
      | exact ih0 _ _ _ _ _ _ _ _ _ _ _
      | exact LeO.none _
      | refine LeO.ite ?_ ?_
      | refine LeO.bind ?_ (fun _ => ?_)
set_option maxHeartbeats 8000000 in
set_option maxRecDepth 100000 in
theorem best_price.calls (k : Nat) (A0_0 : Option Addr) (c0_0 : Nat) (l0_0 : List (S66)) (A0_1 : Option Addr) (c0_1 : Nat) (l0_1 : List Int) (a1 : Int) (a2 : Int) (a3 : Int) (a4 : Int) (a5 : Bool) (a6_0 : Int) (a6_1 : Int) (a6_2 : Int) (a6_3 : Int) (a6_4 : Int) (a6_5 : Nat) (r1 : Int) (r2 : Bool) (w : World) (hr0_0 : Kd.C k66 w A0_0 l0_0.length l0_0) (hc0_0 : l0_0.length ≤ c0_0) (hr0_1 : Kd.C (Kd.int .u8) w A0_1 l0_1.length l0_1) (hc0_1 : l0_1.length ≤ c0_1) (h : best_price.f k l0_0 l0_1 a1 a2 a3 a4 a5 a6_0 a6_1 a6_2 a6_3 a6_4 a6_5 = some (r1, r2)) :
    Calls Try.prog 41 #[.agg #[.slice A0_0 l0_0.length c0_0, .slice A0_1 l0_1.length c0_1], .int .i64 a1, .int .u8 a2, .int .i64 a3, .int .i64 a4, .bool a5, .agg #[.int .i64 a6_0, .int .i64 a6_1, .int .u8 a6_2, .int .i64 a6_3, .int .i64 a6_4, .float .f64 a6_5]] w fun e w' => e = .returned (.tuple #[.int .i64 r1, .bool r2]) ∧ Below w.heap.size w w' := by
  have hu31 := Try.underlying31; have hu35 := Try.underlying35; have HR0_0 := zC.mk hr0_0; have HC0_0 := zC.mk hc0_0; clear hr0_0 hc0_0; have HR0_1 := zC.mk hr0_1; have HC0_1 := zC.mk hc0_1; clear hr0_1 hc0_1; have HB := zC.mk (Below.refl w.heap.size w); have H : (if a3 > a6_0 then (some (0, false)) else (if a5 = true then (best_price.j0 k a1 a2 0 l0_0 l0_1 a6_0 a6_1 a6_2 a6_3 a6_4 a6_5) else ((ratio_Of.f (wrap64 (a6_0 - a3)) a4).bind fun t204 => ((ratio_Fits.f t204 a6_5).bind fun t205 => (if t205 = true then ((ratio_Badness.f t204).bind fun t206 => (best_price.j0 k a1 a2 t206 l0_0 l0_1 a6_0 a6_1 a6_2 a6_3 a6_4 a6_5)) else (some (0, false))))))) = some (r1, r2) := h
  clear h; by_cases c8 : a3 > a6_0
  · rw [if_pos c8] at H
    have c8b0 : decide (a6_0 < a3) = true := decide_eq_true c8
    clear c8; simp only [Option.some.injEq, Prod.mk.injEq] at H; obtain ⟨rfl, rfl⟩ := H; go_enter Try.func41, Try.ntmps41
    go_wp2_with (first | ((with_reducible refine gate_dst (N := 7) rfl ?_); refine box_event ?hg (N := 7) ?hd (cs := #[.slice A0_0 l0_0.length c0_0, .slice A0_1 l0_1.length c0_1]) (t := 31) ?hr ?_; (case hd => rfl); (case hg => rfl); (case hr => first | (go_simp; done) | (go_simp; rfl)); intro gb202 hg w9 hbox hb; have n0_ := zC.mk (zQ (by repeat (first | (with_reducible first | exact HB.out | apply zJ | apply zG | apply zI) | exact HB.out)) hb); have n1_ := zC.mk (hbox); have n2_ := zC.mk ((by rw [hg]; exact (zP (by repeat (first | (with_reducible first | exact HB.out | apply zJ | apply zG | apply zI) | exact HB.out))) : w.heap.size ≤ gb202)); have n3_ := zC.mk ((by rw [hg]; exact (zP (by repeat (first | (with_reducible first | exact HB.out | apply zJ | apply zG | apply zI) | exact HB.out))) : w.heap.size ≤ gb202)); clear HB; have HB := n0_; have BK202 := n1_; have GW202 := n2_; have GE202 := n3_; clear n0_ n1_ n2_ n3_; clear hb hbox hg) | ((with_reducible refine gate_dst (N := 13) rfl ?_); refine box_event ?hg (N := 13) ?hd (cs := #[.int .i64 a6_0, .int .i64 a6_1, .int .u8 a6_2, .int .i64 a6_3, .int .i64 a6_4, .float .f64 a6_5]) (t := 35) ?hr ?_; (case hd => rfl); (case hg => rfl); (case hr => first | (go_simp; done) | (go_simp; rfl)); intro gb203 hg w10 hbox hb; have n0_ := zC.mk (zK (g := gb202) (o := .cells #[.slice A0_0 l0_0.length c0_0, .slice A0_1 l0_1.length c0_1] 31 (0, 0)) (by (with_reducible repeat (first | refine zB ?_ _ | refine zD ?_ | refine zA ?_ _)); exact BK202.out) hb); have n1_ := zC.mk (zQ (by repeat (first | (with_reducible first | exact HB.out | apply zJ | apply zG | apply zI | refine zE ?_ GE202.out) | exact HB.out)) hb); have n2_ := zC.mk (hbox); have n3_ := zC.mk ((by rw [hg]; exact (zP (by repeat (first | (with_reducible first | exact HB.out | apply zJ | apply zG | apply zI | refine zE ?_ GE202.out) | exact HB.out))) : w.heap.size ≤ gb203)); have n4_ := zC.mk ((by rw [hg]; exact (zP (by repeat (first | (with_reducible first | exact HB.out | apply zJ | apply zG | apply zI | refine zE ?_ GE202.out) | exact HB.out))) : w.heap.size ≤ gb203)); have n5_ := zC.mk ((by rw [hg]; exact Nat.ne_of_lt (blk_lt (g := gb202) (o := .cells #[.slice A0_0 l0_0.length c0_0, .slice A0_1 l0_1.length c0_1] 31 (0, 0)) (by (with_reducible repeat (first | refine zB ?_ _ | refine zD ?_ | refine zA ?_ _)); exact BK202.out)) : gb202 ≠ gb203)); have n6_ := zC.mk ((by rw [hg]; exact Nat.ne_of_gt (blk_lt (g := gb202) (o := .cells #[.slice A0_0 l0_0.length c0_0, .slice A0_1 l0_1.length c0_1] 31 (0, 0)) (by (with_reducible repeat (first | refine zB ?_ _ | refine zD ?_ | refine zA ?_ _)); exact BK202.out)) : gb203 ≠ gb202)); clear BK202; clear HB; have BK202 := n0_; have HB := n1_; have BK203 := n2_; have GW203 := n3_; have GE203 := n4_; have NB202_203 := n5_; have NB203_202 := n6_; clear n0_ n1_ n2_ n3_ n4_ n5_ n6_; clear hb hbox hg; have hnb11 := NB203_202.out; have hnc11 := NB202_203.out; have hcz12_0 : w10.cell? ⟨gb203, 0, none⟩ = some (.int .i64 a6_0) := (zF BK203.out 0).trans rfl; have hcz12_1 : w10.cell? ⟨gb203, 1, none⟩ = some (.int .i64 a6_1) := (zF BK203.out 1).trans rfl; have hcz12_2 : w10.cell? ⟨gb203, 2, none⟩ = some (.int .u8 a6_2) := (zF BK203.out 2).trans rfl; have hcz12_3 : w10.cell? ⟨gb203, 3, none⟩ = some (.int .i64 a6_3) := (zF BK203.out 3).trans rfl; have hcz12_4 : w10.cell? ⟨gb203, 4, none⟩ = some (.int .i64 a6_4) := (zF BK203.out 4).trans rfl; have hcz12_5 : w10.cell? ⟨gb203, 5, none⟩ = some (.float .f64 a6_5) := (zF BK203.out 5).trans rfl; have hfz12_0 := zH BK203.out 0; have hfz12_1 := zH BK203.out 1; have hfz12_2 := zH BK203.out 2; have hfz12_3 := zH BK203.out 3; have hfz12_4 := zH BK203.out 4; have hfz12_5 := zH BK203.out 5))
    go_ret2
    exact ⟨by first | rfl | (simp [errW_none, errW_some] <;> rfl) | (simp [*, errW_none, errW_some] <;> rfl), by repeat (first | (with_reducible first | exact HB.out | apply zJ | apply zG | apply zI | refine zE ?_ GE202.out | refine zE ?_ GE203.out) | exact HB.out)⟩
  rw [if_neg c8] at H; have c8b0 : decide (a6_0 < a3) = false := decide_eq_false c8
  clear c8; have HC13 := zC.mk H; clear H; go_enter Try.func41, Try.ntmps41
  go_upto_if 24 with (first | ((with_reducible refine gate_dst (N := 7) rfl ?_); refine box_event ?hg (N := 7) ?hd (cs := #[.slice A0_0 l0_0.length c0_0, .slice A0_1 l0_1.length c0_1]) (t := 31) ?hr ?_; (case hd => rfl); (case hg => rfl); (case hr => first | (go_simp; done) | (go_simp; rfl)); intro gb202 hg w14 hbox hb; have n0_ := zC.mk (zQ (by repeat (first | (with_reducible first | exact HB.out | apply zJ | apply zG | apply zI) | exact HB.out)) hb); have n1_ := zC.mk (hbox); have n2_ := zC.mk ((by rw [hg]; exact (zP (by repeat (first | (with_reducible first | exact HB.out | apply zJ | apply zG | apply zI) | exact HB.out))) : w.heap.size ≤ gb202)); have n3_ := zC.mk ((by rw [hg]; exact (zP (by repeat (first | (with_reducible first | exact HB.out | apply zJ | apply zG | apply zI) | exact HB.out))) : w.heap.size ≤ gb202)); clear HB; have HB := n0_; have BK202 := n1_; have GW202 := n2_; have GE202 := n3_; clear n0_ n1_ n2_ n3_; clear hb hbox hg) | ((with_reducible refine gate_dst (N := 13) rfl ?_); refine box_event ?hg (N := 13) ?hd (cs := #[.int .i64 a6_0, .int .i64 a6_1, .int .u8 a6_2, .int .i64 a6_3, .int .i64 a6_4, .float .f64 a6_5]) (t := 35) ?hr ?_; (case hd => rfl); (case hg => rfl); (case hr => first | (go_simp; done) | (go_simp; rfl)); intro gb203 hg w15 hbox hb; have n0_ := zC.mk (zK (g := gb202) (o := .cells #[.slice A0_0 l0_0.length c0_0, .slice A0_1 l0_1.length c0_1] 31 (0, 0)) (by (with_reducible repeat (first | refine zB ?_ _ | refine zD ?_ | refine zA ?_ _)); exact BK202.out) hb); have n1_ := zC.mk (zQ (by repeat (first | (with_reducible first | exact HB.out | apply zJ | apply zG | apply zI | refine zE ?_ GE202.out) | exact HB.out)) hb); have n2_ := zC.mk (hbox); have n3_ := zC.mk ((by rw [hg]; exact (zP (by repeat (first | (with_reducible first | exact HB.out | apply zJ | apply zG | apply zI | refine zE ?_ GE202.out) | exact HB.out))) : w.heap.size ≤ gb203)); have n4_ := zC.mk ((by rw [hg]; exact (zP (by repeat (first | (with_reducible first | exact HB.out | apply zJ | apply zG | apply zI | refine zE ?_ GE202.out) | exact HB.out))) : w.heap.size ≤ gb203)); have n5_ := zC.mk ((by rw [hg]; exact Nat.ne_of_lt (blk_lt (g := gb202) (o := .cells #[.slice A0_0 l0_0.length c0_0, .slice A0_1 l0_1.length c0_1] 31 (0, 0)) (by (with_reducible repeat (first | refine zB ?_ _ | refine zD ?_ | refine zA ?_ _)); exact BK202.out)) : gb202 ≠ gb203)); have n6_ := zC.mk ((by rw [hg]; exact Nat.ne_of_gt (blk_lt (g := gb202) (o := .cells #[.slice A0_0 l0_0.length c0_0, .slice A0_1 l0_1.length c0_1] 31 (0, 0)) (by (with_reducible repeat (first | refine zB ?_ _ | refine zD ?_ | refine zA ?_ _)); exact BK202.out)) : gb203 ≠ gb202)); clear BK202; clear HB; have BK202 := n0_; have HB := n1_; have BK203 := n2_; have GW203 := n3_; have GE203 := n4_; have NB202_203 := n5_; have NB203_202 := n6_; clear n0_ n1_ n2_ n3_ n4_ n5_ n6_; clear hb hbox hg; have hnb16 := NB203_202.out; have hnc16 := NB202_203.out; have hcz17_0 : w15.cell? ⟨gb203, 0, none⟩ = some (.int .i64 a6_0) := (zF BK203.out 0).trans rfl; have hcz17_1 : w15.cell? ⟨gb203, 1, none⟩ = some (.int .i64 a6_1) := (zF BK203.out 1).trans rfl; have hcz17_2 : w15.cell? ⟨gb203, 2, none⟩ = some (.int .u8 a6_2) := (zF BK203.out 2).trans rfl; have hcz17_3 : w15.cell? ⟨gb203, 3, none⟩ = some (.int .i64 a6_3) := (zF BK203.out 3).trans rfl; have hcz17_4 : w15.cell? ⟨gb203, 4, none⟩ = some (.int .i64 a6_4) := (zF BK203.out 4).trans rfl; have hcz17_5 : w15.cell? ⟨gb203, 5, none⟩ = some (.float .f64 a6_5) := (zF BK203.out 5).trans rfl; have hfz17_0 := zH BK203.out 0; have hfz17_1 := zH BK203.out 1; have hfz17_2 := zH BK203.out 2; have hfz17_3 := zH BK203.out 3; have hfz17_4 := zH BK203.out 4; have hfz17_5 := zH BK203.out 5))
  (try simp only [Act.put, sA_, sB_, sC_])
  go_cut [16] (fun v16 wc => ∃ (kq : Nat) (x16_12 : Int), v16 = .int .i64 x16_12 ∧ zC (best_price.j0 kq a1 a2 x16_12 l0_0 l0_1 a6_0 a6_1 a6_2 a6_3 a6_4 a6_5 = some (r1, r2)) ∧ zC (kq ≤ k) ∧ zC (wc.heap[gb202]? = some (.cells #[(.slice A0_0 l0_0.length c0_0), (.slice A0_1 l0_1.length c0_1)] 31 (0, 0))) ∧ zC (wc.heap[gb203]? = some (.cells #[.int .i64 a6_0, .int .i64 a6_1, .int .u8 a6_2, .int .i64 a6_3, .int .i64 a6_4, .float .f64 a6_5] 35 (0, 0))) ∧ zC (Below w.heap.size w wc))
  case first =>
    have H := HC13.out; clear HC13; by_cases c18 : a5 = true
    · subst c18
      have H1 : (best_price.j0 k a1 a2 0 l0_0 l0_1 a6_0 a6_1 a6_2 a6_3 a6_4 a6_5) = some (r1, r2) := by rw [if_pos rfl] at H; exact H
      clear H; have H := H1; clear H1; have H' := zC.mk H
      clear H; go_wp2
      go_meet
      case rel => exact ⟨_, (0), (by first | rfl | (simp; done) | (simp [*]; done)), H', ⟨by first | omega | exact Nat.le_refl _⟩, ⟨by (with_reducible repeat (first | refine zB ?_ _ | refine zD ?_ | refine zA ?_ _)); exact BK202.out⟩, ⟨by (with_reducible repeat (first | refine zB ?_ _ | refine zD ?_ | refine zA ?_ _)); exact BK203.out⟩, ⟨by repeat (first | (with_reducible first | exact HB.out | apply zJ | apply zG | apply zI | refine zE ?_ GE202.out | refine zE ?_ GE203.out) | exact HB.out)⟩⟩
    replace c18 := Bool.eq_false_iff.mpr c18; subst c18; have H1 : ((ratio_Of.f (wrap64 (a6_0 - a3)) a4).bind fun t204 => ((ratio_Fits.f t204 a6_5).bind fun t205 => (if t205 = true then ((ratio_Badness.f t204).bind fun t206 => (best_price.j0 k a1 a2 t206 l0_0 l0_1 a6_0 a6_1 a6_2 a6_3 a6_4 a6_5)) else (some (0, false))))) = some (r1, r2) := by rw [if_neg (show ¬ (false = true) by decide)] at H; exact H
    clear H; have H := H1; clear H1; replace H := Option.bind_eq_some_iff.mp H; obtain ⟨t204, A190, H⟩ := H; replace H : ((ratio_Fits.f t204 a6_5).bind fun t205 => (if t205 = true then ((ratio_Badness.f t204).bind fun t206 => (best_price.j0 k a1 a2 t206 l0_0 l0_1 a6_0 a6_1 a6_2 a6_3 a6_4 a6_5)) else (some (0, false)))) = some (r1, r2) := H
    have A19 := zC.mk A190; clear A190; replace H := Option.bind_eq_some_iff.mp H; obtain ⟨t205, A200, H⟩ := H; replace H : (if t205 = true then ((ratio_Badness.f t204).bind fun t206 => (best_price.j0 k a1 a2 t206 l0_0 l0_1 a6_0 a6_1 a6_2 a6_3 a6_4 a6_5)) else (some (0, false))) = some (r1, r2) := H
    have A20 := zC.mk A200; clear A200; by_cases c21 : t205 = true
    rotate_left
    · replace c21 := Bool.eq_false_iff.mpr c21
      subst c21; have H1 : (some (0, false)) = some (r1, r2) := by rw [if_neg (show ¬ (false = true) by decide)] at H; exact H
      clear H; have H := H1; clear H1; simp only [Option.some.injEq, Prod.mk.injEq] at H; obtain ⟨rfl, rfl⟩ := H; have hnb25 := NB203_202.out; have hnc25 := NB202_203.out; have hcz26_0 : w15.cell? ⟨gb203, 0, none⟩ = some (.int .i64 a6_0) := (zF BK203.out 0).trans rfl
      have hcz26_1 : w15.cell? ⟨gb203, 1, none⟩ = some (.int .i64 a6_1) := (zF BK203.out 1).trans rfl
      have hcz26_2 : w15.cell? ⟨gb203, 2, none⟩ = some (.int .u8 a6_2) := (zF BK203.out 2).trans rfl
      have hcz26_3 : w15.cell? ⟨gb203, 3, none⟩ = some (.int .i64 a6_3) := (zF BK203.out 3).trans rfl
      have hcz26_4 : w15.cell? ⟨gb203, 4, none⟩ = some (.int .i64 a6_4) := (zF BK203.out 4).trans rfl
      have hcz26_5 : w15.cell? ⟨gb203, 5, none⟩ = some (.float .f64 a6_5) := (zF BK203.out 5).trans rfl
      have hfz26_0 := zH BK203.out 0; have hfz26_1 := zH BK203.out 1; have hfz26_2 := zH BK203.out 2; have hfz26_3 := zH BK203.out 3; have hfz26_4 := zH BK203.out 4; have hfz26_5 := zH BK203.out 5; go_wp2_with (first | ((with_reducible refine gate_callee (f := 50) rfl ?_); refine goesL_ (some 30) rfl rfl Try.func50 (by kernel_rfl) rfl #[.int .i64 (wrap64 (a6_0 - a3)), .int .i64 a4] rfl (by (try simp only [List.map_toArray, List.map_cons, List.map_nil]); first | done | rfl | (simp only [List.length_drop, List.length_take]; rfl)) ?_; (with_reducible refine (ratio_Of.calls (wrap64 (a6_0 - a3)) a4 t204 _ A19.out).mono ?_); rintro e w' ⟨bt_t204, rfl, ⟨nd, rfl⟩, hfr_⟩; have HF_t204 := zC.mk hfr_; clear hfr_; refine ⟨_, rfl, ?_⟩) | ((with_reducible refine gate_callee (f := 51) rfl ?_); refine goesL_ (some 34) rfl rfl Try.func51 (by kernel_rfl) rfl #[.float .f64 bt_t204, .float .f64 a6_5] rfl (by (try simp only [List.map_toArray, List.map_cons, List.map_nil]); first | done | rfl | (simp only [List.length_drop, List.length_take]; rfl)) ?_; (with_reducible refine (ratio_Fits.calls t204 a6_5 false _ A20.out).mono ?_); rintro e w' ⟨rfl, ⟨nd, rfl⟩⟩; refine ⟨_, rfl, ?_⟩))
      go_ret2
      exact ⟨by first | rfl | (simp [errW_none, errW_some] <;> rfl) | (simp [*, errW_none, errW_some] <;> rfl), by repeat (first | (with_reducible first | exact HB.out | apply zJ | apply zG | apply zI | refine zE ?_ GE202.out | refine zE ?_ GE203.out) | exact HB.out)⟩
    subst c21; have H1 : ((ratio_Badness.f t204).bind fun t206 => (best_price.j0 k a1 a2 t206 l0_0 l0_1 a6_0 a6_1 a6_2 a6_3 a6_4 a6_5)) = some (r1, r2) := by rw [if_pos rfl] at H; exact H
    clear H; have H := H1; clear H1; replace H := Option.bind_eq_some_iff.mp H; obtain ⟨t206, A220, H⟩ := H; replace H : (best_price.j0 k a1 a2 t206 l0_0 l0_1 a6_0 a6_1 a6_2 a6_3 a6_4 a6_5) = some (r1, r2) := H; have A22 := zC.mk A220; clear A220; have H' := zC.mk H
    clear H; have hnb23 := NB203_202.out; have hnc23 := NB202_203.out; have hcz24_0 : w15.cell? ⟨gb203, 0, none⟩ = some (.int .i64 a6_0) := (zF BK203.out 0).trans rfl
    have hcz24_1 : w15.cell? ⟨gb203, 1, none⟩ = some (.int .i64 a6_1) := (zF BK203.out 1).trans rfl
    have hcz24_2 : w15.cell? ⟨gb203, 2, none⟩ = some (.int .u8 a6_2) := (zF BK203.out 2).trans rfl
    have hcz24_3 : w15.cell? ⟨gb203, 3, none⟩ = some (.int .i64 a6_3) := (zF BK203.out 3).trans rfl
    have hcz24_4 : w15.cell? ⟨gb203, 4, none⟩ = some (.int .i64 a6_4) := (zF BK203.out 4).trans rfl
    have hcz24_5 : w15.cell? ⟨gb203, 5, none⟩ = some (.float .f64 a6_5) := (zF BK203.out 5).trans rfl
    have hfz24_0 := zH BK203.out 0; have hfz24_1 := zH BK203.out 1; have hfz24_2 := zH BK203.out 2; have hfz24_3 := zH BK203.out 3; have hfz24_4 := zH BK203.out 4; have hfz24_5 := zH BK203.out 5; go_wp2_with (first | ((with_reducible refine gate_callee (f := 50) rfl ?_); refine goesL_ (some 30) rfl rfl Try.func50 (by kernel_rfl) rfl #[.int .i64 (wrap64 (a6_0 - a3)), .int .i64 a4] rfl (by (try simp only [List.map_toArray, List.map_cons, List.map_nil]); first | done | rfl | (simp only [List.length_drop, List.length_take]; rfl)) ?_; (with_reducible refine (ratio_Of.calls (wrap64 (a6_0 - a3)) a4 t204 _ A19.out).mono ?_); rintro e w' ⟨bt_t204, rfl, ⟨nd, rfl⟩, hfr_⟩; have HF_t204 := zC.mk hfr_; clear hfr_; refine ⟨_, rfl, ?_⟩) | ((with_reducible refine gate_callee (f := 51) rfl ?_); refine goesL_ (some 34) rfl rfl Try.func51 (by kernel_rfl) rfl #[.float .f64 bt_t204, .float .f64 a6_5] rfl (by (try simp only [List.map_toArray, List.map_cons, List.map_nil]); first | done | rfl | (simp only [List.length_drop, List.length_take]; rfl)) ?_; (with_reducible refine (ratio_Fits.calls t204 a6_5 true _ A20.out).mono ?_); rintro e w' ⟨rfl, ⟨nd, rfl⟩⟩; refine ⟨_, rfl, ?_⟩) | ((with_reducible refine gate_callee (f := 52) rfl ?_); refine goesL_ (some 37) rfl rfl Try.func52 (by kernel_rfl) rfl #[.float .f64 bt_t204] rfl (by (try simp only [List.map_toArray, List.map_cons, List.map_nil]); first | done | rfl | (simp only [List.length_drop, List.length_take]; rfl)) ?_; (with_reducible refine (ratio_Badness.calls t204 t206 _ A22.out).mono ?_); rintro e w' ⟨rfl, ⟨nd, rfl⟩⟩; refine ⟨_, rfl, ?_⟩))
    go_meet
    case rel => exact ⟨_, (t206), (by first | rfl | (simp; done) | (simp [*]; done)), H', ⟨by first | omega | exact Nat.le_refl _⟩, ⟨by (with_reducible repeat (first | refine zB ?_ _ | refine zD ?_ | refine zA ?_ _)); exact BK202.out⟩, ⟨by (with_reducible repeat (first | refine zB ?_ _ | refine zD ?_ | refine zA ?_ _)); exact BK203.out⟩, ⟨by repeat (first | (with_reducible first | exact HB.out | apply zJ | apply zG | apply zI | refine zE ?_ GE202.out | refine zE ?_ GE203.out) | exact HB.out)⟩⟩
  clear HC13; try clear c1
  try clear c2
  try clear p2
  try clear c4
  try clear c5
  try clear p6
  try clear c8
  try clear c8b0
  try clear c11
  try clear c16
  try clear c18
  try clear c21
  try clear c23
  try clear c25
  try clear hcz12_0
  try clear hcz12_1
  try clear hcz12_2
  try clear hcz12_3
  try clear hcz12_4
  try clear hcz12_5
  try clear hcz17_0
  try clear hcz17_1
  try clear hcz17_2
  try clear hcz17_3
  try clear hcz17_4
  try clear hcz17_5
  try clear hcz24_0
  try clear hcz24_1
  try clear hcz24_2
  try clear hcz24_3
  try clear hcz24_4
  try clear hcz24_5
  try clear hcz26_0
  try clear hcz26_1
  try clear hcz26_2
  try clear hcz26_3
  try clear hcz26_4
  try clear hcz26_5
  try clear hfz12_0
  try clear hfz12_1
  try clear hfz12_2
  try clear hfz12_3
  try clear hfz12_4
  try clear hfz12_5
  try clear hfz17_0
  try clear hfz17_1
  try clear hfz17_2
  try clear hfz17_3
  try clear hfz17_4
  try clear hfz17_5
  try clear hfz24_0
  try clear hfz24_1
  try clear hfz24_2
  try clear hfz24_3
  try clear hfz24_4
  try clear hfz24_5
  try clear hfz26_0
  try clear hfz26_1
  try clear hfz26_2
  try clear hfz26_3
  try clear hfz26_4
  try clear hfz26_5
  obtain ⟨kq, x16_12, rfl, HA, HJ12, BK202, BK203, HB⟩ := hcut; cases kq with
  | zero => exact absurd HA.out (by simp [best_price.j0])
  | succ kj12 =>
    have H := HA.out; clear HA; simp only [best_price.j0] at H; by_cases c27 : a2 = 3
    rotate_left
    · rw [if_neg c27] at H
      have c27b0 : (a2 == 3) = false := beq_eq_false_iff_ne.mpr c27
      have c27b1 : (a2 != 3) = true := bne_iff_ne.mpr c27
      simp only [Option.some.injEq, Prod.mk.injEq] at H; obtain ⟨rfl, rfl⟩ := H; go_wp2
      go_ret2
      exact ⟨by first | rfl | (simp [errW_none, errW_some] <;> rfl) | (simp [*, errW_none, errW_some] <;> rfl), by repeat (first | (with_reducible first | exact HB.out | apply zJ | apply zG | apply zI | refine zE ?_ GE202.out | refine zE ?_ GE203.out) | exact HB.out)⟩
    rw [if_pos c27] at H; have c27b0 : (a2 == 3) = true := beq_iff_eq.mpr c27
    have c27b1 : (a2 != 3) = false := bne_eq_false_iff_eq.mpr c27
    clear c27; by_cases c28 : 0 ≤ a1
    rotate_left
    · rw [if_neg c28] at H
      exact absurd H (by simp)
    rw [if_pos c28] at H; have c28b0 : decide (0 ≤ a1) = true := decide_eq_true c28
    clear c28; by_cases c29 : a1 < (l0_1.length : Int)
    rotate_left
    · rw [if_neg c29] at H
      exact absurd H (by simp)
    rw [if_pos c29] at H; have c29b0 : decide (a1 < (l0_1.length : Int)) = true := decide_eq_true c29
    clear c29; by_cases c30 : (rd l0_1 a1) = 3
    · rw [if_pos c30] at H
      have c30b0 : ((rd l0_1 a1) == 3) = true := beq_iff_eq.mpr c30
      have c30b1 : ((rd l0_1 a1) != 3) = false := bne_eq_false_iff_eq.mpr c30
      clear c30; simp only [Option.some.injEq, Prod.mk.injEq] at H; obtain ⟨rfl, rfl⟩ := H; have hnb31 := NB203_202.out; have hnc31 := NB202_203.out; have hcz32_0 : wc.cell? ⟨gb203, 0, none⟩ = some (.int .i64 a6_0) := (zF BK203.out 0).trans rfl
      have hcz32_1 : wc.cell? ⟨gb203, 1, none⟩ = some (.int .i64 a6_1) := (zF BK203.out 1).trans rfl
      have hcz32_2 : wc.cell? ⟨gb203, 2, none⟩ = some (.int .u8 a6_2) := (zF BK203.out 2).trans rfl
      have hcz32_3 : wc.cell? ⟨gb203, 3, none⟩ = some (.int .i64 a6_3) := (zF BK203.out 3).trans rfl
      have hcz32_4 : wc.cell? ⟨gb203, 4, none⟩ = some (.int .i64 a6_4) := (zF BK203.out 4).trans rfl
      have hcz32_5 : wc.cell? ⟨gb203, 5, none⟩ = some (.float .f64 a6_5) := (zF BK203.out 5).trans rfl
      have hfz32_0 := zH BK203.out 0; have hfz32_1 := zH BK203.out 1; have hfz32_2 := zH BK203.out 2; have hfz32_3 := zH BK203.out 3; have hfz32_4 := zH BK203.out 4; have hfz32_5 := zH BK203.out 5; have hcz33_0 : wc.cell? ⟨gb202, 0, none⟩ = some (.slice A0_0 l0_0.length c0_0) := (zF BK202.out 0).trans rfl
      have hcz33_1 : wc.cell? ⟨gb202, 1, none⟩ = some (.slice A0_1 l0_1.length c0_1) := (zF BK202.out 1).trans rfl
      have hfz33_0 := zH BK202.out 0; have hfz33_1 := zH BK202.out 1; have p207 : 0 ≤ (a1 : Int) := of_decide_eq_true (by first | (with_reducible assumption) | assumption)
      have q207 : a1 < (l0_1.length : Int) := of_decide_eq_true (by first | (with_reducible assumption) | assumption)
      obtain ⟨ad207, e207, hx207_0⟩ := Kd.at_int HR0_1.out a1 p207 q207; cases e207
      replace hx207_0 := (HB.out.cell (World.block_lt_of_cell? w _ hx207_0)).trans hx207_0; replace p207 := eq_true p207; replace q207 := eq_true q207; go_wp2
      go_ret2
      exact ⟨by first | rfl | (simp [errW_none, errW_some] <;> rfl) | (simp [*, errW_none, errW_some] <;> rfl), by repeat (first | (with_reducible first | exact HB.out | apply zJ | apply zG | apply zI | refine zE ?_ GE202.out | refine zE ?_ GE203.out) | exact HB.out)⟩
    rw [if_neg c30] at H; have c30b0 : ((rd l0_1 a1) == 3) = false := beq_eq_false_iff_ne.mpr c30
    have c30b1 : ((rd l0_1 a1) != 3) = true := bne_iff_ne.mpr c30
    simp only [Option.some.injEq, Prod.mk.injEq] at H; obtain ⟨rfl, rfl⟩ := H; have hnb34 := NB203_202.out; have hnc34 := NB202_203.out; have hcz35_0 : wc.cell? ⟨gb203, 0, none⟩ = some (.int .i64 a6_0) := (zF BK203.out 0).trans rfl
    have hcz35_1 : wc.cell? ⟨gb203, 1, none⟩ = some (.int .i64 a6_1) := (zF BK203.out 1).trans rfl
    have hcz35_2 : wc.cell? ⟨gb203, 2, none⟩ = some (.int .u8 a6_2) := (zF BK203.out 2).trans rfl
    have hcz35_3 : wc.cell? ⟨gb203, 3, none⟩ = some (.int .i64 a6_3) := (zF BK203.out 3).trans rfl
    have hcz35_4 : wc.cell? ⟨gb203, 4, none⟩ = some (.int .i64 a6_4) := (zF BK203.out 4).trans rfl
    have hcz35_5 : wc.cell? ⟨gb203, 5, none⟩ = some (.float .f64 a6_5) := (zF BK203.out 5).trans rfl
    have hfz35_0 := zH BK203.out 0; have hfz35_1 := zH BK203.out 1; have hfz35_2 := zH BK203.out 2; have hfz35_3 := zH BK203.out 3; have hfz35_4 := zH BK203.out 4; have hfz35_5 := zH BK203.out 5; have hcz36_0 : wc.cell? ⟨gb202, 0, none⟩ = some (.slice A0_0 l0_0.length c0_0) := (zF BK202.out 0).trans rfl
    have hcz36_1 : wc.cell? ⟨gb202, 1, none⟩ = some (.slice A0_1 l0_1.length c0_1) := (zF BK202.out 1).trans rfl
    have hfz36_0 := zH BK202.out 0; have hfz36_1 := zH BK202.out 1; have p207 : 0 ≤ (a1 : Int) := of_decide_eq_true (by first | (with_reducible assumption) | assumption)
    have q207 : a1 < (l0_1.length : Int) := of_decide_eq_true (by first | (with_reducible assumption) | assumption)
    obtain ⟨ad207, e207, hx207_0⟩ := Kd.at_int HR0_1.out a1 p207 q207; cases e207
    replace hx207_0 := (HB.out.cell (World.block_lt_of_cell? w _ hx207_0)).trans hx207_0; replace p207 := eq_true p207; replace q207 := eq_true q207; go_wp2
    go_ret2
    exact ⟨by first | rfl | (simp [errW_none, errW_some] <;> rfl) | (simp [*, errW_none, errW_some] <;> rfl), by repeat (first | (with_reducible first | exact HB.out | apply zJ | apply zG | apply zI | refine zE ?_ GE202.out | refine zE ?_ GE203.out) | exact HB.out)⟩
end Go.Proofs.Ytcnblneghbgjgaa.F
end
