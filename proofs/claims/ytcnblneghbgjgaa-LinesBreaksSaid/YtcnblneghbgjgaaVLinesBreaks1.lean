/- Printed by a program: Lean functions that answer as the Go functions do, and the proofs of it. -/
import Derived.Test.YtcnblneghbgjgaaXLinesBreaks0
import Derived.Test.YtcnblneghbgjgaaVLinesBreaks0
section
namespace Go.Proofs.Ytcnblneghbgjgaa.F
open Go.RowKit Go.Proofs.YtcnblneghbgjgaaW.PrintWords Go.Proofs.YtcnblneghbgjgaaW.PrintLast Go.Proofs.YtcnblneghbgjgaaW.PrintMore
attribute [local go_sem] max2_int min2_int max_two min_two max_three min_three max_four min_four   -- for this text's walks alone
set_option linter.unusedVariables false
set_option linter.unusedSimpArgs false
mutual
def best_next.l0 : Nat → Int → Int → Int → List (S70) → Int → Int → Int → Int → Int → List (S66) → List Int → Int → Int → Int → Int → Int → Nat → Int → Int → Option (Int × Int)
 | 0, _, _, _, _, _, _, _, _, _, _, _, _, _, _, _, _, _, _, _ => none
 | k + 1, x1, x2, x3, x4, x14, x15, x16, x17, x18, x209000, x209001, x210000, x210001, x210002, x210003, x210004, x210005, x212000, x212001 => if x18 ≤ x3 then (if 0 ≤ (wrap64 (x18 - 1)) then (if (wrap64 (x18 - 1)) < (x209000.length : Int) then ((span_Next.f ((rd_T66 x209000 (wrap64 (x18 - 1))).f0) ((rd_T66 x209000 (wrap64 (x18 - 1))).f1) ((rd_T66 x209000 (wrap64 (x18 - 1))).f2) ((rd_T66 x209000 (wrap64 (x18 - 1))).f3) x14 x210001).bind fun t214 => (if ((rd_T66 x209000 (wrap64 (x18 - 1))).f3) = 1 then (best_next.j1 k x1 x2 x3 x4 t214 x15 (wrap64 (x16 + 1)) x17 x18 x209000 x209001 x210000 x210001 x210002 x210003 x210004 x210005 x212000 x212001) else (best_next.j1 k x1 x2 x3 x4 t214 x15 x16 x17 x18 x209000 x209001 x210000 x210001 x210002 x210003 x210004 x210005 x212000 x212001))) else (none)) else (none)) else (some (x212000, x212001))
def best_next.j1 : Nat → Int → Int → Int → List (S70) → Int → Int → Int → Int → Int → List (S66) → List Int → Int → Int → Int → Int → Int → Nat → Int → Int → Option (Int × Int)
 | 0, _, _, _, _, _, _, _, _, _, _, _, _, _, _, _, _, _, _, _ => none
 | k + 1, x1, x2, x3, x4, x14, x15, x16, x17, x18, x209000, x209001, x210000, x210001, x210002, x210003, x210004, x210005, x212000, x212001 => (span_Trim.f k x209000 x209001 (wrap64 (x18 - 1)) x18).bind fun t215 => (if t215 = x18 then (best_next.j2 k x1 x2 x3 x4 x14 x14 x16 x16 x18 x209000 x209001 x210000 x210001 x210002 x210003 x210004 x210005 x212000 x212001) else (best_next.j2 k x1 x2 x3 x4 x14 x15 x16 x17 x18 x209000 x209001 x210000 x210001 x210002 x210003 x210004 x210005 x212000 x212001))
def best_next.j2 : Nat → Int → Int → Int → List (S70) → Int → Int → Int → Int → Int → List (S66) → List Int → Int → Int → Int → Int → Int → Nat → Int → Int → Option (Int × Int)
 | 0, _, _, _, _, _, _, _, _, _, _, _, _, _, _, _, _, _, _, _ => none
 | k + 1, x1, x2, x3, x4, x14, x15, x16, x17, x18, x209000, x209001, x210000, x210001, x210002, x210003, x210004, x210005, x212000, x212001 => if x15 > x210000 then (some (x212000, x212001)) else ((span_Ends.f x209000 x209001 x18).bind fun bt216 => (if 0 ≤ (wrap64 (x18 - x2)) then (if (wrap64 (x18 - x2)) < (x4.length : Int) then (if bt216.2 = true then (if x18 < x3 then (best_next.j3 k x1 x2 x3 x4 x14 x15 x16 x17 x18 bt216.1 (decide (((rd_T70 x4 (wrap64 (x18 - x2))).f1) < 0)) x209000 x209001 x210000 x210001 x210002 x210003 x210004 x210005 x212000 x212001 ((rd_T70 x4 (wrap64 (x18 - x2))).f0) ((rd_T70 x4 (wrap64 (x18 - x2))).f1)) else (best_next.j3 k x1 x2 x3 x4 x14 x15 x16 x17 x18 bt216.1 false x209000 x209001 x210000 x210001 x210002 x210003 x210004 x210005 x212000 x212001 ((rd_T70 x4 (wrap64 (x18 - x2))).f0) ((rd_T70 x4 (wrap64 (x18 - x2))).f1))) else (best_next.j3 k x1 x2 x3 x4 x14 x15 x16 x17 x18 bt216.1 true x209000 x209001 x210000 x210001 x210002 x210003 x210004 x210005 x212000 x212001 ((rd_T70 x4 (wrap64 (x18 - x2))).f0) ((rd_T70 x4 (wrap64 (x18 - x2))).f1))) else (none)) else (none)))
def best_next.j3 : Nat → Int → Int → Int → List (S70) → Int → Int → Int → Int → Int → Int → Bool → List (S66) → List Int → Int → Int → Int → Int → Int → Nat → Int → Int → Int → Int → Option (Int × Int)
 | 0, _, _, _, _, _, _, _, _, _, _, _, _, _, _, _, _, _, _, _, _, _, _, _ => none
 | k + 1, x1, x2, x3, x4, x14, x15, x16, x17, x18, x20, x86, x209000, x209001, x210000, x210001, x210002, x210003, x210004, x210005, x212000, x212001, x220000, x220001 => if x86 = true then (best_next.l0 k x1 x2 x3 x4 x14 x15 x16 x17 (wrap64 (x18 + 1)) x209000 x209001 x210000 x210001 x210002 x210003 x210004 x210005 x212000 x212001) else (if x20 = 3 then ((best_price.f k x209000 x209001 x1 x20 (wrap64 (x15 + 1)) x17 (x18 == x3) x210000 x210001 x210002 x210003 x210004 x210005).bind fun bt220 => (if bt220.2 = true then (if x212001 < 0 then (best_next.l0 k x1 x2 x3 x4 x14 x15 x16 x17 (wrap64 (x18 + 1)) x209000 x209001 x210000 x210001 x210002 x210003 x210004 x210005 (wrap64 (bt220.1 + x220000)) x18) else (if (wrap64 (bt220.1 + x220000)) < x212000 then (best_next.l0 k x1 x2 x3 x4 x14 x15 x16 x17 (wrap64 (x18 + 1)) x209000 x209001 x210000 x210001 x210002 x210003 x210004 x210005 (wrap64 (bt220.1 + x220000)) x18) else (best_next.l0 k x1 x2 x3 x4 x14 x15 x16 x17 (wrap64 (x18 + 1)) x209000 x209001 x210000 x210001 x210002 x210003 x210004 x210005 x212000 x212001))) else (best_next.l0 k x1 x2 x3 x4 x14 x15 x16 x17 (wrap64 (x18 + 1)) x209000 x209001 x210000 x210001 x210002 x210003 x210004 x210005 x212000 x212001))) else ((best_price.f k x209000 x209001 x1 x20 x15 x17 (x18 == x3) x210000 x210001 x210002 x210003 x210004 x210005).bind fun bt222 => (if bt222.2 = true then (if x212001 < 0 then (best_next.l0 k x1 x2 x3 x4 x14 x15 x16 x17 (wrap64 (x18 + 1)) x209000 x209001 x210000 x210001 x210002 x210003 x210004 x210005 (wrap64 (bt222.1 + x220000)) x18) else (if (wrap64 (bt222.1 + x220000)) < x212000 then (best_next.l0 k x1 x2 x3 x4 x14 x15 x16 x17 (wrap64 (x18 + 1)) x209000 x209001 x210000 x210001 x210002 x210003 x210004 x210005 (wrap64 (bt222.1 + x220000)) x18) else (best_next.l0 k x1 x2 x3 x4 x14 x15 x16 x17 (wrap64 (x18 + 1)) x209000 x209001 x210000 x210001 x210002 x210003 x210004 x210005 x212000 x212001))) else (best_next.l0 k x1 x2 x3 x4 x14 x15 x16 x17 (wrap64 (x18 + 1)) x209000 x209001 x210000 x210001 x210002 x210003 x210004 x210005 x212000 x212001))))
end
def best_next.f (k : Nat) (l0_0 : List (S66)) (l0_1 : List Int) (a1 : Int) (a2 : Int) (a3 : Int) (l4 : List (S70)) (a5_0 : Int) (a5_1 : Int) (a5_2 : Int) (a5_3 : Int) (a5_4 : Int) (a5_5 : Nat) : Option (Int × Int) := best_next.l0 k a1 a2 a3 l4 0 0 0 0 (wrap64 (a1 + 1)) l0_0 l0_1 a5_0 a5_1 a5_2 a5_3 a5_4 a5_5 0 (-1)
theorem best_next.mono_l : ∀ k, (∀ y0 y1 y2 y3 y4 y5 y6 y7 y8 y9 y10 y11 y12 y13 y14 y15 y16 y17 y18, LeO (best_next.l0 k y0 y1 y2 y3 y4 y5 y6 y7 y8 y9 y10 y11 y12 y13 y14 y15 y16 y17 y18) (best_next.l0 (k + 1) y0 y1 y2 y3 y4 y5 y6 y7 y8 y9 y10 y11 y12 y13 y14 y15 y16 y17 y18)) ∧ (∀ y0 y1 y2 y3 y4 y5 y6 y7 y8 y9 y10 y11 y12 y13 y14 y15 y16 y17 y18, LeO (best_next.j1 k y0 y1 y2 y3 y4 y5 y6 y7 y8 y9 y10 y11 y12 y13 y14 y15 y16 y17 y18) (best_next.j1 (k + 1) y0 y1 y2 y3 y4 y5 y6 y7 y8 y9 y10 y11 y12 y13 y14 y15 y16 y17 y18)) ∧ (∀ y0 y1 y2 y3 y4 y5 y6 y7 y8 y9 y10 y11 y12 y13 y14 y15 y16 y17 y18, LeO (best_next.j2 k y0 y1 y2 y3 y4 y5 y6 y7 y8 y9 y10 y11 y12 y13 y14 y15 y16 y17 y18) (best_next.j2 (k + 1) y0 y1 y2 y3 y4 y5 y6 y7 y8 y9 y10 y11 y12 y13 y14 y15 y16 y17 y18)) ∧ (∀ y0 y1 y2 y3 y4 y5 y6 y7 y8 y9 y10 y11 y12 y13 y14 y15 y16 y17 y18 y19 y20 y21 y22, LeO (best_next.j3 k y0 y1 y2 y3 y4 y5 y6 y7 y8 y9 y10 y11 y12 y13 y14 y15 y16 y17 y18 y19 y20 y21 y22) (best_next.j3 (k + 1) y0 y1 y2 y3 y4 y5 y6 y7 y8 y9 y10 y11 y12 y13 y14 y15 y16 y17 y18 y19 y20 y21 y22))
 | 0 => ⟨fun _ _ _ _ _ _ _ _ _ _ _ _ _ _ _ _ _ _ _ r h => by simp [best_next.l0] at h, fun _ _ _ _ _ _ _ _ _ _ _ _ _ _ _ _ _ _ _ r h => by simp [best_next.j1] at h, fun _ _ _ _ _ _ _ _ _ _ _ _ _ _ _ _ _ _ _ r h => by simp [best_next.j2] at h, fun _ _ _ _ _ _ _ _ _ _ _ _ _ _ _ _ _ _ _ _ _ _ _ r h => by simp [best_next.j3] at h⟩
 | k + 1 => by
  obtain ⟨ih0, ih1, ih2, ih3⟩ := best_next.mono_l k; refine ⟨?_, ?_, ?_, ?_⟩
  ·intro y0 y1 y2 y3 y4 y5 y6 y7 y8 y9 y10 y11 y12 y13 y14 y15 y16 y17 y18
   unfold best_next.l0
   repeat' (with_reducible first | exact ih0 _ _ _ _ _ _ _ _ _ _ _ _ _ _ _ _ _ _ _ | exact ih1 _ _ _ _ _ _ _ _ _ _ _ _ _ _ _ _ _ _ _ | exact ih2 _ _ _ _ _ _ _ _ _ _ _ _ _ _ _ _ _ _ _ | exact ih3 _ _ _ _ _ _ _ _ _ _ _ _ _ _ _ _ _ _ _ _ _ _ _ | exact best_price.mono _ _ _ _ _ _ _ _ _ _ _ _ _ _ | exact span_Trim.mono _ _ _ _ _ | exact LeO.refl _ | exact LeO.none _ | refine LeO.ite ?_ ?_ | refine LeO.bind ?_ (fun _ => ?_))
  ·intro y0 y1 y2 y3 y4 y5 y6 y7 y8 y9 y10 y11 y12 y13 y14 y15 y16 y17 y18
   unfold best_next.j1
   repeat' (with_reducible first | exact ih0 _ _ _ _ _ _ _ _ _ _ _ _ _ _ _ _ _ _ _ | exact ih1 _ _ _ _ _ _ _ _ _ _ _ _ _ _ _ _ _ _ _ | exact ih2 _ _ _ _ _ _ _ _ _ _ _ _ _ _ _ _ _ _ _ | exact ih3 _ _ _ _ _ _ _ _ _ _ _ _ _ _ _ _ _ _ _ _ _ _ _ | exact best_price.mono _ _ _ _ _ _ _ _ _ _ _ _ _ _ | exact span_Trim.mono _ _ _ _ _ | exact LeO.refl _ | exact LeO.none _ | refine LeO.ite ?_ ?_ | refine LeO.bind ?_ (fun _ => ?_))
  ·intro y0 y1 y2 y3 y4 y5 y6 y7 y8 y9 y10 y11 y12 y13 y14 y15 y16 y17 y18
   unfold best_next.j2
   repeat' (with_reducible first | exact ih0 _ _ _ _ _ _ _ _ _ _ _ _ _ _ _ _ _ _ _ | exact ih1 _ _ _ _ _ _ _ _ _ _ _ _ _ _ _ _ _ _ _ | exact ih2 _ _ _ _ _ _ _ _ _ _ _ _ _ _ _ _ _ _ _ | exact ih3 _ _ _ _ _ _ _ _ _ _ _ _ _ _ _ _ _ _ _ _ _ _ _ | exact best_price.mono _ _ _ _ _ _ _ _ _ _ _ _ _ _ | exact span_Trim.mono _ _ _ _ _ | exact LeO.refl _ | exact LeO.none _ | refine LeO.ite ?_ ?_ | refine LeO.bind ?_ (fun _ => ?_))
  ·intro y0 y1 y2 y3 y4 y5 y6 y7 y8 y9 y10 y11 y12 y13 y14 y15 y16 y17 y18 y19 y20 y21 y22
   unfold best_next.j3
   repeat' (with_reducible first | exact ih0 _ _ _ _ _ _ _ _ _ _ _ _ _ _ _ _ _ _ _ | exact ih1 _ _ _ _ _ _ _ _ _ _ _ _ _ _ _ _ _ _ _ | exact ih2 _ _ _ _ _ _ _ _ _ _ _ _ _ _ _ _ _ _ _ | exact ih3 _ _ _ _ _ _ _ _ _ _ _ _ _ _ _ _ _ _ _ _ _ _ _ | exact best_price.mono _ _ _ _ _ _ _ _ _ _ _ _ _ _ | exact span_Trim.mono _ _ _ _ _ | exact LeO.refl _ | exact LeO.none _ | refine LeO.ite ?_ ?_ | refine LeO.bind ?_ (fun _ => ?_))
theorem best_next.mono : ∀ a0 a1 a2 a3 a4 a5 a6 a7 a8 a9 a10 a11 k, LeO (best_next.f k a0 a1 a2 a3 a4 a5 a6 a7 a8 a9 a10 a11) (best_next.f (k + 1) a0 a1 a2 a3 a4 a5 a6 a7 a8 a9 a10 a11) := by
 intro a0 a1 a2 a3 a4 a5 a6 a7 a8 a9 a10 a11 k
 obtain ⟨ih0, ih1, ih2, ih3⟩ := best_next.mono_l k; unfold best_next.f
 repeat' (with_reducible first | exact ih0 _ _ _ _ _ _ _ _ _ _ _ _ _ _ _ _ _ _ _ | exact ih1 _ _ _ _ _ _ _ _ _ _ _ _ _ _ _ _ _ _ _ | exact ih2 _ _ _ _ _ _ _ _ _ _ _ _ _ _ _ _ _ _ _ | exact ih3 _ _ _ _ _ _ _ _ _ _ _ _ _ _ _ _ _ _ _ _ _ _ _ | exact best_price.mono _ _ _ _ _ _ _ _ _ _ _ _ _ _ | exact span_Trim.mono _ _ _ _ _ | exact LeO.refl _ | exact LeO.none _ | refine LeO.ite ?_ ?_ | refine LeO.bind ?_ (fun _ => ?_))
set_option maxHeartbeats 8000000 in
set_option maxRecDepth 100000 in
theorem best_next.calls (k : Nat) (A0_0 : Option Addr) (c0_0 : Nat) (l0_0 : List (S66)) (A0_1 : Option Addr) (c0_1 : Nat) (l0_1 : List Int) (a1 : Int) (a2 : Int) (a3 : Int) (A4 : Option Addr) (c4 : Nat) (l4 : List (S70)) (a5_0 : Int) (a5_1 : Int) (a5_2 : Int) (a5_3 : Int) (a5_4 : Int) (a5_5 : Nat) (r1 : Int) (r2 : Int) (w : World) (hr0_0 : Kd.C k66 w A0_0 l0_0.length l0_0) (hc0_0 : l0_0.length ≤ c0_0) (hr0_1 : Kd.C (Kd.int .u8) w A0_1 l0_1.length l0_1) (hc0_1 : l0_1.length ≤ c0_1) (hr4 : Kd.C k70 w A4 l4.length l4) (hc4 : l4.length ≤ c4) (h : best_next.f k l0_0 l0_1 a1 a2 a3 l4 a5_0 a5_1 a5_2 a5_3 a5_4 a5_5 = some (r1, r2)) :
  Calls Try.prog 29 #[.agg #[.slice A0_0 l0_0.length c0_0, .slice A0_1 l0_1.length c0_1], .int .i64 a1, .int .i64 a2, .int .i64 a3, .slice A4 l4.length c4, .agg #[.int .i64 a5_0, .int .i64 a5_1, .int .u8 a5_2, .int .i64 a5_3, .int .i64 a5_4, .float .f64 a5_5]] w fun e w' => e = .returned (.agg #[.int .i64 r1, .int .i64 r2]) ∧ Below w.heap.size w w' := by
 have hu31 := Try.underlying31; have hu35 := Try.underlying35; have hu70 := Try.underlying70; have hu66 := Try.underlying66; have HR0_0 := zA.mk hr0_0; have HC0_0 := zA.mk hc0_0; clear hr0_0 hc0_0; have HR0_1 := zA.mk hr0_1; have HC0_1 := zA.mk hc0_1; clear hr0_1 hc0_1; have HR4 := zA.mk hr4; have HC4 := zA.mk hc4; clear hr4 hc4; have HB := zA.mk (Below.refl w.heap.size w); have H : (best_next.l0 k a1 a2 a3 l4 0 0 0 0 (wrap64 (a1 + 1)) l0_0 l0_1 a5_0 a5_1 a5_2 a5_3 a5_4 a5_5 0 (-1)) = some (r1, r2) := h
 clear h; have H' := zA.mk H
 clear H; go_enter Try.func29, Try.ntmps29
 go_wp2_with (first | ((with_reducible refine gate_dst (N := 6) rfl ?_); refine box_event ?hg (N := 6) ?hd (cs := #[.slice A0_0 l0_0.length c0_0, .slice A0_1 l0_1.length c0_1]) (t := 31) ?hr ?_; (case hd => rfl); (case hg => rfl); (case hr => first | (go_simp; done) | (go_simp; rfl)); intro gb208 hg w7 hbox hb; have BK208 := zA.mk (hbox); have GW208 := zA.mk ((by rw [hg]; exact (zH (aL HB)) : w.heap.size ≤ gb208)); replace HB := zA.mk (zD (aL HB) hb); have GE208 := GW208; clear hb hbox hg) | ((with_reducible refine gate_dst (N := 11) rfl ?_); refine box_event ?hg (N := 11) ?hd (cs := #[.int .i64 a5_0, .int .i64 a5_1, .int .u8 a5_2, .int .i64 a5_3, .int .i64 a5_4, .float .f64 a5_5]) (t := 35) ?hr ?_; (case hd => rfl); (case hg => rfl); (case hr => first | (go_simp; done) | (go_simp; rfl)); intro gb209 hg w8 hbox hb; have BK209 := zA.mk (hbox); have GW209 := zA.mk ((by rw [hg]; exact (zH (aL HB)) : w.heap.size ≤ gb209)); replace HB := zA.mk (zD (aL HB) hb); have GE209 := GW209; have NB208_209 := zA.mk ((by rw [hg]; exact Nat.ne_of_lt (blk_lt (aB BK208)) : gb208 ≠ gb209)); have NB209_208 := zA.mk ((by rw [hg]; exact Nat.ne_of_gt (blk_lt (g := gb208) (o := .cells #[.slice A0_0 l0_0.length c0_0, .slice A0_1 l0_1.length c0_1] 31 (0, 0)) (aB BK208)) : gb209 ≠ gb208)); replace BK208 := zA.mk (zC (aB BK208) hb); clear hb hbox hg) | ((with_reducible refine gate_dst (N := 12) rfl ?_); refine box_event ?hg (N := 12) ?hd (cs := #[.int .i64 0, .int .i64 0]) (t := 70) ?hr ?_; (case hd => rfl); (case hg => rfl); (case hr => first | (go_simp; done) | (go_simp; rfl)); intro gb210 hg w9 hbox hb; have BK210 := zA.mk (hbox); have GW210 := zA.mk ((by rw [hg]; exact (zH (aL HB)) : w.heap.size ≤ gb210)); replace HB := zA.mk (zD (aL HB) hb); have GE210 := GW210; have NB208_210 := zA.mk ((by rw [hg]; exact Nat.ne_of_lt (blk_lt (aB BK208)) : gb208 ≠ gb210)); have NB210_208 := zA.mk ((by rw [hg]; exact Nat.ne_of_gt (blk_lt (g := gb208) (o := .cells #[.slice A0_0 l0_0.length c0_0, .slice A0_1 l0_1.length c0_1] 31 (0, 0)) (aB BK208)) : gb210 ≠ gb208)); replace BK208 := zA.mk (zC (aB BK208) hb); have NB209_210 := zA.mk ((by rw [hg]; exact Nat.ne_of_lt (blk_lt (aB BK209)) : gb209 ≠ gb210)); have NB210_209 := zA.mk ((by rw [hg]; exact Nat.ne_of_gt (blk_lt (g := gb209) (o := .cells #[.int .i64 a5_0, .int .i64 a5_1, .int .u8 a5_2, .int .i64 a5_3, .int .i64 a5_4, .float .f64 a5_5] 35 (0, 0)) (aB BK209)) : gb210 ≠ gb209)); replace BK209 := zA.mk (zC (aB BK209) hb); clear hb hbox hg) | ((with_reducible refine gate_dst (N := 13) rfl ?_); refine box_event ?hg (N := 13) ?hd (cs := #[.int .i64 0, .int .i64 0]) (t := 70) ?hr ?_; (case hd => rfl); (case hg => rfl); (case hr => first | (go_simp; done) | (go_simp; rfl)); intro gb211 hg w10 hbox hb; have BK211 := zA.mk (hbox); have GW211 := zA.mk ((by rw [hg]; exact (zH (aL HB)) : w.heap.size ≤ gb211)); replace HB := zA.mk (zD (aL HB) hb); have GE211 := GW211; have NB208_211 := zA.mk ((by rw [hg]; exact Nat.ne_of_lt (blk_lt (aB BK208)) : gb208 ≠ gb211)); have NB211_208 := zA.mk ((by rw [hg]; exact Nat.ne_of_gt (blk_lt (g := gb208) (o := .cells #[.slice A0_0 l0_0.length c0_0, .slice A0_1 l0_1.length c0_1] 31 (0, 0)) (aB BK208)) : gb211 ≠ gb208)); replace BK208 := zA.mk (zC (aB BK208) hb); have NB209_211 := zA.mk ((by rw [hg]; exact Nat.ne_of_lt (blk_lt (aB BK209)) : gb209 ≠ gb211)); have NB211_209 := zA.mk ((by rw [hg]; exact Nat.ne_of_gt (blk_lt (g := gb209) (o := .cells #[.int .i64 a5_0, .int .i64 a5_1, .int .u8 a5_2, .int .i64 a5_3, .int .i64 a5_4, .float .f64 a5_5] 35 (0, 0)) (aB BK209)) : gb211 ≠ gb209)); replace BK209 := zA.mk (zC (aB BK209) hb); have NB210_211 := zA.mk ((by rw [hg]; exact Nat.ne_of_lt (blk_lt (aB BK210)) : gb210 ≠ gb211)); have NB211_210 := zA.mk ((by rw [hg]; exact Nat.ne_of_gt (blk_lt (g := gb210) (o := .cells #[.int .i64 0, .int .i64 0] 70 (0, 0)) (aB BK210)) : gb211 ≠ gb210)); replace BK210 := zA.mk (zC (aB BK210) hb); clear hb hbox hg; have hnb11 := NB211_208.out; have hnc11 := NB208_211.out; have hnb12 := NB211_209.out; have hnc12 := NB209_211.out; have hnb13 := NB211_210.out; have hnc13 := NB210_211.out; obtain ⟨hcz14_0, hcz14_1, hfz14_0, hfz14_1⟩ := aC2 BK211) | ((with_reducible refine gate_store (t := 70) (p := 13) rfl ?_); refine store_event (t := 70) (p := 13) (v := ?vo_w15) (w1 := ((w10.setCell ⟨gb211, 0, none⟩ (.int .i64 0)).setCell ⟨gb211, 1, none⟩ (.int .i64 (-1)))) ?hg ?ho ?hn ?hr ?_; (case ho => rfl); (case hg => rfl); (case hn => rfl); (case hr => first | (go_simp; done) | (go_simp; rfl)); intro w15 hw; have n0_ : zA (w15.heap[gb208]? = some (.cells #[.slice A0_0 l0_0.length c0_0, .slice A0_1 l0_1.length c0_1] 31 (0, 0))) := ⟨(by rw [hw]; exact (aB BK208))⟩; have n1_ : zA (w15.heap[gb209]? = some (.cells #[.int .i64 a5_0, .int .i64 a5_1, .int .u8 a5_2, .int .i64 a5_3, .int .i64 a5_4, .float .f64 a5_5] 35 (0, 0))) := ⟨(by rw [hw]; exact (aB BK209))⟩; have n2_ : zA (w15.heap[gb210]? = some (.cells #[.int .i64 0, .int .i64 0] 70 (0, 0))) := ⟨(by rw [hw]; exact (aB BK210))⟩; have n3_ : zA (w15.heap[gb211]? = some (.cells #[.int .i64 0, .int .i64 (-1)] 70 (0, 0))) := ⟨(by rw [hw]; exact (by (with_reducible repeat (first | refine zI ?_ _ | refine zF ?_ | refine zE ?_ _)); refine blk_put (cs := #[.int .i64 0, .int .i64 0]) ?_ 1 _ rfl; (with_reducible repeat (first | refine zI ?_ _ | refine zF ?_ | refine zE ?_ _)); refine blk_put (cs := #[.int .i64 0, .int .i64 0]) ?_ 0 _ rfl; (with_reducible repeat (first | refine zI ?_ _ | refine zF ?_ | refine zE ?_ _)); exact BK211.out))⟩; have n4_ : zA (Below w.heap.size w w15) := ⟨(by rw [hw]; exact (aL HB))⟩; clear hw; clear BK208; clear BK209; clear BK210; clear BK211; clear HB; have BK208 := n0_; have BK209 := n1_; have BK210 := n2_; have BK211 := n3_; have HB := n4_; clear n0_ n1_ n2_ n3_ n4_))
 go_loopg [14, 15, 16, 17, 18] k (fun kq v14 v15 v16 v17 v18 w' => ∃ (x14_1 : Int) (x15_1 : Int) (x16_1 : Int) (x17_1 : Int) (x18_1 : Int) (x212000_1 : Int) (x212001_1 : Int), v14 = .int .i64 x14_1 ∧ v15 = .int .i64 x15_1 ∧ v16 = .int .i64 x16_1 ∧ v17 = .int .i64 x17_1 ∧ v18 = .int .i64 x18_1 ∧ zA (best_next.l0 kq a1 a2 a3 l4 x14_1 x15_1 x16_1 x17_1 x18_1 l0_0 l0_1 a5_0 a5_1 a5_2 a5_3 a5_4 a5_5 x212000_1 x212001_1 = some (r1, r2)) ∧ zA (kq ≤ k) ∧ zA (w'.heap[gb208]? = some (.cells #[(.slice A0_0 l0_0.length c0_0), (.slice A0_1 l0_1.length c0_1)] 31 (0, 0))) ∧ zA (w'.heap[gb209]? = some (.cells #[.int .i64 a5_0, .int .i64 a5_1, .int .u8 a5_2, .int .i64 a5_3, .int .i64 a5_4, .float .f64 a5_5] 35 (0, 0))) ∧ zA (w'.heap[gb210]? = some (.cells #[.int .i64 0, .int .i64 0] 70 (0, 0))) ∧ zA (w'.heap[gb211]? = some (.cells #[.int .i64 x212000_1, .int .i64 x212001_1] 70 (0, 0))) ∧ zA (Below w.heap.size w w'))
 case atStart => exact ⟨(0), (0), (0), (0), (wrap64 (a1 + 1)), (0), ((-1)), aZ, aZ, aZ, aZ, aZ, H', ⟨Nat.le_refl _⟩, ⟨aB BK208⟩, ⟨aB BK209⟩, ⟨aB BK210⟩, ⟨aB BK211⟩, ⟨aL HB⟩⟩
 clear H'; obtain ⟨x14_1, x15_1, x16_1, x17_1, x18_1, x212000_1, x212001_1, rfl, rfl, rfl, rfl, rfl, HA, HK1, BK208, BK209, BK210, BK211, HB⟩ := hrel; cases gk with
 | zero => exact absurd HA.out (by simp [best_next.l0])
 | succ k1 =>
  have H := HA.out; clear HA; simp only [best_next.l0] at H; by_cases c16 : x18_1 ≤ a3
  rotate_left
  ·rw [if_neg c16] at H
   have c16b0 : decide (x18_1 ≤ a3) = false := decide_eq_false c16
   clear c16; simp only [Option.some.injEq, Prod.mk.injEq] at H; obtain ⟨rfl, rfl⟩ := H; have hnb246 := NB211_208.out; have hnc246 := NB208_211.out; have hnb247 := NB211_209.out; have hnc247 := NB209_211.out; have hnb248 := NB211_210.out; have hnc248 := NB210_211.out; obtain ⟨hcz249_0, hcz249_1, hfz249_0, hfz249_1⟩ := aC2 BK211; have hnb250 := NB210_208.out; have hnc250 := NB208_210.out; have hnb251 := NB210_209.out; have hnc251 := NB209_210.out; obtain ⟨hcz252_0, hcz252_1, hfz252_0, hfz252_1⟩ := aC2 BK210; go_wp2_with (first | ((with_reducible refine gate_store (t := 70) (p := 12) rfl ?_); refine store_event (t := 70) (p := 12) (v := ?vo_w253) (w1 := ((wr.setCell ⟨gb210, 0, none⟩ (.int .i64 x212000_1)).setCell ⟨gb210, 1, none⟩ (.int .i64 x212001_1))) ?hg ?ho ?hn ?hr ?_; (case ho => rfl); (case hg => rfl); (case hn => rfl); (case hr => first | (go_simp; done) | (go_simp; rfl)); intro w253 hw; have n0_ : zA (w253.heap[gb208]? = some (.cells #[.slice A0_0 l0_0.length c0_0, .slice A0_1 l0_1.length c0_1] 31 (0, 0))) := ⟨(by rw [hw]; exact (aB BK208))⟩; have n1_ : zA (w253.heap[gb209]? = some (.cells #[.int .i64 a5_0, .int .i64 a5_1, .int .u8 a5_2, .int .i64 a5_3, .int .i64 a5_4, .float .f64 a5_5] 35 (0, 0))) := ⟨(by rw [hw]; exact (aB BK209))⟩; have n2_ : zA (w253.heap[gb210]? = some (.cells #[.int .i64 x212000_1, .int .i64 x212001_1] 70 (0, 0))) := ⟨(by rw [hw]; exact (by (with_reducible repeat (first | refine zI ?_ _ | refine zF ?_ | refine zE ?_ _)); refine blk_put (cs := #[.int .i64 x212000_1, .int .i64 0]) ?_ 1 _ rfl; (with_reducible repeat (first | refine zI ?_ _ | refine zF ?_ | refine zE ?_ _)); refine blk_put (cs := #[.int .i64 0, .int .i64 0]) ?_ 0 _ rfl; (with_reducible repeat (first | refine zI ?_ _ | refine zF ?_ | refine zE ?_ _)); exact BK210.out))⟩; have n3_ : zA (w253.heap[gb211]? = some (.cells #[.int .i64 x212000_1, .int .i64 x212001_1] 70 (0, 0))) := ⟨(by rw [hw]; exact (aB BK211))⟩; have n4_ : zA (Below w.heap.size w w253) := ⟨(by rw [hw]; exact (aL HB))⟩; clear hw; clear BK208; clear BK209; clear BK210; clear BK211; clear HB; have BK208 := n0_; have BK209 := n1_; have BK210 := n2_; have BK211 := n3_; have HB := n4_; clear n0_ n1_ n2_ n3_ n4_))
   refine bodyPost_ret (results_cell_row rfl _ _ gb210 70 #[.int .i64 x212000_1, .int .i64 x212001_1] (0, 0) _ rfl (aB BK210) Try.underlying70 rfl (by kernel_rfl)) rfl ?_
   exact ⟨aX, aL HB⟩
  rw [if_pos c16] at H; have c16b0 : decide (x18_1 ≤ a3) = true := decide_eq_true c16
  clear c16; obtain ⟨ji17, hji17⟩ : ∃ j_ : Int, (wrap64 (x18_1 - 1)) = j_ := ⟨_, rfl⟩; replace H : (if 0 ≤ (ji17) then (if (ji17) < (l0_0.length : Int) then ((span_Next.f ((rd_T66 l0_0 (ji17)).f0) ((rd_T66 l0_0 (ji17)).f1) ((rd_T66 l0_0 (ji17)).f2) ((rd_T66 l0_0 (ji17)).f3) x14_1 a5_1).bind fun t214 => (if ((rd_T66 l0_0 (ji17)).f3) = 1 then (best_next.j1 k1 a1 a2 a3 l4 t214 x15_1 (wrap64 (x16_1 + 1)) x17_1 x18_1 l0_0 l0_1 a5_0 a5_1 a5_2 a5_3 a5_4 a5_5 x212000_1 x212001_1) else (best_next.j1 k1 a1 a2 a3 l4 t214 x15_1 x16_1 x17_1 x18_1 l0_0 l0_1 a5_0 a5_1 a5_2 a5_3 a5_4 a5_5 x212000_1 x212001_1))) else (none)) else (none)) = some (r1, r2) := by first | (rw [hji17] at H; exact H) | (simp only [hji17] at H ⊢; exact H)
  have hji17w : (IntKind.i64.wrap (x18_1 - 1)) = ji17 := (i64_w _).trans hji17
  by_cases c18 : 0 ≤ (ji17)
  rotate_left
  ·rw [if_neg c18] at H
   exact absurd H (by simp)
  rw [if_pos c18] at H; have c18b0 : decide (0 ≤ (ji17)) = true := decide_eq_true c18
  clear c18; by_cases c19 : (ji17) < (l0_0.length : Int)
  rotate_left
  ·rw [if_neg c19] at H
   exact absurd H (by simp)
  rw [if_pos c19] at H; have c19b0 : decide ((ji17) < (l0_0.length : Int)) = true := decide_eq_true c19
  clear c19; replace H := Option.bind_eq_some_iff.mp H; obtain ⟨t214, A200, H⟩ := H; replace H : (if ((rd_T66 l0_0 (ji17)).f3) = 1 then (best_next.j1 k1 a1 a2 a3 l4 t214 x15_1 (wrap64 (x16_1 + 1)) x17_1 x18_1 l0_0 l0_1 a5_0 a5_1 a5_2 a5_3 a5_4 a5_5 x212000_1 x212001_1) else (best_next.j1 k1 a1 a2 a3 l4 t214 x15_1 x16_1 x17_1 x18_1 l0_0 l0_1 a5_0 a5_1 a5_2 a5_3 a5_4 a5_5 x212000_1 x212001_1)) = some (r1, r2) := H; have A20 := zA.mk A200; clear A200; have HC21 := zA.mk H; clear H; have hnb22 := NB208_209.out; have hnc22 := NB209_208.out; have hnb23 := NB208_210.out; have hnc23 := NB210_208.out; have hnb24 := NB208_211.out; have hnc24 := NB211_208.out; obtain ⟨hcz25_0, hcz25_1, hfz25_0, hfz25_1⟩ := aC2 BK208; have p212 : 0 ≤ ((ji17) : Int) := aD
  have q212 : (ji17) < (l0_0.length : Int) := aD
  obtain ⟨ad212, e212, hx212_0, hx212_1, hx212_2, hx212_3⟩ := at_T66 HR0_0.out (ji17) p212 q212; cases e212
  replace hx212_0 := (HB.out.cell (World.block_lt_of_cell? w _ hx212_0)).trans hx212_0; replace hx212_1 := (HB.out.cell (World.block_lt_of_cell? w _ hx212_1)).trans hx212_1; replace hx212_2 := (HB.out.cell (World.block_lt_of_cell? w _ hx212_2)).trans hx212_2; replace hx212_3 := (HB.out.cell (World.block_lt_of_cell? w _ hx212_3)).trans hx212_3; replace p212 := eq_true p212; replace q212 := eq_true q212; go_upto_if 47 with (first | ((with_reducible refine gate_dst (N := 19) rfl ?_); refine box_event ?hg (N := 19) ?hd (cs := #[.int .i64 0, .int .i64 0, .int .i64 0, .int .u8 0]) (t := 66) ?hr ?_; (case hd => rfl); (case hg => rfl); (case hr => first | (go_simp; done) | (go_simp; rfl)); intro gb213 hg w26 hbox hb; have BK213 := zA.mk (hbox); have GW213 := zA.mk ((by rw [hg]; exact (zH (aL HB)) : w.heap.size ≤ gb213)); replace HB := zA.mk (zD (aL HB) hb); have GE213 := GW213; have NB208_213 := zA.mk ((by rw [hg]; exact Nat.ne_of_lt (blk_lt (aB BK208)) : gb208 ≠ gb213)); have NB213_208 := zA.mk ((by rw [hg]; exact Nat.ne_of_gt (blk_lt (g := gb208) (o := .cells #[.slice (some ad212) l0_0.length c0_0, .slice A0_1 l0_1.length c0_1] 31 (0, 0)) (aB BK208)) : gb213 ≠ gb208)); replace BK208 := zA.mk (zC (aB BK208) hb); have NB209_213 := zA.mk ((by rw [hg]; exact Nat.ne_of_lt (blk_lt (aB BK209)) : gb209 ≠ gb213)); have NB213_209 := zA.mk ((by rw [hg]; exact Nat.ne_of_gt (blk_lt (g := gb209) (o := .cells #[.int .i64 a5_0, .int .i64 a5_1, .int .u8 a5_2, .int .i64 a5_3, .int .i64 a5_4, .float .f64 a5_5] 35 (0, 0)) (aB BK209)) : gb213 ≠ gb209)); replace BK209 := zA.mk (zC (aB BK209) hb); have NB210_213 := zA.mk ((by rw [hg]; exact Nat.ne_of_lt (blk_lt (aB BK210)) : gb210 ≠ gb213)); have NB213_210 := zA.mk ((by rw [hg]; exact Nat.ne_of_gt (blk_lt (g := gb210) (o := .cells #[.int .i64 0, .int .i64 0] 70 (0, 0)) (aB BK210)) : gb213 ≠ gb210)); replace BK210 := zA.mk (zC (aB BK210) hb); have NB211_213 := zA.mk ((by rw [hg]; exact Nat.ne_of_lt (blk_lt (aB BK211)) : gb211 ≠ gb213)); have NB213_211 := zA.mk ((by rw [hg]; exact Nat.ne_of_gt (blk_lt (g := gb211) (o := .cells #[.int .i64 x212000_1, .int .i64 x212001_1] 70 (0, 0)) (aB BK211)) : gb213 ≠ gb211)); replace BK211 := zA.mk (zC (aB BK211) hb); clear hb hbox hg; have hnb27 := NB213_208.out; have hnc27 := NB208_213.out; have hnb28 := NB213_209.out; have hnc28 := NB209_213.out; have hnb29 := NB213_210.out; have hnc29 := NB210_213.out; have hnb30 := NB213_211.out; have hnc30 := NB211_213.out; obtain ⟨hcz31_0, hcz31_1, hcz31_2, hcz31_3, hfz31_0, hfz31_1, hfz31_2, hfz31_3⟩ := aC4 BK213) | ((with_reducible refine gate_store (t := 66) (p := 19) rfl ?_); refine store_event (t := 66) (p := 19) (v := ?vo_w32) (w1 := ((((w26.setCell ⟨gb213, 0, none⟩ (.int .i64 ((rd_T66 l0_0 (ji17)).f0))).setCell ⟨gb213, 1, none⟩ (.int .i64 ((rd_T66 l0_0 (ji17)).f1))).setCell ⟨gb213, 2, none⟩ (.int .i64 ((rd_T66 l0_0 (ji17)).f2))).setCell ⟨gb213, 3, none⟩ (.int .u8 ((rd_T66 l0_0 (ji17)).f3)))) ?hg ?ho ?hn ?hr ?_; (case ho => rfl); (case hg => rfl); (case hn => rfl); (case hr => first | (go_simp; done) | (go_simp; rfl)); intro w32 hw; have n0_ : zA (w32.heap[gb208]? = some (.cells #[.slice (some ad212) l0_0.length c0_0, .slice A0_1 l0_1.length c0_1] 31 (0, 0))) := ⟨(by rw [hw]; exact (aB BK208))⟩; have n1_ : zA (w32.heap[gb209]? = some (.cells #[.int .i64 a5_0, .int .i64 a5_1, .int .u8 a5_2, .int .i64 a5_3, .int .i64 a5_4, .float .f64 a5_5] 35 (0, 0))) := ⟨(by rw [hw]; exact (aB BK209))⟩; have n2_ : zA (w32.heap[gb210]? = some (.cells #[.int .i64 0, .int .i64 0] 70 (0, 0))) := ⟨(by rw [hw]; exact (aB BK210))⟩; have n3_ : zA (w32.heap[gb211]? = some (.cells #[.int .i64 x212000_1, .int .i64 x212001_1] 70 (0, 0))) := ⟨(by rw [hw]; exact (aB BK211))⟩; have n4_ : zA (w32.heap[gb213]? = some (.cells #[.int .i64 ((rd_T66 l0_0 (ji17)).f0), .int .i64 ((rd_T66 l0_0 (ji17)).f1), .int .i64 ((rd_T66 l0_0 (ji17)).f2), .int .u8 ((rd_T66 l0_0 (ji17)).f3)] 66 (0, 0))) := ⟨(by rw [hw]; exact (by (with_reducible repeat (first | refine zI ?_ _ | refine zF ?_ | refine zE ?_ _)); refine blk_put (cs := #[.int .i64 ((rd_T66 l0_0 (ji17)).f0), .int .i64 ((rd_T66 l0_0 (ji17)).f1), .int .i64 ((rd_T66 l0_0 (ji17)).f2), .int .u8 0]) ?_ 3 _ rfl; (with_reducible repeat (first | refine zI ?_ _ | refine zF ?_ | refine zE ?_ _)); refine blk_put (cs := #[.int .i64 ((rd_T66 l0_0 (ji17)).f0), .int .i64 ((rd_T66 l0_0 (ji17)).f1), .int .i64 0, .int .u8 0]) ?_ 2 _ rfl; (with_reducible repeat (first | refine zI ?_ _ | refine zF ?_ | refine zE ?_ _)); refine blk_put (cs := #[.int .i64 ((rd_T66 l0_0 (ji17)).f0), .int .i64 0, .int .i64 0, .int .u8 0]) ?_ 1 _ rfl; (with_reducible repeat (first | refine zI ?_ _ | refine zF ?_ | refine zE ?_ _)); refine blk_put (cs := #[.int .i64 0, .int .i64 0, .int .i64 0, .int .u8 0]) ?_ 0 _ rfl; (with_reducible repeat (first | refine zI ?_ _ | refine zF ?_ | refine zE ?_ _)); exact BK213.out))⟩; have n5_ : zA (Below w.heap.size w w32) := ⟨(by rw [hw]; exact (aL HB))⟩; clear hw; clear BK208; clear BK209; clear BK210; clear BK211; clear BK213; clear HB; have BK208 := n0_; have BK209 := n1_; have BK210 := n2_; have BK211 := n3_; have BK213 := n4_; have HB := n5_; clear n0_ n1_ n2_ n3_ n4_ n5_; obtain ⟨hcz33_0, hcz33_1, hcz33_2, hcz33_3, hfz33_0, hfz33_1, hfz33_2, hfz33_3⟩ := aC4 BK213; have hnb34 := NB209_210.out; have hnc34 := NB210_209.out; have hnb35 := NB209_211.out; have hnc35 := NB211_209.out; obtain ⟨hcz36_0, hcz36_1, hcz36_2, hcz36_3, hcz36_4, hcz36_5, hfz36_0, hfz36_1, hfz36_2, hfz36_3, hfz36_4, hfz36_5⟩ := aC6 BK209) | ((with_reducible refine gate_callee (f := 38) rfl ?_); refine goesL_ (some 44) rfl rfl Try.func38 (by kernel_rfl) rfl #[.agg #[.int .i64 ((rd_T66 l0_0 (ji17)).f0), .int .i64 ((rd_T66 l0_0 (ji17)).f1), .int .i64 ((rd_T66 l0_0 (ji17)).f2), .int .u8 ((rd_T66 l0_0 (ji17)).f3)], .int .i64 x14_1, .int .i64 a5_1] rfl (by (try simp only [List.map_toArray, List.map_cons, List.map_nil]); first | done | (simp only [hji17]; rfl) | rfl | (simp only [List.length_drop, List.length_take]; rfl)) ?_; (with_reducible refine (span_Next.calls ((rd_T66 l0_0 (ji17)).f0) ((rd_T66 l0_0 (ji17)).f1) ((rd_T66 l0_0 (ji17)).f2) ((rd_T66 l0_0 (ji17)).f3) x14_1 a5_1 t214 _ A20.out).mono ?_); rintro e w37 ⟨rfl, hb⟩; refine ⟨_, rfl, ?_⟩; replace BK208 := zA.mk (zC (aB BK208) hb); replace BK209 := zA.mk (zC (aB BK209) hb); replace BK210 := zA.mk (zC (aB BK210) hb); replace BK211 := zA.mk (zC (aB BK211) hb); replace BK213 := zA.mk (zC (aB BK213) hb); replace HB := zA.mk (zD (aL HB) hb); (try clear hb); (try clear hb2); (try clear hk); (try clear hi); obtain ⟨hcz38_0, hcz38_1, hcz38_2, hcz38_3, hfz38_0, hfz38_1, hfz38_2, hfz38_3⟩ := aC4 BK213))
  (try simp only [Act.put, sA_, sB_, sC_])
  go_cut [16] (fun v16 wc => ∃ (kq : Nat) (x16_20 : Int), v16 = .int .i64 x16_20 ∧ zA (best_next.j1 kq a1 a2 a3 l4 t214 x15_1 x16_20 x17_1 x18_1 l0_0 l0_1 a5_0 a5_1 a5_2 a5_3 a5_4 a5_5 x212000_1 x212001_1 = some (r1, r2)) ∧ zA (kq ≤ k1) ∧ zA (wc.heap[gb208]? = some (.cells #[(.slice (some ad212) l0_0.length c0_0), (.slice A0_1 l0_1.length c0_1)] 31 (0, 0))) ∧ zA (wc.heap[gb209]? = some (.cells #[.int .i64 a5_0, .int .i64 a5_1, .int .u8 a5_2, .int .i64 a5_3, .int .i64 a5_4, .float .f64 a5_5] 35 (0, 0))) ∧ zA (wc.heap[gb210]? = some (.cells #[.int .i64 0, .int .i64 0] 70 (0, 0))) ∧ zA (wc.heap[gb211]? = some (.cells #[.int .i64 x212000_1, .int .i64 x212001_1] 70 (0, 0))) ∧ zA (wc.heap[gb213]? = some (.cells #[.int .i64 ((rd_T66 l0_0 (ji17)).f0), .int .i64 ((rd_T66 l0_0 (ji17)).f1), .int .i64 ((rd_T66 l0_0 (ji17)).f2), .int .u8 ((rd_T66 l0_0 (ji17)).f3)] 66 (0, 0))) ∧ zA (Below w.heap.size w wc))
  case first =>
   have H := HC21.out; clear HC21; by_cases c39 : ((rd_T66 l0_0 (ji17)).f3) = 1
   ·rw [if_pos c39] at H
    have c39b0 : (((rd_T66 l0_0 (ji17)).f3) == 1) = true := beq_iff_eq.mpr c39
    have c39b1 : (((rd_T66 l0_0 (ji17)).f3) != 1) = false := bne_eq_false_iff_eq.mpr c39
    clear c39; (first | rw [c39b0] | (simp only [i64_w, i32_w]; rw [c39b0]) | skip)
    have H' := zA.mk H
    clear H; go_wp2
    go_meet
    case rel => exact ⟨_, (wrap64 (x16_1 + 1)), aZ, H', ⟨by have := HK1.out; first | omega | exact Nat.le_refl _⟩, ⟨aB BK208⟩, ⟨aB BK209⟩, ⟨aB BK210⟩, ⟨aB BK211⟩, ⟨aB BK213⟩, ⟨aL HB⟩⟩
   rw [if_neg c39] at H; have c39b0 : (((rd_T66 l0_0 (ji17)).f3) == 1) = false := beq_eq_false_iff_ne.mpr c39
   have c39b1 : (((rd_T66 l0_0 (ji17)).f3) != 1) = true := bne_iff_ne.mpr c39
   (first | rw [c39b0] | (simp only [i64_w, i32_w]; rw [c39b0]) | skip)
   have H' := zA.mk H
   clear H; go_wp2
   go_meet
   case rel => exact ⟨_, (x16_1), aZ, H', ⟨by have := HK1.out; first | omega | exact Nat.le_refl _⟩, ⟨aB BK208⟩, ⟨aB BK209⟩, ⟨aB BK210⟩, ⟨aB BK211⟩, ⟨aB BK213⟩, ⟨aL HB⟩⟩
  clear HC21; obtain ⟨kq, x16_20, rfl, HA, HJ20, BK208, BK209, BK210, BK211, BK213, HB⟩ := hcut; cases kq with
  | zero => exact absurd HA.out (by simp [best_next.j1])
  | succ kj20 =>
   have H := HA.out; clear HA; simp only [best_next.j1] at H; replace H := Option.bind_eq_some_iff.mp H; obtain ⟨t215, A400, H⟩ := H; replace H : (if t215 = x18_1 then (best_next.j2 kj20 a1 a2 a3 l4 t214 t214 x16_20 x16_20 x18_1 l0_0 l0_1 a5_0 a5_1 a5_2 a5_3 a5_4 a5_5 x212000_1 x212001_1) else (best_next.j2 kj20 a1 a2 a3 l4 t214 x15_1 x16_20 x17_1 x18_1 l0_0 l0_1 a5_0 a5_1 a5_2 a5_3 a5_4 a5_5 x212000_1 x212001_1)) = some (r1, r2) := H; have A40 := zA.mk A400; clear A400; have HC41 := zA.mk H; clear H; have hnb42 := NB208_209.out; have hnc42 := NB209_208.out; have hnb43 := NB208_210.out; have hnc43 := NB210_208.out; have hnb44 := NB208_211.out; have hnc44 := NB211_208.out; have hnb45 := NB208_213.out; have hnc45 := NB213_208.out; obtain ⟨hcz46_0, hcz46_1, hfz46_0, hfz46_1⟩ := aC2 BK208; go_upto_if 56 with (first | ((with_reducible refine gate_callee (f := 39) rfl ?_); refine goesL_ (some 54) rfl rfl Try.func39 (by kernel_rfl) rfl #[.agg #[.slice (some ad212) l0_0.length c0_0, .slice A0_1 l0_1.length c0_1], .int .i64 (wrap64 (x18_1 - 1)), .int .i64 x18_1] rfl (by (try simp only [List.map_toArray, List.map_cons, List.map_nil]); first | done | (rw [hji17] <;> rfl) | rfl | (simp only [List.length_drop, List.length_take]; rfl)) ?_; (with_reducible refine (span_Trim.calls kj20 _ _ l0_0 _ _ l0_1 (wrap64 (x18_1 - 1)) x18_1 t215 _ ?side1 ?side2 ?side3 ?side4 A40.out).mono ?_); (case side1 => exact aA HR0_0 HB); (case side2 => exact HC0_0.out); (case side3 => exact aA HR0_1 HB); (case side4 => exact HC0_1.out); rintro e w47 ⟨rfl, hb⟩; refine ⟨_, rfl, ?_⟩; replace BK208 := zA.mk (zC (aB BK208) hb); replace BK209 := zA.mk (zC (aB BK209) hb); replace BK210 := zA.mk (zC (aB BK210) hb); replace BK211 := zA.mk (zC (aB BK211) hb); replace BK213 := zA.mk (zC (aB BK213) hb); replace HB := zA.mk (zD (aL HB) hb); (try clear hb); (try clear hb2); (try clear hk); (try clear hi)))
   (try simp only [Act.put, sA_, sB_, sC_])
   go_cut [15, 17] (fun v15 v17 wc => ∃ (kq : Nat) (x15_40 : Int) (x17_40 : Int), v15 = .int .i64 x15_40 ∧ v17 = .int .i64 x17_40 ∧ zA (best_next.j2 kq a1 a2 a3 l4 t214 x15_40 x16_20 x17_40 x18_1 l0_0 l0_1 a5_0 a5_1 a5_2 a5_3 a5_4 a5_5 x212000_1 x212001_1 = some (r1, r2)) ∧ zA (kq ≤ kj20) ∧ zA (wc.heap[gb208]? = some (.cells #[(.slice (some ad212) l0_0.length c0_0), (.slice A0_1 l0_1.length c0_1)] 31 (0, 0))) ∧ zA (wc.heap[gb209]? = some (.cells #[.int .i64 a5_0, .int .i64 a5_1, .int .u8 a5_2, .int .i64 a5_3, .int .i64 a5_4, .float .f64 a5_5] 35 (0, 0))) ∧ zA (wc.heap[gb210]? = some (.cells #[.int .i64 0, .int .i64 0] 70 (0, 0))) ∧ zA (wc.heap[gb211]? = some (.cells #[.int .i64 x212000_1, .int .i64 x212001_1] 70 (0, 0))) ∧ zA (wc.heap[gb213]? = some (.cells #[.int .i64 ((rd_T66 l0_0 (ji17)).f0), .int .i64 ((rd_T66 l0_0 (ji17)).f1), .int .i64 ((rd_T66 l0_0 (ji17)).f2), .int .u8 ((rd_T66 l0_0 (ji17)).f3)] 66 (0, 0))) ∧ zA (Below w.heap.size w wc))
   case first =>
    have H := HC41.out; clear HC41; by_cases c48 : t215 = x18_1
    ·rw [if_pos c48] at H
     have c48b0 : (t215 == x18_1) = true := beq_iff_eq.mpr c48
     have c48b1 : (t215 != x18_1) = false := bne_eq_false_iff_eq.mpr c48
     clear c48; (first | rw [c48b0] | (simp only [i64_w, i32_w]; rw [c48b0]) | skip)
     have H' := zA.mk H
     clear H; go_wp2
     go_meet
     case rel => exact ⟨_, (t214), (x16_20), aZ, aZ, H', ⟨by have := HK1.out; have := HJ20.out; first | omega | exact Nat.le_refl _⟩, ⟨aB BK208⟩, ⟨aB BK209⟩, ⟨aB BK210⟩, ⟨aB BK211⟩, ⟨aB BK213⟩, ⟨aL HB⟩⟩
    rw [if_neg c48] at H; have c48b0 : (t215 == x18_1) = false := beq_eq_false_iff_ne.mpr c48
    have c48b1 : (t215 != x18_1) = true := bne_iff_ne.mpr c48
    (first | rw [c48b0] | (simp only [i64_w, i32_w]; rw [c48b0]) | skip)
    have H' := zA.mk H
    clear H; go_wp2
    go_meet
    case rel => exact ⟨_, (x15_1), (x17_1), aZ, aZ, H', ⟨by have := HK1.out; have := HJ20.out; first | omega | exact Nat.le_refl _⟩, ⟨aB BK208⟩, ⟨aB BK209⟩, ⟨aB BK210⟩, ⟨aB BK211⟩, ⟨aB BK213⟩, ⟨aL HB⟩⟩
   clear HC41; obtain ⟨kq, x15_40, x17_40, rfl, rfl, HA, HJ40, BK208, BK209, BK210, BK211, BK213, HB⟩ := hcut; cases kq with
   | zero => exact absurd HA.out (by simp [best_next.j2])
   | succ kj40 =>
    have H := HA.out; clear HA; simp only [best_next.j2] at H; by_cases c49 : x15_40 > a5_0
    ·rw [if_pos c49] at H
     have c49b0 : decide (a5_0 < x15_40) = true := decide_eq_true c49
     clear c49; simp only [Option.some.injEq, Prod.mk.injEq] at H; obtain ⟨rfl, rfl⟩ := H; have hnb50 := NB209_208.out; have hnc50 := NB208_209.out; have hnb51 := NB209_210.out; have hnc51 := NB210_209.out; have hnb52 := NB209_211.out; have hnc52 := NB211_209.out; have hnb53 := NB209_213.out; have hnc53 := NB213_209.out; obtain ⟨hcz54_0, hcz54_1, hcz54_2, hcz54_3, hcz54_4, hcz54_5, hfz54_0, hfz54_1, hfz54_2, hfz54_3, hfz54_4, hfz54_5⟩ := aC6 BK209; have hnb55 := NB211_208.out; have hnc55 := NB208_211.out; have hnb56 := NB211_210.out; have hnc56 := NB210_211.out; have hnb57 := NB211_213.out; have hnc57 := NB213_211.out; obtain ⟨hcz58_0, hcz58_1, hfz58_0, hfz58_1⟩ := aC2 BK211; have hnb59 := NB210_208.out; have hnc59 := NB208_210.out; have hnb60 := NB210_213.out; have hnc60 := NB213_210.out; obtain ⟨hcz61_0, hcz61_1, hfz61_0, hfz61_1⟩ := aC2 BK210; go_wp2_with (first | ((with_reducible refine gate_store (t := 70) (p := 12) rfl ?_); refine store_event (t := 70) (p := 12) (v := ?vo_w62) (w1 := ((wc.setCell ⟨gb210, 0, none⟩ (.int .i64 x212000_1)).setCell ⟨gb210, 1, none⟩ (.int .i64 x212001_1))) ?hg ?ho ?hn ?hr ?_; (case ho => rfl); (case hg => rfl); (case hn => rfl); (case hr => first | (go_simp; done) | (go_simp; rfl)); intro w62 hw; have n0_ : zA (w62.heap[gb208]? = some (.cells #[.slice (some ad212) l0_0.length c0_0, .slice A0_1 l0_1.length c0_1] 31 (0, 0))) := ⟨(by rw [hw]; exact (aB BK208))⟩; have n1_ : zA (w62.heap[gb209]? = some (.cells #[.int .i64 a5_0, .int .i64 a5_1, .int .u8 a5_2, .int .i64 a5_3, .int .i64 a5_4, .float .f64 a5_5] 35 (0, 0))) := ⟨(by rw [hw]; exact (aB BK209))⟩; have n2_ : zA (w62.heap[gb210]? = some (.cells #[.int .i64 x212000_1, .int .i64 x212001_1] 70 (0, 0))) := ⟨(by rw [hw]; exact (by (with_reducible repeat (first | refine zI ?_ _ | refine zF ?_ | refine zE ?_ _)); refine blk_put (cs := #[.int .i64 x212000_1, .int .i64 0]) ?_ 1 _ rfl; (with_reducible repeat (first | refine zI ?_ _ | refine zF ?_ | refine zE ?_ _)); refine blk_put (cs := #[.int .i64 0, .int .i64 0]) ?_ 0 _ rfl; (with_reducible repeat (first | refine zI ?_ _ | refine zF ?_ | refine zE ?_ _)); exact BK210.out))⟩; have n3_ : zA (w62.heap[gb211]? = some (.cells #[.int .i64 x212000_1, .int .i64 x212001_1] 70 (0, 0))) := ⟨(by rw [hw]; exact (aB BK211))⟩; have n4_ : zA (w62.heap[gb213]? = some (.cells #[.int .i64 ((rd_T66 l0_0 (ji17)).f0), .int .i64 ((rd_T66 l0_0 (ji17)).f1), .int .i64 ((rd_T66 l0_0 (ji17)).f2), .int .u8 ((rd_T66 l0_0 (ji17)).f3)] 66 (0, 0))) := ⟨(by rw [hw]; exact (aB BK213))⟩; have n5_ : zA (Below w.heap.size w w62) := ⟨(by rw [hw]; exact (aL HB))⟩; clear hw; clear BK208; clear BK209; clear BK210; clear BK211; clear BK213; clear HB; have BK208 := n0_; have BK209 := n1_; have BK210 := n2_; have BK211 := n3_; have BK213 := n4_; have HB := n5_; clear n0_ n1_ n2_ n3_ n4_ n5_))
     refine bodyPost_ret (results_cell_row rfl _ _ gb210 70 #[.int .i64 x212000_1, .int .i64 x212001_1] (0, 0) _ rfl (aB BK210) Try.underlying70 rfl (by kernel_rfl)) rfl ?_
     exact ⟨by first | rfl | (simp [errW_none, errW_some] <;> rfl) | (simp only [← hji17]; first | rfl | (simp [errW_none, errW_some] <;> rfl)) | (simp [*, errW_none, errW_some] <;> rfl), aL HB⟩
    rw [if_neg c49] at H; have c49b0 : decide (a5_0 < x15_40) = false := decide_eq_false c49
    clear c49; replace H := Option.bind_eq_some_iff.mp H; obtain ⟨⟨t216, t217⟩, A630, H⟩ := H; replace H : (if 0 ≤ (wrap64 (x18_1 - a2)) then (if (wrap64 (x18_1 - a2)) < (l4.length : Int) then (if t217 = true then (if x18_1 < a3 then (best_next.j3 kj40 a1 a2 a3 l4 t214 x15_40 x16_20 x17_40 x18_1 t216 (decide (((rd_T70 l4 (wrap64 (x18_1 - a2))).f1) < 0)) l0_0 l0_1 a5_0 a5_1 a5_2 a5_3 a5_4 a5_5 x212000_1 x212001_1 ((rd_T70 l4 (wrap64 (x18_1 - a2))).f0) ((rd_T70 l4 (wrap64 (x18_1 - a2))).f1)) else (best_next.j3 kj40 a1 a2 a3 l4 t214 x15_40 x16_20 x17_40 x18_1 t216 false l0_0 l0_1 a5_0 a5_1 a5_2 a5_3 a5_4 a5_5 x212000_1 x212001_1 ((rd_T70 l4 (wrap64 (x18_1 - a2))).f0) ((rd_T70 l4 (wrap64 (x18_1 - a2))).f1))) else (best_next.j3 kj40 a1 a2 a3 l4 t214 x15_40 x16_20 x17_40 x18_1 t216 true l0_0 l0_1 a5_0 a5_1 a5_2 a5_3 a5_4 a5_5 x212000_1 x212001_1 ((rd_T70 l4 (wrap64 (x18_1 - a2))).f0) ((rd_T70 l4 (wrap64 (x18_1 - a2))).f1))) else (none)) else (none)) = some (r1, r2) := H; have A63 := zA.mk A630; clear A630; obtain ⟨ji64, hji64⟩ : ∃ j_ : Int, (wrap64 (x18_1 - a2)) = j_ := ⟨_, rfl⟩; replace H : (if 0 ≤ (ji64) then (if (ji64) < (l4.length : Int) then (if t217 = true then (if x18_1 < a3 then (best_next.j3 kj40 a1 a2 a3 l4 t214 x15_40 x16_20 x17_40 x18_1 t216 (decide (((rd_T70 l4 (ji64)).f1) < 0)) l0_0 l0_1 a5_0 a5_1 a5_2 a5_3 a5_4 a5_5 x212000_1 x212001_1 ((rd_T70 l4 (ji64)).f0) ((rd_T70 l4 (ji64)).f1)) else (best_next.j3 kj40 a1 a2 a3 l4 t214 x15_40 x16_20 x17_40 x18_1 t216 false l0_0 l0_1 a5_0 a5_1 a5_2 a5_3 a5_4 a5_5 x212000_1 x212001_1 ((rd_T70 l4 (ji64)).f0) ((rd_T70 l4 (ji64)).f1))) else (best_next.j3 kj40 a1 a2 a3 l4 t214 x15_40 x16_20 x17_40 x18_1 t216 true l0_0 l0_1 a5_0 a5_1 a5_2 a5_3 a5_4 a5_5 x212000_1 x212001_1 ((rd_T70 l4 (ji64)).f0) ((rd_T70 l4 (ji64)).f1))) else (none)) else (none)) = some (r1, r2) := by first | (rw [hji64] at H; exact H) | (simp only [hji64] at H ⊢; exact H)
    (try rw [hji64] at A63)
    have hji64w : (IntKind.i64.wrap (x18_1 - a2)) = ji64 := (i64_w _).trans hji64
    by_cases c65 : 0 ≤ (ji64)
    rotate_left
    ·rw [if_neg c65] at H
     exact absurd H (by simp)
    rw [if_pos c65] at H; have c65b0 : decide (0 ≤ (ji64)) = true := decide_eq_true c65
    clear c65; by_cases c66 : (ji64) < (l4.length : Int)
    rotate_left
    ·rw [if_neg c66] at H
     exact absurd H (by simp)
    rw [if_pos c66] at H; have c66b0 : decide ((ji64) < (l4.length : Int)) = true := decide_eq_true c66
    clear c66; have HC67 := zA.mk H; clear H; have hnb68 := NB209_208.out; have hnc68 := NB208_209.out; have hnb69 := NB209_210.out; have hnc69 := NB210_209.out; have hnb70 := NB209_211.out; have hnc70 := NB211_209.out; have hnb71 := NB209_213.out; have hnc71 := NB213_209.out; obtain ⟨hcz72_0, hcz72_1, hcz72_2, hcz72_3, hcz72_4, hcz72_5, hfz72_0, hfz72_1, hfz72_2, hfz72_3, hfz72_4, hfz72_5⟩ := aC6 BK209; have hnb73 := NB208_210.out; have hnc73 := NB210_208.out; have hnb74 := NB208_211.out; have hnc74 := NB211_208.out; have hnb75 := NB208_213.out; have hnc75 := NB213_208.out; obtain ⟨hcz76_0, hcz76_1, hfz76_0, hfz76_1⟩ := aC2 BK208; go_upto_region 15 with (first | ((with_reducible refine gate_callee (f := 40) rfl ?_); refine goesL_ (some 66) rfl rfl Try.func40 (by kernel_rfl) rfl #[.agg #[.slice (some ad212) l0_0.length c0_0, .slice A0_1 l0_1.length c0_1], .int .i64 x18_1] rfl aT ?_; (with_reducible refine (span_Ends.calls _ _ l0_0 _ _ l0_1 x18_1 t216 t217 _ ?side1 ?side2 ?side3 ?side4 A63.out).mono ?_); (case side1 => exact aA HR0_0 HB); (case side2 => exact HC0_0.out); (case side3 => exact aA HR0_1 HB); (case side4 => exact HC0_1.out); rintro e w77 ⟨rfl, hb⟩; refine ⟨_, rfl, ?_⟩; replace BK208 := zA.mk (zC (aB BK208) hb); replace BK209 := zA.mk (zC (aB BK209) hb); replace BK210 := zA.mk (zC (aB BK210) hb); replace BK211 := zA.mk (zC (aB BK211) hb); replace BK213 := zA.mk (zC (aB BK213) hb); replace HB := zA.mk (zD (aL HB) hb); (try clear hb); (try clear hb2); (try clear hk); (try clear hi); have p218 : 0 ≤ ((ji64) : Int) := aD; have q218 : (ji64) < (l4.length : Int) := aD; obtain ⟨ad218, e218, hx218_0, hx218_1⟩ := at_T70 HR4.out (ji64) p218 q218; cases e218; replace hx218_0 := (HB.out.cell (World.block_lt_of_cell? w _ hx218_0)).trans hx218_0; replace hx218_1 := (HB.out.cell (World.block_lt_of_cell? w _ hx218_1)).trans hx218_1; replace p218 := eq_true p218; replace q218 := eq_true q218) | ((with_reducible refine gate_dst (N := 22) rfl ?_); refine box_event ?hg (N := 22) ?hd (cs := #[.int .i64 0, .int .i64 0]) (t := 70) ?hr ?_; (case hd => rfl); (case hg => rfl); (case hr => first | (go_simp; done) | (go_simp; rfl)); intro gb219 hg w78 hbox hb; have BK219 := zA.mk (hbox); have GW219 := zA.mk ((by rw [hg]; exact (zH (aL HB)) : w.heap.size ≤ gb219)); replace HB := zA.mk (zD (aL HB) hb); have GE219 := GW219; have NB208_219 := zA.mk ((by rw [hg]; exact Nat.ne_of_lt (blk_lt (aB BK208)) : gb208 ≠ gb219)); have NB219_208 := zA.mk ((by rw [hg]; exact Nat.ne_of_gt (blk_lt (g := gb208) (o := .cells #[.slice (some ad212) l0_0.length c0_0, .slice A0_1 l0_1.length c0_1] 31 (0, 0)) (aB BK208)) : gb219 ≠ gb208)); replace BK208 := zA.mk (zC (aB BK208) hb); have NB209_219 := zA.mk ((by rw [hg]; exact Nat.ne_of_lt (blk_lt (aB BK209)) : gb209 ≠ gb219)); have NB219_209 := zA.mk ((by rw [hg]; exact Nat.ne_of_gt (blk_lt (g := gb209) (o := .cells #[.int .i64 a5_0, .int .i64 a5_1, .int .u8 a5_2, .int .i64 a5_3, .int .i64 a5_4, .float .f64 a5_5] 35 (0, 0)) (aB BK209)) : gb219 ≠ gb209)); replace BK209 := zA.mk (zC (aB BK209) hb); have NB210_219 := zA.mk ((by rw [hg]; exact Nat.ne_of_lt (blk_lt (aB BK210)) : gb210 ≠ gb219)); have NB219_210 := zA.mk ((by rw [hg]; exact Nat.ne_of_gt (blk_lt (g := gb210) (o := .cells #[.int .i64 0, .int .i64 0] 70 (0, 0)) (aB BK210)) : gb219 ≠ gb210)); replace BK210 := zA.mk (zC (aB BK210) hb); have NB211_219 := zA.mk ((by rw [hg]; exact Nat.ne_of_lt (blk_lt (aB BK211)) : gb211 ≠ gb219)); have NB219_211 := zA.mk ((by rw [hg]; exact Nat.ne_of_gt (blk_lt (g := gb211) (o := .cells #[.int .i64 x212000_1, .int .i64 x212001_1] 70 (0, 0)) (aB BK211)) : gb219 ≠ gb211)); replace BK211 := zA.mk (zC (aB BK211) hb); have NB213_219 := zA.mk ((by rw [hg]; exact Nat.ne_of_lt (blk_lt (aB BK213)) : gb213 ≠ gb219)); have NB219_213 := zA.mk ((by rw [hg]; exact Nat.ne_of_gt (blk_lt (g := gb213) (o := .cells #[.int .i64 ((rd_T66 l0_0 (ji17)).f0), .int .i64 ((rd_T66 l0_0 (ji17)).f1), .int .i64 ((rd_T66 l0_0 (ji17)).f2), .int .u8 ((rd_T66 l0_0 (ji17)).f3)] 66 (0, 0)) (aB BK213)) : gb219 ≠ gb213)); replace BK213 := zA.mk (zC (aB BK213) hb); clear hb hbox hg; have hnb79 := NB219_208.out; have hnc79 := NB208_219.out; have hnb80 := NB219_209.out; have hnc80 := NB209_219.out; have hnb81 := NB219_210.out; have hnc81 := NB210_219.out; have hnb82 := NB219_211.out; have hnc82 := NB211_219.out; have hnb83 := NB219_213.out; have hnc83 := NB213_219.out; obtain ⟨hcz84_0, hcz84_1, hfz84_0, hfz84_1⟩ := aC2 BK219) | ((with_reducible refine gate_store (t := 70) (p := 22) rfl ?_); refine store_event (t := 70) (p := 22) (v := ?vo_w85) (w1 := ((w78.setCell ⟨gb219, 0, none⟩ (.int .i64 ((rd_T70 l4 (ji64)).f0))).setCell ⟨gb219, 1, none⟩ (.int .i64 ((rd_T70 l4 (ji64)).f1)))) ?hg ?ho ?hn ?hr ?_; (case ho => rfl); (case hg => rfl); (case hn => rfl); (case hr => first | (go_simp; done) | (go_simp; rfl)); intro w85 hw; have n0_ : zA (w85.heap[gb208]? = some (.cells #[.slice (some ad212) l0_0.length c0_0, .slice A0_1 l0_1.length c0_1] 31 (0, 0))) := ⟨(by rw [hw]; exact (aB BK208))⟩; have n1_ : zA (w85.heap[gb209]? = some (.cells #[.int .i64 a5_0, .int .i64 a5_1, .int .u8 a5_2, .int .i64 a5_3, .int .i64 a5_4, .float .f64 a5_5] 35 (0, 0))) := ⟨(by rw [hw]; exact (aB BK209))⟩; have n2_ : zA (w85.heap[gb210]? = some (.cells #[.int .i64 0, .int .i64 0] 70 (0, 0))) := ⟨(by rw [hw]; exact (aB BK210))⟩; have n3_ : zA (w85.heap[gb211]? = some (.cells #[.int .i64 x212000_1, .int .i64 x212001_1] 70 (0, 0))) := ⟨(by rw [hw]; exact (aB BK211))⟩; have n4_ : zA (w85.heap[gb213]? = some (.cells #[.int .i64 ((rd_T66 l0_0 (ji17)).f0), .int .i64 ((rd_T66 l0_0 (ji17)).f1), .int .i64 ((rd_T66 l0_0 (ji17)).f2), .int .u8 ((rd_T66 l0_0 (ji17)).f3)] 66 (0, 0))) := ⟨(by rw [hw]; exact (aB BK213))⟩; have n5_ : zA (w85.heap[gb219]? = some (.cells #[.int .i64 ((rd_T70 l4 (ji64)).f0), .int .i64 ((rd_T70 l4 (ji64)).f1)] 70 (0, 0))) := ⟨(by rw [hw]; exact (by (with_reducible repeat (first | refine zI ?_ _ | refine zF ?_ | refine zE ?_ _)); refine blk_put (cs := #[.int .i64 ((rd_T70 l4 (ji64)).f0), .int .i64 0]) ?_ 1 _ rfl; (with_reducible repeat (first | refine zI ?_ _ | refine zF ?_ | refine zE ?_ _)); refine blk_put (cs := #[.int .i64 0, .int .i64 0]) ?_ 0 _ rfl; (with_reducible repeat (first | refine zI ?_ _ | refine zF ?_ | refine zE ?_ _)); exact BK219.out))⟩; have n6_ : zA (Below w.heap.size w w85) := ⟨(by rw [hw]; exact (aL HB))⟩; clear hw; clear BK208; clear BK209; clear BK210; clear BK211; clear BK213; clear BK219; clear HB; have BK208 := n0_; have BK209 := n1_; have BK210 := n2_; have BK211 := n3_; have BK213 := n4_; have BK219 := n5_; have HB := n6_; clear n0_ n1_ n2_ n3_ n4_ n5_ n6_))
    (try simp only [Act.put, sA_, sB_, sC_])
    go_cut [86] (fun v86 wc => ∃ (kq : Nat) (x86_66 : Bool), v86 = .bool x86_66 ∧ zA (best_next.j3 kq a1 a2 a3 l4 t214 x15_40 x16_20 x17_40 x18_1 t216 x86_66 l0_0 l0_1 a5_0 a5_1 a5_2 a5_3 a5_4 a5_5 x212000_1 x212001_1 ((rd_T70 l4 (ji64)).f0) ((rd_T70 l4 (ji64)).f1) = some (r1, r2)) ∧ zA (kq ≤ kj40) ∧ zA (wc.heap[gb208]? = some (.cells #[(.slice (some ad212) l0_0.length c0_0), (.slice A0_1 l0_1.length c0_1)] 31 (0, 0))) ∧ zA (wc.heap[gb209]? = some (.cells #[.int .i64 a5_0, .int .i64 a5_1, .int .u8 a5_2, .int .i64 a5_3, .int .i64 a5_4, .float .f64 a5_5] 35 (0, 0))) ∧ zA (wc.heap[gb210]? = some (.cells #[.int .i64 0, .int .i64 0] 70 (0, 0))) ∧ zA (wc.heap[gb211]? = some (.cells #[.int .i64 x212000_1, .int .i64 x212001_1] 70 (0, 0))) ∧ zA (wc.heap[gb213]? = some (.cells #[.int .i64 ((rd_T66 l0_0 (ji17)).f0), .int .i64 ((rd_T66 l0_0 (ji17)).f1), .int .i64 ((rd_T66 l0_0 (ji17)).f2), .int .u8 ((rd_T66 l0_0 (ji17)).f3)] 66 (0, 0))) ∧ zA (wc.heap[gb219]? = some (.cells #[.int .i64 ((rd_T70 l4 (ji64)).f0), .int .i64 ((rd_T70 l4 (ji64)).f1)] 70 (0, 0))) ∧ zA (Below w.heap.size w wc))
    case first =>
     have H := HC67.out; clear HC67; by_cases c86 : t217 = true
     rotate_left
     ·replace c86 := Bool.eq_false_iff.mpr c86
      subst c86; have H1 : (best_next.j3 kj40 a1 a2 a3 l4 t214 x15_40 x16_20 x17_40 x18_1 t216 true l0_0 l0_1 a5_0 a5_1 a5_2 a5_3 a5_4 a5_5 x212000_1 x212001_1 ((rd_T70 l4 (ji64)).f0) ((rd_T70 l4 (ji64)).f1)) = some (r1, r2) := by rw [if_neg (show ¬ (false = true) by decide)] at H; exact H
      clear H; have H := H1; clear H1; have H' := zA.mk H
      clear H; go_wp2
      go_meet
      case rel => exact ⟨_, (true), aZ, H', ⟨by have := HK1.out; have := HJ20.out; have := HJ40.out; first | omega | exact Nat.le_refl _⟩, ⟨aB BK208⟩, ⟨aB BK209⟩, ⟨aB BK210⟩, ⟨aB BK211⟩, ⟨aB BK213⟩, ⟨aB BK219⟩, ⟨aL HB⟩⟩
     subst c86; have H1 : (if x18_1 < a3 then (best_next.j3 kj40 a1 a2 a3 l4 t214 x15_40 x16_20 x17_40 x18_1 t216 (decide (((rd_T70 l4 (ji64)).f1) < 0)) l0_0 l0_1 a5_0 a5_1 a5_2 a5_3 a5_4 a5_5 x212000_1 x212001_1 ((rd_T70 l4 (ji64)).f0) ((rd_T70 l4 (ji64)).f1)) else (best_next.j3 kj40 a1 a2 a3 l4 t214 x15_40 x16_20 x17_40 x18_1 t216 false l0_0 l0_1 a5_0 a5_1 a5_2 a5_3 a5_4 a5_5 x212000_1 x212001_1 ((rd_T70 l4 (ji64)).f0) ((rd_T70 l4 (ji64)).f1))) = some (r1, r2) := by rw [if_pos rfl] at H; exact H
     clear H; have H := H1; clear H1; by_cases c87 : x18_1 < a3
     rotate_left
     ·rw [if_neg c87] at H
      have c87b0 : decide (x18_1 < a3) = false := decide_eq_false c87
      clear c87; (first | rw [c87b0] | (simp only [i64_w, i32_w]; rw [c87b0]) | skip)
      have H' := zA.mk H
      clear H; go_wp2
      go_meet
      case rel => exact ⟨_, (false), aZ, H', ⟨by have := HK1.out; have := HJ20.out; have := HJ40.out; first | omega | exact Nat.le_refl _⟩, ⟨aB BK208⟩, ⟨aB BK209⟩, ⟨aB BK210⟩, ⟨aB BK211⟩, ⟨aB BK213⟩, ⟨aB BK219⟩, ⟨aL HB⟩⟩
     rw [if_pos c87] at H; have c87b0 : decide (x18_1 < a3) = true := decide_eq_true c87
     clear c87; (first | rw [c87b0] | (simp only [i64_w, i32_w]; rw [c87b0]) | skip)
     have H' := zA.mk H
     clear H; have hnb88 := NB219_208.out; have hnc88 := NB208_219.out; have hnb89 := NB219_209.out; have hnc89 := NB209_219.out; have hnb90 := NB219_210.out; have hnc90 := NB210_219.out; have hnb91 := NB219_211.out; have hnc91 := NB211_219.out; have hnb92 := NB219_213.out; have hnc92 := NB213_219.out; obtain ⟨hcz93_0, hcz93_1, hfz93_0, hfz93_1⟩ := aC2 BK219; go_wp2
     go_meet
     case rel => exact ⟨_, (decide (((rd_T70 l4 (ji64)).f1) < 0)), (by first | rfl | (simp; done) | (simp only [← hji64] <;> (first | rfl | simp)) | (simp [*]; done)), H', ⟨by have := HK1.out; have := HJ20.out; have := HJ40.out; first | omega | exact Nat.le_refl _⟩, ⟨aB BK208⟩, ⟨aB BK209⟩, ⟨aB BK210⟩, ⟨aB BK211⟩, ⟨aB BK213⟩, ⟨aB BK219⟩, ⟨aL HB⟩⟩
    clear HC67; obtain ⟨kq, x86_66, rfl, HA, HJ66, BK208, BK209, BK210, BK211, BK213, BK219, HB⟩ := hcut; cases kq with
    | zero => exact absurd HA.out (by simp [best_next.j3])
    | succ kj66 =>
     have H := HA.out; clear HA; simp only [best_next.j3] at H; by_cases c94 : x86_66 = true
     ·subst c94
      have H1 : (best_next.l0 kj66 a1 a2 a3 l4 t214 x15_40 x16_20 x17_40 (wrap64 (x18_1 + 1)) l0_0 l0_1 a5_0 a5_1 a5_2 a5_3 a5_4 a5_5 x212000_1 x212001_1) = some (r1, r2) := by rw [if_pos rfl] at H; exact H
      clear H; have H := H1; clear H1; have H' := zA.mk H
      clear H; go_wp2
      go_roundg kj66
      case measure => have := HK1.out; have := HJ20.out; have := HJ40.out; have := HJ66.out; omega
      case rel => exact ⟨(t214), (x15_40), (x16_20), (x17_40), (wrap64 (x18_1 + 1)), (x212000_1), (x212001_1), aZ, aZ, aZ, aZ, aZ, H', ⟨by have := HK1.out; have := HJ20.out; have := HJ40.out; have := HJ66.out; omega⟩, ⟨aB BK208⟩, ⟨aB BK209⟩, ⟨aB BK210⟩, ⟨aB BK211⟩, ⟨aL HB⟩⟩
     replace c94 := Bool.eq_false_iff.mpr c94; subst c94; have H1 : (if t216 = 3 then ((best_price.f kj66 l0_0 l0_1 a1 t216 (wrap64 (x15_40 + 1)) x17_40 (x18_1 == a3) a5_0 a5_1 a5_2 a5_3 a5_4 a5_5).bind fun bt220 => (if bt220.2 = true then (if x212001_1 < 0 then (best_next.l0 kj66 a1 a2 a3 l4 t214 x15_40 x16_20 x17_40 (wrap64 (x18_1 + 1)) l0_0 l0_1 a5_0 a5_1 a5_2 a5_3 a5_4 a5_5 (wrap64 (bt220.1 + ((rd_T70 l4 (ji64)).f0))) x18_1) else (if (wrap64 (bt220.1 + ((rd_T70 l4 (ji64)).f0))) < x212000_1 then (best_next.l0 kj66 a1 a2 a3 l4 t214 x15_40 x16_20 x17_40 (wrap64 (x18_1 + 1)) l0_0 l0_1 a5_0 a5_1 a5_2 a5_3 a5_4 a5_5 (wrap64 (bt220.1 + ((rd_T70 l4 (ji64)).f0))) x18_1) else (best_next.l0 kj66 a1 a2 a3 l4 t214 x15_40 x16_20 x17_40 (wrap64 (x18_1 + 1)) l0_0 l0_1 a5_0 a5_1 a5_2 a5_3 a5_4 a5_5 x212000_1 x212001_1))) else (best_next.l0 kj66 a1 a2 a3 l4 t214 x15_40 x16_20 x17_40 (wrap64 (x18_1 + 1)) l0_0 l0_1 a5_0 a5_1 a5_2 a5_3 a5_4 a5_5 x212000_1 x212001_1))) else ((best_price.f kj66 l0_0 l0_1 a1 t216 x15_40 x17_40 (x18_1 == a3) a5_0 a5_1 a5_2 a5_3 a5_4 a5_5).bind fun bt222 => (if bt222.2 = true then (if x212001_1 < 0 then (best_next.l0 kj66 a1 a2 a3 l4 t214 x15_40 x16_20 x17_40 (wrap64 (x18_1 + 1)) l0_0 l0_1 a5_0 a5_1 a5_2 a5_3 a5_4 a5_5 (wrap64 (bt222.1 + ((rd_T70 l4 (ji64)).f0))) x18_1) else (if (wrap64 (bt222.1 + ((rd_T70 l4 (ji64)).f0))) < x212000_1 then (best_next.l0 kj66 a1 a2 a3 l4 t214 x15_40 x16_20 x17_40 (wrap64 (x18_1 + 1)) l0_0 l0_1 a5_0 a5_1 a5_2 a5_3 a5_4 a5_5 (wrap64 (bt222.1 + ((rd_T70 l4 (ji64)).f0))) x18_1) else (best_next.l0 kj66 a1 a2 a3 l4 t214 x15_40 x16_20 x17_40 (wrap64 (x18_1 + 1)) l0_0 l0_1 a5_0 a5_1 a5_2 a5_3 a5_4 a5_5 x212000_1 x212001_1))) else (best_next.l0 kj66 a1 a2 a3 l4 t214 x15_40 x16_20 x17_40 (wrap64 (x18_1 + 1)) l0_0 l0_1 a5_0 a5_1 a5_2 a5_3 a5_4 a5_5 x212000_1 x212001_1)))) = some (r1, r2) := by rw [if_neg (show ¬ (false = true) by decide)] at H; exact H
     clear H; have H := H1; clear H1; by_cases c95 : t216 = 3
     rotate_left
     ·rw [if_neg c95] at H
      have c95b0 : (t216 == 3) = false := beq_eq_false_iff_ne.mpr c95
      have c95b1 : (t216 != 3) = true := bne_iff_ne.mpr c95
      replace H := Option.bind_eq_some_iff.mp H; obtain ⟨⟨t222, t223⟩, A1710, H⟩ := H; replace H : (if t223 = true then (if x212001_1 < 0 then (best_next.l0 kj66 a1 a2 a3 l4 t214 x15_40 x16_20 x17_40 (wrap64 (x18_1 + 1)) l0_0 l0_1 a5_0 a5_1 a5_2 a5_3 a5_4 a5_5 (wrap64 (t222 + ((rd_T70 l4 (ji64)).f0))) x18_1) else (if (wrap64 (t222 + ((rd_T70 l4 (ji64)).f0))) < x212000_1 then (best_next.l0 kj66 a1 a2 a3 l4 t214 x15_40 x16_20 x17_40 (wrap64 (x18_1 + 1)) l0_0 l0_1 a5_0 a5_1 a5_2 a5_3 a5_4 a5_5 (wrap64 (t222 + ((rd_T70 l4 (ji64)).f0))) x18_1) else (best_next.l0 kj66 a1 a2 a3 l4 t214 x15_40 x16_20 x17_40 (wrap64 (x18_1 + 1)) l0_0 l0_1 a5_0 a5_1 a5_2 a5_3 a5_4 a5_5 x212000_1 x212001_1))) else (best_next.l0 kj66 a1 a2 a3 l4 t214 x15_40 x16_20 x17_40 (wrap64 (x18_1 + 1)) l0_0 l0_1 a5_0 a5_1 a5_2 a5_3 a5_4 a5_5 x212000_1 x212001_1)) = some (r1, r2) := H; have A171 := zA.mk A1710; clear A1710; by_cases c172 : t223 = true
      rotate_left
      ·replace c172 := Bool.eq_false_iff.mpr c172
       subst c172; have H1 : (best_next.l0 kj66 a1 a2 a3 l4 t214 x15_40 x16_20 x17_40 (wrap64 (x18_1 + 1)) l0_0 l0_1 a5_0 a5_1 a5_2 a5_3 a5_4 a5_5 x212000_1 x212001_1) = some (r1, r2) := by rw [if_neg (show ¬ (false = true) by decide)] at H; exact H
       clear H; have H := H1; clear H1; have H' := zA.mk H
       clear H; have hnb234 := NB208_209.out; have hnc234 := NB209_208.out; have hnb235 := NB208_210.out; have hnc235 := NB210_208.out; have hnb236 := NB208_211.out; have hnc236 := NB211_208.out; have hnb237 := NB208_213.out; have hnc237 := NB213_208.out; have hnb238 := NB208_219.out; have hnc238 := NB219_208.out; obtain ⟨hcz239_0, hcz239_1, hfz239_0, hfz239_1⟩ := aC2 BK208; have hnb240 := NB209_210.out; have hnc240 := NB210_209.out; have hnb241 := NB209_211.out; have hnc241 := NB211_209.out; have hnb242 := NB209_213.out; have hnc242 := NB213_209.out; have hnb243 := NB209_219.out; have hnc243 := NB219_209.out; obtain ⟨hcz244_0, hcz244_1, hcz244_2, hcz244_3, hcz244_4, hcz244_5, hfz244_0, hfz244_1, hfz244_2, hfz244_3, hfz244_4, hfz244_5⟩ := aC6 BK209; go_wp2_with (first | ((with_reducible refine gate_callee (f := 41) rfl ?_); refine goesL_ (some 102) rfl rfl Try.func41 (by kernel_rfl) rfl #[.agg #[.slice (some ad212) l0_0.length c0_0, .slice A0_1 l0_1.length c0_1], .int .i64 a1, .int .u8 t216, .int .i64 x15_40, .int .i64 x17_40, .bool (x18_1 == a3), .agg #[.int .i64 a5_0, .int .i64 a5_1, .int .u8 a5_2, .int .i64 a5_3, .int .i64 a5_4, .float .f64 a5_5]] rfl aT ?_; (with_reducible refine (best_price.calls kj66 _ _ l0_0 _ _ l0_1 a1 t216 x15_40 x17_40 (x18_1 == a3) a5_0 a5_1 a5_2 a5_3 a5_4 a5_5 t222 false _ ?side1 ?side2 ?side3 ?side4 A171.out).mono ?_); (case side1 => exact aA HR0_0 HB); (case side2 => exact HC0_0.out); (case side3 => exact aA HR0_1 HB); (case side4 => exact HC0_1.out); rintro e w245 ⟨rfl, hb⟩; refine ⟨_, rfl, ?_⟩; replace BK208 := zA.mk (zC (aB BK208) hb); replace BK209 := zA.mk (zC (aB BK209) hb); replace BK210 := zA.mk (zC (aB BK210) hb); replace BK211 := zA.mk (zC (aB BK211) hb); replace BK213 := zA.mk (zC (aB BK213) hb); replace BK219 := zA.mk (zC (aB BK219) hb); replace HB := zA.mk (zD (aL HB) hb); (try clear hb); (try clear hb2); (try clear hk); (try clear hi)))
       go_roundg kj66
       case measure => have := HK1.out; have := HJ20.out; have := HJ40.out; have := HJ66.out; omega
       case rel => exact ⟨(t214), (x15_40), (x16_20), (x17_40), (wrap64 (x18_1 + 1)), (x212000_1), (x212001_1), aZ, aZ, aZ, aZ, aZ, H', ⟨by have := HK1.out; have := HJ20.out; have := HJ40.out; have := HJ66.out; omega⟩, ⟨aB BK208⟩, ⟨aB BK209⟩, ⟨aB BK210⟩, ⟨aB BK211⟩, ⟨aL HB⟩⟩
      subst c172; have H1 : (if x212001_1 < 0 then (best_next.l0 kj66 a1 a2 a3 l4 t214 x15_40 x16_20 x17_40 (wrap64 (x18_1 + 1)) l0_0 l0_1 a5_0 a5_1 a5_2 a5_3 a5_4 a5_5 (wrap64 (t222 + ((rd_T70 l4 (ji64)).f0))) x18_1) else (if (wrap64 (t222 + ((rd_T70 l4 (ji64)).f0))) < x212000_1 then (best_next.l0 kj66 a1 a2 a3 l4 t214 x15_40 x16_20 x17_40 (wrap64 (x18_1 + 1)) l0_0 l0_1 a5_0 a5_1 a5_2 a5_3 a5_4 a5_5 (wrap64 (t222 + ((rd_T70 l4 (ji64)).f0))) x18_1) else (best_next.l0 kj66 a1 a2 a3 l4 t214 x15_40 x16_20 x17_40 (wrap64 (x18_1 + 1)) l0_0 l0_1 a5_0 a5_1 a5_2 a5_3 a5_4 a5_5 x212000_1 x212001_1))) = some (r1, r2) := by rw [if_pos rfl] at H; exact H
      clear H; have H := H1; clear H1; by_cases c173 : x212001_1 < 0
      ·rw [if_pos c173] at H
       have c173b0 : decide (x212001_1 < 0) = true := decide_eq_true c173
       clear c173; have H' := zA.mk H
       clear H; have hnb174 := NB208_209.out; have hnc174 := NB209_208.out; have hnb175 := NB208_210.out; have hnc175 := NB210_208.out; have hnb176 := NB208_211.out; have hnc176 := NB211_208.out; have hnb177 := NB208_213.out; have hnc177 := NB213_208.out; have hnb178 := NB208_219.out; have hnc178 := NB219_208.out; obtain ⟨hcz179_0, hcz179_1, hfz179_0, hfz179_1⟩ := aC2 BK208; have hnb180 := NB209_210.out; have hnc180 := NB210_209.out; have hnb181 := NB209_211.out; have hnc181 := NB211_209.out; have hnb182 := NB209_213.out; have hnc182 := NB213_209.out; have hnb183 := NB209_219.out; have hnc183 := NB219_209.out; obtain ⟨hcz184_0, hcz184_1, hcz184_2, hcz184_3, hcz184_4, hcz184_5, hfz184_0, hfz184_1, hfz184_2, hfz184_3, hfz184_4, hfz184_5⟩ := aC6 BK209; go_wp2_with (first | ((with_reducible refine gate_callee (f := 41) rfl ?_); refine goesL_ (some 102) rfl rfl Try.func41 (by kernel_rfl) rfl #[.agg #[.slice (some ad212) l0_0.length c0_0, .slice A0_1 l0_1.length c0_1], .int .i64 a1, .int .u8 t216, .int .i64 x15_40, .int .i64 x17_40, .bool (x18_1 == a3), .agg #[.int .i64 a5_0, .int .i64 a5_1, .int .u8 a5_2, .int .i64 a5_3, .int .i64 a5_4, .float .f64 a5_5]] rfl aT ?_; (with_reducible refine (best_price.calls kj66 _ _ l0_0 _ _ l0_1 a1 t216 x15_40 x17_40 (x18_1 == a3) a5_0 a5_1 a5_2 a5_3 a5_4 a5_5 t222 true _ ?side1 ?side2 ?side3 ?side4 A171.out).mono ?_); (case side1 => exact aA HR0_0 HB); (case side2 => exact HC0_0.out); (case side3 => exact aA HR0_1 HB); (case side4 => exact HC0_1.out); rintro e w185 ⟨rfl, hb⟩; refine ⟨_, rfl, ?_⟩; replace BK208 := zA.mk (zC (aB BK208) hb); replace BK209 := zA.mk (zC (aB BK209) hb); replace BK210 := zA.mk (zC (aB BK210) hb); replace BK211 := zA.mk (zC (aB BK211) hb); replace BK213 := zA.mk (zC (aB BK213) hb); replace BK219 := zA.mk (zC (aB BK219) hb); replace HB := zA.mk (zD (aL HB) hb); (try clear hb); (try clear hb2); (try clear hk); (try clear hi); have hnb186 := NB211_210.out; have hnc186 := NB210_211.out; have hnb187 := NB211_213.out; have hnc187 := NB213_211.out; have hnb188 := NB211_219.out; have hnc188 := NB219_211.out; obtain ⟨hcz189_0, hcz189_1, hfz189_0, hfz189_1⟩ := aC2 BK211; have hnb190 := NB219_210.out; have hnc190 := NB210_219.out; have hnb191 := NB219_213.out; have hnc191 := NB213_219.out; obtain ⟨hcz192_0, hcz192_1, hfz192_0, hfz192_1⟩ := aC2 BK219) | ((with_reducible refine gate_store (t := 70) (p := 13) rfl ?_); refine store_event (t := 70) (p := 13) (v := ?vo_w193) (w1 := ((w185.setCell ⟨gb211, 0, none⟩ (.int .i64 (wrap64 (t222 + ((rd_T70 l4 (ji64)).f0))))).setCell ⟨gb211, 1, none⟩ (.int .i64 x18_1))) ?hg ?ho ?hn ?hr ?_; (case ho => rfl); (case hg => rfl); (case hn => rfl); (case hr => first | (go_simp; done) | (go_simp; rfl)); intro w193 hw; have n0_ : zA (w193.heap[gb208]? = some (.cells #[.slice (some ad212) l0_0.length c0_0, .slice A0_1 l0_1.length c0_1] 31 (0, 0))) := ⟨(by rw [hw]; exact (aB BK208))⟩; have n1_ : zA (w193.heap[gb209]? = some (.cells #[.int .i64 a5_0, .int .i64 a5_1, .int .u8 a5_2, .int .i64 a5_3, .int .i64 a5_4, .float .f64 a5_5] 35 (0, 0))) := ⟨(by rw [hw]; exact (aB BK209))⟩; have n2_ : zA (w193.heap[gb210]? = some (.cells #[.int .i64 0, .int .i64 0] 70 (0, 0))) := ⟨(by rw [hw]; exact (aB BK210))⟩; have n3_ : zA (w193.heap[gb211]? = some (.cells #[.int .i64 (wrap64 (t222 + ((rd_T70 l4 (ji64)).f0))), .int .i64 x18_1] 70 (0, 0))) := ⟨(by rw [hw]; exact (by (with_reducible repeat (first | refine zI ?_ _ | refine zF ?_ | refine zE ?_ _)); refine blk_put (cs := #[.int .i64 (wrap64 (t222 + ((rd_T70 l4 (ji64)).f0))), .int .i64 x212001_1]) ?_ 1 _ rfl; (with_reducible repeat (first | refine zI ?_ _ | refine zF ?_ | refine zE ?_ _)); refine blk_put (cs := #[.int .i64 x212000_1, .int .i64 x212001_1]) ?_ 0 _ rfl; (with_reducible repeat (first | refine zI ?_ _ | refine zF ?_ | refine zE ?_ _)); exact BK211.out))⟩; have n4_ : zA (w193.heap[gb213]? = some (.cells #[.int .i64 ((rd_T66 l0_0 (ji17)).f0), .int .i64 ((rd_T66 l0_0 (ji17)).f1), .int .i64 ((rd_T66 l0_0 (ji17)).f2), .int .u8 ((rd_T66 l0_0 (ji17)).f3)] 66 (0, 0))) := ⟨(by rw [hw]; exact (aB BK213))⟩; have n5_ : zA (w193.heap[gb219]? = some (.cells #[.int .i64 ((rd_T70 l4 (ji64)).f0), .int .i64 ((rd_T70 l4 (ji64)).f1)] 70 (0, 0))) := ⟨(by rw [hw]; exact (aB BK219))⟩; have n6_ : zA (Below w.heap.size w w193) := ⟨(by rw [hw]; exact (aL HB))⟩; clear hw; clear BK208; clear BK209; clear BK210; clear BK211; clear BK213; clear BK219; clear HB; have BK208 := n0_; have BK209 := n1_; have BK210 := n2_; have BK211 := n3_; have BK213 := n4_; have BK219 := n5_; have HB := n6_; clear n0_ n1_ n2_ n3_ n4_ n5_ n6_))
       go_roundg kj66
       case measure => have := HK1.out; have := HJ20.out; have := HJ40.out; have := HJ66.out; omega
       case rel => exact ⟨(t214), (x15_40), (x16_20), (x17_40), (wrap64 (x18_1 + 1)), (wrap64 (t222 + ((rd_T70 l4 (ji64)).f0))), (x18_1), aZ, aZ, aZ, aZ, aZ, H', ⟨by have := HK1.out; have := HJ20.out; have := HJ40.out; have := HJ66.out; omega⟩, ⟨aB BK208⟩, ⟨aB BK209⟩, ⟨aB BK210⟩, ⟨aB BK211⟩, ⟨aL HB⟩⟩
      rw [if_neg c173] at H; have c173b0 : decide (x212001_1 < 0) = false := decide_eq_false c173
      clear c173; by_cases c194 : (wrap64 (t222 + ((rd_T70 l4 (ji64)).f0))) < x212000_1
      rotate_left
      ·rw [if_neg c194] at H
       have c194b0 : decide ((wrap64 (t222 + ((rd_T70 l4 (ji64)).f0))) < x212000_1) = false := decide_eq_false c194
       clear c194; have H' := zA.mk H
       clear H; have hnb215 := NB208_209.out; have hnc215 := NB209_208.out; have hnb216 := NB208_210.out; have hnc216 := NB210_208.out; have hnb217 := NB208_211.out; have hnc217 := NB211_208.out; have hnb218 := NB208_213.out; have hnc218 := NB213_208.out; have hnb219 := NB208_219.out; have hnc219 := NB219_208.out; obtain ⟨hcz220_0, hcz220_1, hfz220_0, hfz220_1⟩ := aC2 BK208; have hnb221 := NB209_210.out; have hnc221 := NB210_209.out; have hnb222 := NB209_211.out; have hnc222 := NB211_209.out; have hnb223 := NB209_213.out; have hnc223 := NB213_209.out; have hnb224 := NB209_219.out; have hnc224 := NB219_209.out; obtain ⟨hcz225_0, hcz225_1, hcz225_2, hcz225_3, hcz225_4, hcz225_5, hfz225_0, hfz225_1, hfz225_2, hfz225_3, hfz225_4, hfz225_5⟩ := aC6 BK209; go_wp2_with (first | ((with_reducible refine gate_callee (f := 41) rfl ?_); refine goesL_ (some 102) rfl rfl Try.func41 (by kernel_rfl) rfl #[.agg #[.slice (some ad212) l0_0.length c0_0, .slice A0_1 l0_1.length c0_1], .int .i64 a1, .int .u8 t216, .int .i64 x15_40, .int .i64 x17_40, .bool (x18_1 == a3), .agg #[.int .i64 a5_0, .int .i64 a5_1, .int .u8 a5_2, .int .i64 a5_3, .int .i64 a5_4, .float .f64 a5_5]] rfl aT ?_; (with_reducible refine (best_price.calls kj66 _ _ l0_0 _ _ l0_1 a1 t216 x15_40 x17_40 (x18_1 == a3) a5_0 a5_1 a5_2 a5_3 a5_4 a5_5 t222 true _ ?side1 ?side2 ?side3 ?side4 A171.out).mono ?_); (case side1 => exact aA HR0_0 HB); (case side2 => exact HC0_0.out); (case side3 => exact aA HR0_1 HB); (case side4 => exact HC0_1.out); rintro e w226 ⟨rfl, hb⟩; refine ⟨_, rfl, ?_⟩; replace BK208 := zA.mk (zC (aB BK208) hb); replace BK209 := zA.mk (zC (aB BK209) hb); replace BK210 := zA.mk (zC (aB BK210) hb); replace BK211 := zA.mk (zC (aB BK211) hb); replace BK213 := zA.mk (zC (aB BK213) hb); replace BK219 := zA.mk (zC (aB BK219) hb); replace HB := zA.mk (zD (aL HB) hb); (try clear hb); (try clear hb2); (try clear hk); (try clear hi); have hnb227 := NB211_210.out; have hnc227 := NB210_211.out; have hnb228 := NB211_213.out; have hnc228 := NB213_211.out; have hnb229 := NB211_219.out; have hnc229 := NB219_211.out; obtain ⟨hcz230_0, hcz230_1, hfz230_0, hfz230_1⟩ := aC2 BK211; have hnb231 := NB219_210.out; have hnc231 := NB210_219.out; have hnb232 := NB219_213.out; have hnc232 := NB213_219.out; obtain ⟨hcz233_0, hcz233_1, hfz233_0, hfz233_1⟩ := aC2 BK219))
       go_roundg kj66
       case measure => have := HK1.out; have := HJ20.out; have := HJ40.out; have := HJ66.out; omega
       case rel => exact ⟨(t214), (x15_40), (x16_20), (x17_40), (wrap64 (x18_1 + 1)), (x212000_1), (x212001_1), aZ, aZ, aZ, aZ, aZ, H', ⟨by have := HK1.out; have := HJ20.out; have := HJ40.out; have := HJ66.out; omega⟩, ⟨aB BK208⟩, ⟨aB BK209⟩, ⟨aB BK210⟩, ⟨aB BK211⟩, ⟨aL HB⟩⟩
      rw [if_pos c194] at H; have c194b0 : decide ((wrap64 (t222 + ((rd_T70 l4 (ji64)).f0))) < x212000_1) = true := decide_eq_true c194
      clear c194; have H' := zA.mk H
      clear H; have hnb195 := NB208_209.out; have hnc195 := NB209_208.out; have hnb196 := NB208_210.out; have hnc196 := NB210_208.out; have hnb197 := NB208_211.out; have hnc197 := NB211_208.out; have hnb198 := NB208_213.out; have hnc198 := NB213_208.out; have hnb199 := NB208_219.out; have hnc199 := NB219_208.out; obtain ⟨hcz200_0, hcz200_1, hfz200_0, hfz200_1⟩ := aC2 BK208; have hnb201 := NB209_210.out; have hnc201 := NB210_209.out; have hnb202 := NB209_211.out; have hnc202 := NB211_209.out; have hnb203 := NB209_213.out; have hnc203 := NB213_209.out; have hnb204 := NB209_219.out; have hnc204 := NB219_209.out; obtain ⟨hcz205_0, hcz205_1, hcz205_2, hcz205_3, hcz205_4, hcz205_5, hfz205_0, hfz205_1, hfz205_2, hfz205_3, hfz205_4, hfz205_5⟩ := aC6 BK209; go_wp2_with (first | ((with_reducible refine gate_callee (f := 41) rfl ?_); refine goesL_ (some 102) rfl rfl Try.func41 (by kernel_rfl) rfl #[.agg #[.slice (some ad212) l0_0.length c0_0, .slice A0_1 l0_1.length c0_1], .int .i64 a1, .int .u8 t216, .int .i64 x15_40, .int .i64 x17_40, .bool (x18_1 == a3), .agg #[.int .i64 a5_0, .int .i64 a5_1, .int .u8 a5_2, .int .i64 a5_3, .int .i64 a5_4, .float .f64 a5_5]] rfl aT ?_; (with_reducible refine (best_price.calls kj66 _ _ l0_0 _ _ l0_1 a1 t216 x15_40 x17_40 (x18_1 == a3) a5_0 a5_1 a5_2 a5_3 a5_4 a5_5 t222 true _ ?side1 ?side2 ?side3 ?side4 A171.out).mono ?_); (case side1 => exact aA HR0_0 HB); (case side2 => exact HC0_0.out); (case side3 => exact aA HR0_1 HB); (case side4 => exact HC0_1.out); rintro e w206 ⟨rfl, hb⟩; refine ⟨_, rfl, ?_⟩; replace BK208 := zA.mk (zC (aB BK208) hb); replace BK209 := zA.mk (zC (aB BK209) hb); replace BK210 := zA.mk (zC (aB BK210) hb); replace BK211 := zA.mk (zC (aB BK211) hb); replace BK213 := zA.mk (zC (aB BK213) hb); replace BK219 := zA.mk (zC (aB BK219) hb); replace HB := zA.mk (zD (aL HB) hb); (try clear hb); (try clear hb2); (try clear hk); (try clear hi); have hnb207 := NB211_210.out; have hnc207 := NB210_211.out; have hnb208 := NB211_213.out; have hnc208 := NB213_211.out; have hnb209 := NB211_219.out; have hnc209 := NB219_211.out; obtain ⟨hcz210_0, hcz210_1, hfz210_0, hfz210_1⟩ := aC2 BK211; have hnb211 := NB219_210.out; have hnc211 := NB210_219.out; have hnb212 := NB219_213.out; have hnc212 := NB213_219.out; obtain ⟨hcz213_0, hcz213_1, hfz213_0, hfz213_1⟩ := aC2 BK219) | ((with_reducible refine gate_store (t := 70) (p := 13) rfl ?_); refine store_event (t := 70) (p := 13) (v := ?vo_w214) (w1 := ((w206.setCell ⟨gb211, 0, none⟩ (.int .i64 (wrap64 (t222 + ((rd_T70 l4 (ji64)).f0))))).setCell ⟨gb211, 1, none⟩ (.int .i64 x18_1))) ?hg ?ho ?hn ?hr ?_; (case ho => rfl); (case hg => rfl); (case hn => rfl); (case hr => first | (go_simp; done) | (go_simp; rfl)); intro w214 hw; have n0_ : zA (w214.heap[gb208]? = some (.cells #[.slice (some ad212) l0_0.length c0_0, .slice A0_1 l0_1.length c0_1] 31 (0, 0))) := ⟨(by rw [hw]; exact (aB BK208))⟩; have n1_ : zA (w214.heap[gb209]? = some (.cells #[.int .i64 a5_0, .int .i64 a5_1, .int .u8 a5_2, .int .i64 a5_3, .int .i64 a5_4, .float .f64 a5_5] 35 (0, 0))) := ⟨(by rw [hw]; exact (aB BK209))⟩; have n2_ : zA (w214.heap[gb210]? = some (.cells #[.int .i64 0, .int .i64 0] 70 (0, 0))) := ⟨(by rw [hw]; exact (aB BK210))⟩; have n3_ : zA (w214.heap[gb211]? = some (.cells #[.int .i64 (wrap64 (t222 + ((rd_T70 l4 (ji64)).f0))), .int .i64 x18_1] 70 (0, 0))) := ⟨(by rw [hw]; exact (by (with_reducible repeat (first | refine zI ?_ _ | refine zF ?_ | refine zE ?_ _)); refine blk_put (cs := #[.int .i64 (wrap64 (t222 + ((rd_T70 l4 (ji64)).f0))), .int .i64 x212001_1]) ?_ 1 _ rfl; (with_reducible repeat (first | refine zI ?_ _ | refine zF ?_ | refine zE ?_ _)); refine blk_put (cs := #[.int .i64 x212000_1, .int .i64 x212001_1]) ?_ 0 _ rfl; (with_reducible repeat (first | refine zI ?_ _ | refine zF ?_ | refine zE ?_ _)); exact BK211.out))⟩; have n4_ : zA (w214.heap[gb213]? = some (.cells #[.int .i64 ((rd_T66 l0_0 (ji17)).f0), .int .i64 ((rd_T66 l0_0 (ji17)).f1), .int .i64 ((rd_T66 l0_0 (ji17)).f2), .int .u8 ((rd_T66 l0_0 (ji17)).f3)] 66 (0, 0))) := ⟨(by rw [hw]; exact (aB BK213))⟩; have n5_ : zA (w214.heap[gb219]? = some (.cells #[.int .i64 ((rd_T70 l4 (ji64)).f0), .int .i64 ((rd_T70 l4 (ji64)).f1)] 70 (0, 0))) := ⟨(by rw [hw]; exact (aB BK219))⟩; have n6_ : zA (Below w.heap.size w w214) := ⟨(by rw [hw]; exact (aL HB))⟩; clear hw; clear BK208; clear BK209; clear BK210; clear BK211; clear BK213; clear BK219; clear HB; have BK208 := n0_; have BK209 := n1_; have BK210 := n2_; have BK211 := n3_; have BK213 := n4_; have BK219 := n5_; have HB := n6_; clear n0_ n1_ n2_ n3_ n4_ n5_ n6_))
      go_roundg kj66
      case measure => have := HK1.out; have := HJ20.out; have := HJ40.out; have := HJ66.out; omega
      case rel => exact ⟨(t214), (x15_40), (x16_20), (x17_40), (wrap64 (x18_1 + 1)), (wrap64 (t222 + ((rd_T70 l4 (ji64)).f0))), (x18_1), aZ, aZ, aZ, aZ, aZ, H', ⟨by have := HK1.out; have := HJ20.out; have := HJ40.out; have := HJ66.out; omega⟩, ⟨aB BK208⟩, ⟨aB BK209⟩, ⟨aB BK210⟩, ⟨aB BK211⟩, ⟨aL HB⟩⟩
     rw [if_pos c95] at H; have c95b0 : (t216 == 3) = true := beq_iff_eq.mpr c95
     have c95b1 : (t216 != 3) = false := bne_eq_false_iff_eq.mpr c95
     clear c95; replace H := Option.bind_eq_some_iff.mp H; obtain ⟨⟨t220, t221⟩, A960, H⟩ := H; replace H : (if t221 = true then (if x212001_1 < 0 then (best_next.l0 kj66 a1 a2 a3 l4 t214 x15_40 x16_20 x17_40 (wrap64 (x18_1 + 1)) l0_0 l0_1 a5_0 a5_1 a5_2 a5_3 a5_4 a5_5 (wrap64 (t220 + ((rd_T70 l4 (ji64)).f0))) x18_1) else (if (wrap64 (t220 + ((rd_T70 l4 (ji64)).f0))) < x212000_1 then (best_next.l0 kj66 a1 a2 a3 l4 t214 x15_40 x16_20 x17_40 (wrap64 (x18_1 + 1)) l0_0 l0_1 a5_0 a5_1 a5_2 a5_3 a5_4 a5_5 (wrap64 (t220 + ((rd_T70 l4 (ji64)).f0))) x18_1) else (best_next.l0 kj66 a1 a2 a3 l4 t214 x15_40 x16_20 x17_40 (wrap64 (x18_1 + 1)) l0_0 l0_1 a5_0 a5_1 a5_2 a5_3 a5_4 a5_5 x212000_1 x212001_1))) else (best_next.l0 kj66 a1 a2 a3 l4 t214 x15_40 x16_20 x17_40 (wrap64 (x18_1 + 1)) l0_0 l0_1 a5_0 a5_1 a5_2 a5_3 a5_4 a5_5 x212000_1 x212001_1)) = some (r1, r2) := H; have A96 := zA.mk A960; clear A960; by_cases c97 : t221 = true
     rotate_left
     ·replace c97 := Bool.eq_false_iff.mpr c97
      subst c97; have H1 : (best_next.l0 kj66 a1 a2 a3 l4 t214 x15_40 x16_20 x17_40 (wrap64 (x18_1 + 1)) l0_0 l0_1 a5_0 a5_1 a5_2 a5_3 a5_4 a5_5 x212000_1 x212001_1) = some (r1, r2) := by rw [if_neg (show ¬ (false = true) by decide)] at H; exact H
      clear H; have H := H1; clear H1; have H' := zA.mk H
      clear H; have hnb159 := NB208_209.out; have hnc159 := NB209_208.out; have hnb160 := NB208_210.out; have hnc160 := NB210_208.out; have hnb161 := NB208_211.out; have hnc161 := NB211_208.out; have hnb162 := NB208_213.out; have hnc162 := NB213_208.out; have hnb163 := NB208_219.out; have hnc163 := NB219_208.out; obtain ⟨hcz164_0, hcz164_1, hfz164_0, hfz164_1⟩ := aC2 BK208; have hnb165 := NB209_210.out; have hnc165 := NB210_209.out; have hnb166 := NB209_211.out; have hnc166 := NB211_209.out; have hnb167 := NB209_213.out; have hnc167 := NB213_209.out; have hnb168 := NB209_219.out; have hnc168 := NB219_209.out; obtain ⟨hcz169_0, hcz169_1, hcz169_2, hcz169_3, hcz169_4, hcz169_5, hfz169_0, hfz169_1, hfz169_2, hfz169_3, hfz169_4, hfz169_5⟩ := aC6 BK209; go_wp2_with (first | ((with_reducible refine gate_callee (f := 41) rfl ?_); refine goesL_ (some 102) rfl rfl Try.func41 (by kernel_rfl) rfl #[.agg #[.slice (some ad212) l0_0.length c0_0, .slice A0_1 l0_1.length c0_1], .int .i64 a1, .int .u8 t216, .int .i64 (wrap64 (x15_40 + 1)), .int .i64 x17_40, .bool (x18_1 == a3), .agg #[.int .i64 a5_0, .int .i64 a5_1, .int .u8 a5_2, .int .i64 a5_3, .int .i64 a5_4, .float .f64 a5_5]] rfl aT ?_; (with_reducible refine (best_price.calls kj66 _ _ l0_0 _ _ l0_1 a1 t216 (wrap64 (x15_40 + 1)) x17_40 (x18_1 == a3) a5_0 a5_1 a5_2 a5_3 a5_4 a5_5 t220 false _ ?side1 ?side2 ?side3 ?side4 A96.out).mono ?_); (case side1 => exact aA HR0_0 HB); (case side2 => exact HC0_0.out); (case side3 => exact aA HR0_1 HB); (case side4 => exact HC0_1.out); rintro e w170 ⟨rfl, hb⟩; refine ⟨_, rfl, ?_⟩; replace BK208 := zA.mk (zC (aB BK208) hb); replace BK209 := zA.mk (zC (aB BK209) hb); replace BK210 := zA.mk (zC (aB BK210) hb); replace BK211 := zA.mk (zC (aB BK211) hb); replace BK213 := zA.mk (zC (aB BK213) hb); replace BK219 := zA.mk (zC (aB BK219) hb); replace HB := zA.mk (zD (aL HB) hb); (try clear hb); (try clear hb2); (try clear hk); (try clear hi)))
      go_roundg kj66
      case measure => have := HK1.out; have := HJ20.out; have := HJ40.out; have := HJ66.out; omega
      case rel => exact ⟨(t214), (x15_40), (x16_20), (x17_40), (wrap64 (x18_1 + 1)), (x212000_1), (x212001_1), aZ, aZ, aZ, aZ, aZ, H', ⟨by have := HK1.out; have := HJ20.out; have := HJ40.out; have := HJ66.out; omega⟩, ⟨aB BK208⟩, ⟨aB BK209⟩, ⟨aB BK210⟩, ⟨aB BK211⟩, ⟨aL HB⟩⟩
     subst c97; have H1 : (if x212001_1 < 0 then (best_next.l0 kj66 a1 a2 a3 l4 t214 x15_40 x16_20 x17_40 (wrap64 (x18_1 + 1)) l0_0 l0_1 a5_0 a5_1 a5_2 a5_3 a5_4 a5_5 (wrap64 (t220 + ((rd_T70 l4 (ji64)).f0))) x18_1) else (if (wrap64 (t220 + ((rd_T70 l4 (ji64)).f0))) < x212000_1 then (best_next.l0 kj66 a1 a2 a3 l4 t214 x15_40 x16_20 x17_40 (wrap64 (x18_1 + 1)) l0_0 l0_1 a5_0 a5_1 a5_2 a5_3 a5_4 a5_5 (wrap64 (t220 + ((rd_T70 l4 (ji64)).f0))) x18_1) else (best_next.l0 kj66 a1 a2 a3 l4 t214 x15_40 x16_20 x17_40 (wrap64 (x18_1 + 1)) l0_0 l0_1 a5_0 a5_1 a5_2 a5_3 a5_4 a5_5 x212000_1 x212001_1))) = some (r1, r2) := by rw [if_pos rfl] at H; exact H
     clear H; have H := H1; clear H1; by_cases c98 : x212001_1 < 0
     ·rw [if_pos c98] at H
      have c98b0 : decide (x212001_1 < 0) = true := decide_eq_true c98
      clear c98; have H' := zA.mk H
      clear H; have hnb99 := NB208_209.out; have hnc99 := NB209_208.out; have hnb100 := NB208_210.out; have hnc100 := NB210_208.out; have hnb101 := NB208_211.out; have hnc101 := NB211_208.out; have hnb102 := NB208_213.out; have hnc102 := NB213_208.out; have hnb103 := NB208_219.out; have hnc103 := NB219_208.out; obtain ⟨hcz104_0, hcz104_1, hfz104_0, hfz104_1⟩ := aC2 BK208; have hnb105 := NB209_210.out; have hnc105 := NB210_209.out; have hnb106 := NB209_211.out; have hnc106 := NB211_209.out; have hnb107 := NB209_213.out; have hnc107 := NB213_209.out; have hnb108 := NB209_219.out; have hnc108 := NB219_209.out; obtain ⟨hcz109_0, hcz109_1, hcz109_2, hcz109_3, hcz109_4, hcz109_5, hfz109_0, hfz109_1, hfz109_2, hfz109_3, hfz109_4, hfz109_5⟩ := aC6 BK209; go_wp2_with (first | ((with_reducible refine gate_callee (f := 41) rfl ?_); refine goesL_ (some 102) rfl rfl Try.func41 (by kernel_rfl) rfl #[.agg #[.slice (some ad212) l0_0.length c0_0, .slice A0_1 l0_1.length c0_1], .int .i64 a1, .int .u8 t216, .int .i64 (wrap64 (x15_40 + 1)), .int .i64 x17_40, .bool (x18_1 == a3), .agg #[.int .i64 a5_0, .int .i64 a5_1, .int .u8 a5_2, .int .i64 a5_3, .int .i64 a5_4, .float .f64 a5_5]] rfl aT ?_; (with_reducible refine (best_price.calls kj66 _ _ l0_0 _ _ l0_1 a1 t216 (wrap64 (x15_40 + 1)) x17_40 (x18_1 == a3) a5_0 a5_1 a5_2 a5_3 a5_4 a5_5 t220 true _ ?side1 ?side2 ?side3 ?side4 A96.out).mono ?_); (case side1 => exact aA HR0_0 HB); (case side2 => exact HC0_0.out); (case side3 => exact aA HR0_1 HB); (case side4 => exact HC0_1.out); rintro e w110 ⟨rfl, hb⟩; refine ⟨_, rfl, ?_⟩; replace BK208 := zA.mk (zC (aB BK208) hb); replace BK209 := zA.mk (zC (aB BK209) hb); replace BK210 := zA.mk (zC (aB BK210) hb); replace BK211 := zA.mk (zC (aB BK211) hb); replace BK213 := zA.mk (zC (aB BK213) hb); replace BK219 := zA.mk (zC (aB BK219) hb); replace HB := zA.mk (zD (aL HB) hb); (try clear hb); (try clear hb2); (try clear hk); (try clear hi); have hnb111 := NB211_210.out; have hnc111 := NB210_211.out; have hnb112 := NB211_213.out; have hnc112 := NB213_211.out; have hnb113 := NB211_219.out; have hnc113 := NB219_211.out; obtain ⟨hcz114_0, hcz114_1, hfz114_0, hfz114_1⟩ := aC2 BK211; have hnb115 := NB219_210.out; have hnc115 := NB210_219.out; have hnb116 := NB219_213.out; have hnc116 := NB213_219.out; obtain ⟨hcz117_0, hcz117_1, hfz117_0, hfz117_1⟩ := aC2 BK219) | ((with_reducible refine gate_store (t := 70) (p := 13) rfl ?_); refine store_event (t := 70) (p := 13) (v := ?vo_w118) (w1 := ((w110.setCell ⟨gb211, 0, none⟩ (.int .i64 (wrap64 (t220 + ((rd_T70 l4 (ji64)).f0))))).setCell ⟨gb211, 1, none⟩ (.int .i64 x18_1))) ?hg ?ho ?hn ?hr ?_; (case ho => rfl); (case hg => rfl); (case hn => rfl); (case hr => first | (go_simp; done) | (go_simp; rfl)); intro w118 hw; have n0_ : zA (w118.heap[gb208]? = some (.cells #[.slice (some ad212) l0_0.length c0_0, .slice A0_1 l0_1.length c0_1] 31 (0, 0))) := ⟨(by rw [hw]; exact (aB BK208))⟩; have n1_ : zA (w118.heap[gb209]? = some (.cells #[.int .i64 a5_0, .int .i64 a5_1, .int .u8 a5_2, .int .i64 a5_3, .int .i64 a5_4, .float .f64 a5_5] 35 (0, 0))) := ⟨(by rw [hw]; exact (aB BK209))⟩; have n2_ : zA (w118.heap[gb210]? = some (.cells #[.int .i64 0, .int .i64 0] 70 (0, 0))) := ⟨(by rw [hw]; exact (aB BK210))⟩; have n3_ : zA (w118.heap[gb211]? = some (.cells #[.int .i64 (wrap64 (t220 + ((rd_T70 l4 (ji64)).f0))), .int .i64 x18_1] 70 (0, 0))) := ⟨(by rw [hw]; exact (by (with_reducible repeat (first | refine zI ?_ _ | refine zF ?_ | refine zE ?_ _)); refine blk_put (cs := #[.int .i64 (wrap64 (t220 + ((rd_T70 l4 (ji64)).f0))), .int .i64 x212001_1]) ?_ 1 _ rfl; (with_reducible repeat (first | refine zI ?_ _ | refine zF ?_ | refine zE ?_ _)); refine blk_put (cs := #[.int .i64 x212000_1, .int .i64 x212001_1]) ?_ 0 _ rfl; (with_reducible repeat (first | refine zI ?_ _ | refine zF ?_ | refine zE ?_ _)); exact BK211.out))⟩; have n4_ : zA (w118.heap[gb213]? = some (.cells #[.int .i64 ((rd_T66 l0_0 (ji17)).f0), .int .i64 ((rd_T66 l0_0 (ji17)).f1), .int .i64 ((rd_T66 l0_0 (ji17)).f2), .int .u8 ((rd_T66 l0_0 (ji17)).f3)] 66 (0, 0))) := ⟨(by rw [hw]; exact (aB BK213))⟩; have n5_ : zA (w118.heap[gb219]? = some (.cells #[.int .i64 ((rd_T70 l4 (ji64)).f0), .int .i64 ((rd_T70 l4 (ji64)).f1)] 70 (0, 0))) := ⟨(by rw [hw]; exact (aB BK219))⟩; have n6_ : zA (Below w.heap.size w w118) := ⟨(by rw [hw]; exact (aL HB))⟩; clear hw; clear BK208; clear BK209; clear BK210; clear BK211; clear BK213; clear BK219; clear HB; have BK208 := n0_; have BK209 := n1_; have BK210 := n2_; have BK211 := n3_; have BK213 := n4_; have BK219 := n5_; have HB := n6_; clear n0_ n1_ n2_ n3_ n4_ n5_ n6_))
      go_roundg kj66
      case measure => have := HK1.out; have := HJ20.out; have := HJ40.out; have := HJ66.out; omega
      case rel => exact ⟨(t214), (x15_40), (x16_20), (x17_40), (wrap64 (x18_1 + 1)), (wrap64 (t220 + ((rd_T70 l4 (ji64)).f0))), (x18_1), aZ, aZ, aZ, aZ, aZ, H', ⟨by have := HK1.out; have := HJ20.out; have := HJ40.out; have := HJ66.out; omega⟩, ⟨aB BK208⟩, ⟨aB BK209⟩, ⟨aB BK210⟩, ⟨aB BK211⟩, ⟨aL HB⟩⟩
     rw [if_neg c98] at H; have c98b0 : decide (x212001_1 < 0) = false := decide_eq_false c98
     clear c98; by_cases c119 : (wrap64 (t220 + ((rd_T70 l4 (ji64)).f0))) < x212000_1
     rotate_left
     ·rw [if_neg c119] at H
      have c119b0 : decide ((wrap64 (t220 + ((rd_T70 l4 (ji64)).f0))) < x212000_1) = false := decide_eq_false c119
      clear c119; have H' := zA.mk H
      clear H; have hnb140 := NB208_209.out; have hnc140 := NB209_208.out; have hnb141 := NB208_210.out; have hnc141 := NB210_208.out; have hnb142 := NB208_211.out; have hnc142 := NB211_208.out; have hnb143 := NB208_213.out; have hnc143 := NB213_208.out; have hnb144 := NB208_219.out; have hnc144 := NB219_208.out; obtain ⟨hcz145_0, hcz145_1, hfz145_0, hfz145_1⟩ := aC2 BK208; have hnb146 := NB209_210.out; have hnc146 := NB210_209.out; have hnb147 := NB209_211.out; have hnc147 := NB211_209.out; have hnb148 := NB209_213.out; have hnc148 := NB213_209.out; have hnb149 := NB209_219.out; have hnc149 := NB219_209.out; obtain ⟨hcz150_0, hcz150_1, hcz150_2, hcz150_3, hcz150_4, hcz150_5, hfz150_0, hfz150_1, hfz150_2, hfz150_3, hfz150_4, hfz150_5⟩ := aC6 BK209; go_wp2_with (first | ((with_reducible refine gate_callee (f := 41) rfl ?_); refine goesL_ (some 102) rfl rfl Try.func41 (by kernel_rfl) rfl #[.agg #[.slice (some ad212) l0_0.length c0_0, .slice A0_1 l0_1.length c0_1], .int .i64 a1, .int .u8 t216, .int .i64 (wrap64 (x15_40 + 1)), .int .i64 x17_40, .bool (x18_1 == a3), .agg #[.int .i64 a5_0, .int .i64 a5_1, .int .u8 a5_2, .int .i64 a5_3, .int .i64 a5_4, .float .f64 a5_5]] rfl aT ?_; (with_reducible refine (best_price.calls kj66 _ _ l0_0 _ _ l0_1 a1 t216 (wrap64 (x15_40 + 1)) x17_40 (x18_1 == a3) a5_0 a5_1 a5_2 a5_3 a5_4 a5_5 t220 true _ ?side1 ?side2 ?side3 ?side4 A96.out).mono ?_); (case side1 => exact aA HR0_0 HB); (case side2 => exact HC0_0.out); (case side3 => exact aA HR0_1 HB); (case side4 => exact HC0_1.out); rintro e w151 ⟨rfl, hb⟩; refine ⟨_, rfl, ?_⟩; replace BK208 := zA.mk (zC (aB BK208) hb); replace BK209 := zA.mk (zC (aB BK209) hb); replace BK210 := zA.mk (zC (aB BK210) hb); replace BK211 := zA.mk (zC (aB BK211) hb); replace BK213 := zA.mk (zC (aB BK213) hb); replace BK219 := zA.mk (zC (aB BK219) hb); replace HB := zA.mk (zD (aL HB) hb); (try clear hb); (try clear hb2); (try clear hk); (try clear hi); have hnb152 := NB211_210.out; have hnc152 := NB210_211.out; have hnb153 := NB211_213.out; have hnc153 := NB213_211.out; have hnb154 := NB211_219.out; have hnc154 := NB219_211.out; obtain ⟨hcz155_0, hcz155_1, hfz155_0, hfz155_1⟩ := aC2 BK211; have hnb156 := NB219_210.out; have hnc156 := NB210_219.out; have hnb157 := NB219_213.out; have hnc157 := NB213_219.out; obtain ⟨hcz158_0, hcz158_1, hfz158_0, hfz158_1⟩ := aC2 BK219))
      go_roundg kj66
      case measure => have := HK1.out; have := HJ20.out; have := HJ40.out; have := HJ66.out; omega
      case rel => exact ⟨(t214), (x15_40), (x16_20), (x17_40), (wrap64 (x18_1 + 1)), (x212000_1), (x212001_1), aZ, aZ, aZ, aZ, aZ, H', ⟨by have := HK1.out; have := HJ20.out; have := HJ40.out; have := HJ66.out; omega⟩, ⟨aB BK208⟩, ⟨aB BK209⟩, ⟨aB BK210⟩, ⟨aB BK211⟩, ⟨aL HB⟩⟩
     rw [if_pos c119] at H; have c119b0 : decide ((wrap64 (t220 + ((rd_T70 l4 (ji64)).f0))) < x212000_1) = true := decide_eq_true c119
     clear c119; have H' := zA.mk H
     clear H; have hnb120 := NB208_209.out; have hnc120 := NB209_208.out; have hnb121 := NB208_210.out; have hnc121 := NB210_208.out; have hnb122 := NB208_211.out; have hnc122 := NB211_208.out; have hnb123 := NB208_213.out; have hnc123 := NB213_208.out; have hnb124 := NB208_219.out; have hnc124 := NB219_208.out; obtain ⟨hcz125_0, hcz125_1, hfz125_0, hfz125_1⟩ := aC2 BK208; have hnb126 := NB209_210.out; have hnc126 := NB210_209.out; have hnb127 := NB209_211.out; have hnc127 := NB211_209.out; have hnb128 := NB209_213.out; have hnc128 := NB213_209.out; have hnb129 := NB209_219.out; have hnc129 := NB219_209.out; obtain ⟨hcz130_0, hcz130_1, hcz130_2, hcz130_3, hcz130_4, hcz130_5, hfz130_0, hfz130_1, hfz130_2, hfz130_3, hfz130_4, hfz130_5⟩ := aC6 BK209; go_wp2_with (first | ((with_reducible refine gate_callee (f := 41) rfl ?_); refine goesL_ (some 102) rfl rfl Try.func41 (by kernel_rfl) rfl #[.agg #[.slice (some ad212) l0_0.length c0_0, .slice A0_1 l0_1.length c0_1], .int .i64 a1, .int .u8 t216, .int .i64 (wrap64 (x15_40 + 1)), .int .i64 x17_40, .bool (x18_1 == a3), .agg #[.int .i64 a5_0, .int .i64 a5_1, .int .u8 a5_2, .int .i64 a5_3, .int .i64 a5_4, .float .f64 a5_5]] rfl aT ?_; (with_reducible refine (best_price.calls kj66 _ _ l0_0 _ _ l0_1 a1 t216 (wrap64 (x15_40 + 1)) x17_40 (x18_1 == a3) a5_0 a5_1 a5_2 a5_3 a5_4 a5_5 t220 true _ ?side1 ?side2 ?side3 ?side4 A96.out).mono ?_); (case side1 => exact aA HR0_0 HB); (case side2 => exact HC0_0.out); (case side3 => exact aA HR0_1 HB); (case side4 => exact HC0_1.out); rintro e w131 ⟨rfl, hb⟩; refine ⟨_, rfl, ?_⟩; replace BK208 := zA.mk (zC (aB BK208) hb); replace BK209 := zA.mk (zC (aB BK209) hb); replace BK210 := zA.mk (zC (aB BK210) hb); replace BK211 := zA.mk (zC (aB BK211) hb); replace BK213 := zA.mk (zC (aB BK213) hb); replace BK219 := zA.mk (zC (aB BK219) hb); replace HB := zA.mk (zD (aL HB) hb); (try clear hb); (try clear hb2); (try clear hk); (try clear hi); have hnb132 := NB211_210.out; have hnc132 := NB210_211.out; have hnb133 := NB211_213.out; have hnc133 := NB213_211.out; have hnb134 := NB211_219.out; have hnc134 := NB219_211.out; obtain ⟨hcz135_0, hcz135_1, hfz135_0, hfz135_1⟩ := aC2 BK211; have hnb136 := NB219_210.out; have hnc136 := NB210_219.out; have hnb137 := NB219_213.out; have hnc137 := NB213_219.out; obtain ⟨hcz138_0, hcz138_1, hfz138_0, hfz138_1⟩ := aC2 BK219) | ((with_reducible refine gate_store (t := 70) (p := 13) rfl ?_); refine store_event (t := 70) (p := 13) (v := ?vo_w139) (w1 := ((w131.setCell ⟨gb211, 0, none⟩ (.int .i64 (wrap64 (t220 + ((rd_T70 l4 (ji64)).f0))))).setCell ⟨gb211, 1, none⟩ (.int .i64 x18_1))) ?hg ?ho ?hn ?hr ?_; (case ho => rfl); (case hg => rfl); (case hn => rfl); (case hr => first | (go_simp; done) | (go_simp; rfl)); intro w139 hw; have n0_ : zA (w139.heap[gb208]? = some (.cells #[.slice (some ad212) l0_0.length c0_0, .slice A0_1 l0_1.length c0_1] 31 (0, 0))) := ⟨(by rw [hw]; exact (aB BK208))⟩; have n1_ : zA (w139.heap[gb209]? = some (.cells #[.int .i64 a5_0, .int .i64 a5_1, .int .u8 a5_2, .int .i64 a5_3, .int .i64 a5_4, .float .f64 a5_5] 35 (0, 0))) := ⟨(by rw [hw]; exact (aB BK209))⟩; have n2_ : zA (w139.heap[gb210]? = some (.cells #[.int .i64 0, .int .i64 0] 70 (0, 0))) := ⟨(by rw [hw]; exact (aB BK210))⟩; have n3_ : zA (w139.heap[gb211]? = some (.cells #[.int .i64 (wrap64 (t220 + ((rd_T70 l4 (ji64)).f0))), .int .i64 x18_1] 70 (0, 0))) := ⟨(by rw [hw]; exact (by (with_reducible repeat (first | refine zI ?_ _ | refine zF ?_ | refine zE ?_ _)); refine blk_put (cs := #[.int .i64 (wrap64 (t220 + ((rd_T70 l4 (ji64)).f0))), .int .i64 x212001_1]) ?_ 1 _ rfl; (with_reducible repeat (first | refine zI ?_ _ | refine zF ?_ | refine zE ?_ _)); refine blk_put (cs := #[.int .i64 x212000_1, .int .i64 x212001_1]) ?_ 0 _ rfl; (with_reducible repeat (first | refine zI ?_ _ | refine zF ?_ | refine zE ?_ _)); exact BK211.out))⟩; have n4_ : zA (w139.heap[gb213]? = some (.cells #[.int .i64 ((rd_T66 l0_0 (ji17)).f0), .int .i64 ((rd_T66 l0_0 (ji17)).f1), .int .i64 ((rd_T66 l0_0 (ji17)).f2), .int .u8 ((rd_T66 l0_0 (ji17)).f3)] 66 (0, 0))) := ⟨(by rw [hw]; exact (aB BK213))⟩; have n5_ : zA (w139.heap[gb219]? = some (.cells #[.int .i64 ((rd_T70 l4 (ji64)).f0), .int .i64 ((rd_T70 l4 (ji64)).f1)] 70 (0, 0))) := ⟨(by rw [hw]; exact (aB BK219))⟩; have n6_ : zA (Below w.heap.size w w139) := ⟨(by rw [hw]; exact (aL HB))⟩; clear hw; clear BK208; clear BK209; clear BK210; clear BK211; clear BK213; clear BK219; clear HB; have BK208 := n0_; have BK209 := n1_; have BK210 := n2_; have BK211 := n3_; have BK213 := n4_; have BK219 := n5_; have HB := n6_; clear n0_ n1_ n2_ n3_ n4_ n5_ n6_))
     go_roundg kj66
     case measure => have := HK1.out; have := HJ20.out; have := HJ40.out; have := HJ66.out; omega
     case rel => exact ⟨(t214), (x15_40), (x16_20), (x17_40), (wrap64 (x18_1 + 1)), (wrap64 (t220 + ((rd_T70 l4 (ji64)).f0))), (x18_1), aZ, aZ, aZ, aZ, aZ, H', ⟨by have := HK1.out; have := HJ20.out; have := HJ40.out; have := HJ66.out; omega⟩, ⟨aB BK208⟩, ⟨aB BK209⟩, ⟨aB BK210⟩, ⟨aB BK211⟩, ⟨aL HB⟩⟩
mutual
def best_Break.l0 : Nat → Int → Int → List (S70) → Int → List (S66) → List Int → Int → Int → Int → Int → Int → Nat → Option ((List (S54)) × Bool)
 | 0, _, _, _, _, _, _, _, _, _, _, _, _ => none
 | k + 1, x1, x2, x10, x11, x225000, x225001, x226000, x226001, x226002, x226003, x226004, x226005 => if x11 ≥ x1 then (if 0 ≤ (wrap64 (x11 - x1)) then (if (wrap64 (x11 - x1)) < (x10.length : Int) then ((some (x10.set ((wrap64 (x11 - x1)) : Int).toNat (⟨0, (-1)⟩ : S70) : List (S70))).bind fun y229 => (if x11 = x1 then ((best_next.f k x225000 x225001 x11 x1 x2 y229 x226000 x226001 x226002 x226003 x226004 x226005).bind fun bt230 => (best_Break.l0 k x1 x2 (y229.set ((wrap64 (x11 - x1)) : Int).toNat (⟨bt230.1, bt230.2⟩ : S70)) (wrap64 (x11 - 1)) x225000 x225001 x226000 x226001 x226002 x226003 x226004 x226005)) else (if 0 ≤ x11 then (if x11 < (x225001.length : Int) then (if (rd x225001 x11) = 0 then (best_Break.l0 k x1 x2 y229 (wrap64 (x11 - 1)) x225000 x225001 x226000 x226001 x226002 x226003 x226004 x226005) else ((best_next.f k x225000 x225001 x11 x1 x2 y229 x226000 x226001 x226002 x226003 x226004 x226005).bind fun bt234 => (best_Break.l0 k x1 x2 (y229.set ((wrap64 (x11 - x1)) : Int).toNat (⟨bt234.1, bt234.2⟩ : S70)) (wrap64 (x11 - 1)) x225000 x225001 x226000 x226001 x226002 x226003 x226004 x226005))) else (none)) else (none)))) else (none)) else (none)) else (if 0 < (x10.length : Int) then (if ((rd_T70 x10 0).f1) < 0 then (some (([] : List (S54)), false)) else (best_Break.l1 k x1 x2 x10 ([] : List (S54)) x1 x225000 x225001 x226000 x226001 x226002 x226003 x226004 x226005)) else (none))
def best_Break.l1 : Nat → Int → Int → List (S70) → List (S54) → Int → List (S66) → List Int → Int → Int → Int → Int → Int → Nat → Option ((List (S54)) × Bool)
 | 0, _, _, _, _, _, _, _, _, _, _, _, _, _ => none
 | k + 1, x1, x2, x10, x12, x13, x225000, x225001, x226000, x226001, x226002, x226003, x226004, x226005 => if x13 < x2 then (if 0 ≤ (wrap64 (x13 - x1)) then (if (wrap64 (x13 - x1)) < (x10.length : Int) then (if 0 ≤ ((rd_T70 x10 (wrap64 (x13 - x1))).f1) then (if ((rd_T70 x10 (wrap64 (x13 - x1))).f1) < (x225001.length : Int) then ((span_Make.f k x225000 x225001 x13 ((rd_T70 x10 (wrap64 (x13 - x1))).f1) (rd x225001 ((rd_T70 x10 (wrap64 (x13 - x1))).f1)) x226001).bind fun bt240 => (if x12.length < 4398046511104 then (best_Break.l1 k x1 x2 x10 (x12 ++ [(⟨bt240.1, bt240.2.1, bt240.2.2.1, bt240.2.2.2⟩ : S54)]) ((rd_T70 x10 (wrap64 (x13 - x1))).f1) x225000 x225001 x226000 x226001 x226002 x226003 x226004 x226005) else (none))) else (none)) else (none)) else (none)) else (none)) else (some (x12, true))
end
def best_Break.f (k : Nat) (l0_0 : List (S66)) (l0_1 : List Int) (a1 : Int) (a2 : Int) (a3_0 : Int) (a3_1 : Int) (a3_2 : Int) (a3_3 : Int) (a3_4 : Int) (a3_5 : Nat) : Option ((List (S54)) × Bool) := if a1 ≥ a2 then (some (([] : List (S54)), true)) else (if 0 ≤ (wrap64 ((wrap64 (a2 - a1)) + 1)) then (if (wrap64 ((wrap64 (a2 - a1)) + 1) : Int).toNat ≤ 17592186044416 then (best_Break.l0 k a1 a2 (List.replicate (wrap64 ((wrap64 (a2 - a1)) + 1) : Int).toNat z70) (wrap64 (a2 - 1)) l0_0 l0_1 a3_0 a3_1 a3_2 a3_3 a3_4 a3_5) else (none)) else (none))
theorem best_Break.mono_l : ∀ k, (∀ y0 y1 y2 y3 y4 y5 y6 y7 y8 y9 y10 y11, LeO (best_Break.l0 k y0 y1 y2 y3 y4 y5 y6 y7 y8 y9 y10 y11) (best_Break.l0 (k + 1) y0 y1 y2 y3 y4 y5 y6 y7 y8 y9 y10 y11)) ∧ (∀ y0 y1 y2 y3 y4 y5 y6 y7 y8 y9 y10 y11 y12, LeO (best_Break.l1 k y0 y1 y2 y3 y4 y5 y6 y7 y8 y9 y10 y11 y12) (best_Break.l1 (k + 1) y0 y1 y2 y3 y4 y5 y6 y7 y8 y9 y10 y11 y12))
 | 0 => ⟨fun _ _ _ _ _ _ _ _ _ _ _ _ r h => by simp [best_Break.l0] at h, fun _ _ _ _ _ _ _ _ _ _ _ _ _ r h => by simp [best_Break.l1] at h⟩
 | k + 1 => by
  obtain ⟨ih0, ih1⟩ := best_Break.mono_l k; refine ⟨?_, ?_⟩
  ·intro y0 y1 y2 y3 y4 y5 y6 y7 y8 y9 y10 y11
   unfold best_Break.l0
   repeat' (with_reducible first | exact ih0 _ _ _ _ _ _ _ _ _ _ _ _ | exact ih1 _ _ _ _ _ _ _ _ _ _ _ _ _ | exact best_next.mono _ _ _ _ _ _ _ _ _ _ _ _ _ | exact span_Make.mono _ _ _ _ _ _ _ | exact LeO.refl _ | exact LeO.none _ | refine LeO.ite ?_ ?_ | refine LeO.bind ?_ (fun _ => ?_))
  ·intro y0 y1 y2 y3 y4 y5 y6 y7 y8 y9 y10 y11 y12
   unfold best_Break.l1
   repeat' (with_reducible first | exact ih0 _ _ _ _ _ _ _ _ _ _ _ _ | exact ih1 _ _ _ _ _ _ _ _ _ _ _ _ _ | exact best_next.mono _ _ _ _ _ _ _ _ _ _ _ _ _ | exact span_Make.mono _ _ _ _ _ _ _ | exact LeO.refl _ | exact LeO.none _ | refine LeO.ite ?_ ?_ | refine LeO.bind ?_ (fun _ => ?_))
theorem best_Break.mono : ∀ a0 a1 a2 a3 a4 a5 a6 a7 a8 a9 k, LeO (best_Break.f k a0 a1 a2 a3 a4 a5 a6 a7 a8 a9) (best_Break.f (k + 1) a0 a1 a2 a3 a4 a5 a6 a7 a8 a9) := by
 intro a0 a1 a2 a3 a4 a5 a6 a7 a8 a9 k
 obtain ⟨ih0, ih1⟩ := best_Break.mono_l k; unfold best_Break.f
 repeat' (with_reducible first | exact ih0 _ _ _ _ _ _ _ _ _ _ _ _ | exact ih1 _ _ _ _ _ _ _ _ _ _ _ _ _ | exact best_next.mono _ _ _ _ _ _ _ _ _ _ _ _ _ | exact span_Make.mono _ _ _ _ _ _ _ | exact LeO.refl _ | exact LeO.none _ | refine LeO.ite ?_ ?_ | refine LeO.bind ?_ (fun _ => ?_))
def best_Break.T16 : Bool × List (List Nat × List Nat) := (true, [([], []), ([], []), ([], []), ([], []), ([], []), ([4], [4]), ([], []), ([5, 6], [5, 6]), ([7], [7]), ([], []), ([9], [9]), ([1, 2, 3, 8, 10], [1, 2, 3, 8, 10]), ([11], [11]), ([0, 12, 11], [0, 12]), ([13, 13, 0, 1, 2, 3, 4, 5, 6, 7, 8, 9, 10, 11, 12, 13], [0, 13])])
def best_Break.B16 : List Nat := [0, 0, 0, 0, 0, 16, 0, 112, 240, 0, 512, 2046, 4094, 8191, 16383]
theorem best_Break.tab16 : rtab .any (opsOf Try.f21 16) = best_Break.T16 := by kernel_rfl
theorem best_Break.bits16 : waitsOk best_Break.T16.2 best_Break.B16 = true := by kernel_rfl
set_option maxHeartbeats 8000000 in
set_option maxRecDepth 100000 in
theorem best_Break.calls (k : Nat) (A0_0 : Option Addr) (c0_0 : Nat) (l0_0 : List (S66)) (A0_1 : Option Addr) (c0_1 : Nat) (l0_1 : List Int) (a1 : Int) (a2 : Int) (a3_0 : Int) (a3_1 : Int) (a3_2 : Int) (a3_3 : Int) (a3_4 : Int) (a3_5 : Nat) (r1 : List (S54)) (r2 : Bool) (w : World) (hr0_0 : Kd.C k66 w A0_0 l0_0.length l0_0) (hc0_0 : l0_0.length ≤ c0_0) (hr0_1 : Kd.C (Kd.int .u8) w A0_1 l0_1.length l0_1) (hc0_1 : l0_1.length ≤ c0_1) (h : best_Break.f k l0_0 l0_1 a1 a2 a3_0 a3_1 a3_2 a3_3 a3_4 a3_5 = some (r1, r2)) :
  Calls Try.prog 21 #[.agg #[.slice A0_0 l0_0.length c0_0, .slice A0_1 l0_1.length c0_1], .int .i64 a1, .int .i64 a2, .agg #[.int .i64 a3_0, .int .i64 a3_1, .int .u8 a3_2, .int .i64 a3_3, .int .i64 a3_4, .float .f64 a3_5]] w fun e w' => ∃ v0_ : Value, e = .returned (.tuple #[v0_, .bool r2]) ∧ Kd.R k54 54 w' w.heap.size (fun _ => True) v0_ r1 ∧ Below w.heap.size w w' := by
 have hu31 := Try.underlying31; have hu35 := Try.underlying35; have hu70 := Try.underlying70; have HR0_0 := zA.mk hr0_0; have HC0_0 := zA.mk hc0_0; clear hr0_0 hc0_0; have HR0_1 := zA.mk hr0_1; have HC0_1 := zA.mk hc0_1; clear hr0_1 hc0_1; have HB := zA.mk (Below.refl w.heap.size w); have H : (if a1 ≥ a2 then (some (([] : List (S54)), true)) else (if 0 ≤ (wrap64 ((wrap64 (a2 - a1)) + 1)) then (if (wrap64 ((wrap64 (a2 - a1)) + 1) : Int).toNat ≤ 17592186044416 then (best_Break.l0 k a1 a2 (List.replicate (wrap64 ((wrap64 (a2 - a1)) + 1) : Int).toNat z70) (wrap64 (a2 - 1)) l0_0 l0_1 a3_0 a3_1 a3_2 a3_3 a3_4 a3_5) else (none)) else (none))) = some (r1, r2) := h
 clear h; by_cases c5 : a1 ≥ a2
 ·rw [if_pos c5] at H
  have c5b0 : decide (a2 ≤ a1) = true := decide_eq_true c5
  clear c5; simp only [Option.some.injEq, Prod.mk.injEq] at H; obtain ⟨rfl, rfl⟩ := H; go_enter Try.func21, Try.ntmps21
  go_wp2_with (first | ((with_reducible refine gate_dst (N := 4) rfl ?_); refine box_event ?hg (N := 4) ?hd (cs := #[.slice A0_0 l0_0.length c0_0, .slice A0_1 l0_1.length c0_1]) (t := 31) ?hr ?_; (case hd => rfl); (case hg => rfl); (case hr => first | (go_simp; done) | (go_simp; rfl)); intro gb224 hg w6 hbox hb; have BK224 := zA.mk (hbox); have GW224 := zA.mk ((by rw [hg]; exact (zH (aL HB)) : w.heap.size ≤ gb224)); replace HB := zA.mk (zD (aL HB) hb); have GE224 := GW224; clear hb hbox hg) | ((with_reducible refine gate_dst (N := 7) rfl ?_); refine box_event ?hg (N := 7) ?hd (cs := #[.int .i64 a3_0, .int .i64 a3_1, .int .u8 a3_2, .int .i64 a3_3, .int .i64 a3_4, .float .f64 a3_5]) (t := 35) ?hr ?_; (case hd => rfl); (case hg => rfl); (case hr => first | (go_simp; done) | (go_simp; rfl)); intro gb225 hg w7 hbox hb; have BK225 := zA.mk (hbox); have GW225 := zA.mk ((by rw [hg]; exact (zH (aL HB)) : w.heap.size ≤ gb225)); replace HB := zA.mk (zD (aL HB) hb); have GE225 := GW225; have NB224_225 := zA.mk ((by rw [hg]; exact Nat.ne_of_lt (blk_lt (aB BK224)) : gb224 ≠ gb225)); have NB225_224 := zA.mk ((by rw [hg]; exact Nat.ne_of_gt (blk_lt (g := gb224) (o := .cells #[.slice A0_0 l0_0.length c0_0, .slice A0_1 l0_1.length c0_1] 31 (0, 0)) (aB BK224)) : gb225 ≠ gb224)); replace BK224 := zA.mk (zC (aB BK224) hb); clear hb hbox hg))
  go_ret2
  exact ⟨_, aX, by first | exact Kd.R_nil _ _ _ _ _ | exact Kd.N_nil _ _ _ _ _ | exact Kd.V_nil _ _ _ _ _ | exact Kd.Q_nil _ _ _ _ _ | exact Kd.S_nil _ _ _ _ _, aL HB⟩
 rw [if_neg c5] at H; have c5b0 : decide (a2 ≤ a1) = false := decide_eq_false c5
 clear c5; obtain ⟨ji8, hji8⟩ : ∃ j_ : Int, (wrap64 ((wrap64 (a2 - a1)) + 1)) = j_ := ⟨_, rfl⟩; replace H : (if 0 ≤ (ji8) then (if (ji8 : Int).toNat ≤ 17592186044416 then (best_Break.l0 k a1 a2 (List.replicate (ji8 : Int).toNat z70) (wrap64 (a2 - 1)) l0_0 l0_1 a3_0 a3_1 a3_2 a3_3 a3_4 a3_5) else (none)) else (none)) = some (r1, r2) := by first | (rw [hji8] at H; exact H) | (simp only [hji8] at H ⊢; exact H)
 have hji8w : (IntKind.i64.wrap ((wrap64 (a2 - a1)) + 1)) = ji8 := (i64_w _).trans hji8
 by_cases c9 : 0 ≤ (ji8)
 rotate_left
 ·rw [if_neg c9] at H
  exact absurd H (by simp)
 rw [if_pos c9] at H; have c9b0 := eq_true c9; have c9b1 : decide (0 ≤ (ji8)) = true := decide_eq_true c9
 clear c9; by_cases c10 : (ji8 : Int).toNat ≤ 17592186044416
 rotate_left
 ·rw [if_neg c10] at H
  exact absurd H (by simp)
 rw [if_pos c10] at H; have c10b0 := eq_true c10; have c10b1 : decide ((ji8 : Int).toNat ≤ 17592186044416) = true := decide_eq_true c10
 clear c10; obtain ⟨y226, hy226⟩ : ∃ y_ : List (S70), y_ = (List.replicate (ji8 : Int).toNat z70) := ⟨_, rfl⟩; replace H : (best_Break.l0 k a1 a2 y226 (wrap64 (a2 - 1)) l0_0 l0_1 a3_0 a3_1 a3_2 a3_3 a3_4 a3_5) = some (r1, r2) := by first | (rw [hy226]; with_reducible exact H) | (have H2_ := (Option.bind_some _ _).symm.trans H; rw [hy226]; with_reducible exact H2_) | (have H2_ := (Option.bind_some _ _).symm.trans H; with_reducible exact H2_) | with_reducible exact H | (rw [hy226]; exact H) | exact H
 have Ny226 := zA.mk hy226; clear hy226; have H' := zA.mk H
 clear H; go_enter Try.func21, Try.ntmps21
 go_wp2_with (first | ((with_reducible refine gate_dst (N := 4) rfl ?_); refine box_event ?hg (N := 4) ?hd (cs := #[.slice A0_0 l0_0.length c0_0, .slice A0_1 l0_1.length c0_1]) (t := 31) ?hr ?_; (case hd => rfl); (case hg => rfl); (case hr => first | (go_simp; done) | (go_simp; rfl)); intro gb224 hg w11 hbox hb; have BK224 := zA.mk (hbox); have GW224 := zA.mk ((by rw [hg]; exact (zH (aL HB)) : w.heap.size ≤ gb224)); replace HB := zA.mk (zD (aL HB) hb); have GE224 := GW224; clear hb hbox hg) | ((with_reducible refine gate_dst (N := 7) rfl ?_); refine box_event ?hg (N := 7) ?hd (cs := #[.int .i64 a3_0, .int .i64 a3_1, .int .u8 a3_2, .int .i64 a3_3, .int .i64 a3_4, .float .f64 a3_5]) (t := 35) ?hr ?_; (case hd => rfl); (case hg => rfl); (case hr => first | (go_simp; done) | (go_simp; rfl)); intro gb225 hg w12 hbox hb; have BK225 := zA.mk (hbox); have GW225 := zA.mk ((by rw [hg]; exact (zH (aL HB)) : w.heap.size ≤ gb225)); replace HB := zA.mk (zD (aL HB) hb); have GE225 := GW225; have NB224_225 := zA.mk ((by rw [hg]; exact Nat.ne_of_lt (blk_lt (aB BK224)) : gb224 ≠ gb225)); have NB225_224 := zA.mk ((by rw [hg]; exact Nat.ne_of_gt (blk_lt (g := gb224) (o := .cells #[.slice A0_0 l0_0.length c0_0, .slice A0_1 l0_1.length c0_1] 31 (0, 0)) (aB BK224)) : gb225 ≠ gb224)); replace BK224 := zA.mk (zC (aB BK224) hb); clear hb hbox hg) | ((with_reducible refine gate_dst (N := 22) rfl ?_); refine Kd.R_make k70 _ 70 rfl (N := 22) rfl 68 _ _ rfl ji8 rfl rfl Try.underlying68 (.agg #[(.int .i64 0), (.int .i64 0)]) 16 info70 rfl (by decide) (by omega) z70 (ok := fun _ => True) (okp := fun _ => True) (k70_mkM _ _ _ z70 ) (fun _ hk => hk) trivial (aD) (Nat.le_trans (Nat.mul_le_mul_right _ (aD : ji8.toNat ≤ 17592186044416)) (by omega)) (Below.refl _ _) (Nat.le_refl _) ?_; intro v227 w13 ho14 hb hg_ hnew_; clear hg_ hnew_; (first | rw [← Ny226.out] at ho14 | (simp only [Int.reduceToNat] at ho14; rw [← Ny226.out] at ho14)); have HO228 := zA.mk (Kd.zU ho14 (zH (aL HB))); replace BK224 := zA.mk (zC (aB BK224) hb); replace BK225 := zA.mk (zC (aB BK225) hb); replace HB := zA.mk (zD (aL HB) hb); clear hb ho14))
 (try simp only [hji8])
 go_loopg [11] k (fun kq v11 w' => ∃ (x10_1 : List (S70)) (x11_1 : Int), v11 = .int .i64 x11_1 ∧ zA (best_Break.l0 kq a1 a2 x10_1 x11_1 l0_0 l0_1 a3_0 a3_1 a3_2 a3_3 a3_4 a3_5 = some (r1, r2)) ∧ zA (kq ≤ k) ∧ zA (Kd.R k70 70 w' w.heap.size (fun _ => True) v227 x10_1) ∧ zA (w'.heap[gb224]? = some (.cells #[(.slice A0_0 l0_0.length c0_0), (.slice A0_1 l0_1.length c0_1)] 31 (0, 0))) ∧ zA (w'.heap[gb225]? = some (.cells #[.int .i64 a3_0, .int .i64 a3_1, .int .u8 a3_2, .int .i64 a3_3, .int .i64 a3_4, .float .f64 a3_5] 35 (0, 0))) ∧ zA (Below w.heap.size w w'))
 case atStart => exact ⟨(y226), (wrap64 (a2 - 1)), aZ, H', ⟨Nat.le_refl _⟩, ⟨aR HO228⟩, ⟨aB BK224⟩, ⟨aB BK225⟩, ⟨aL HB⟩⟩
 clear H'; obtain ⟨x10_1, x11_1, rfl, HA, HK1, HO_10, BK224, BK225, HB⟩ := hrel; cases gk with
 | zero => exact absurd HA.out (by simp [best_Break.l0])
 | succ k1 =>
  have H := HA.out; clear HA; simp only [best_Break.l0] at H; by_cases c15 : x11_1 ≥ a1
  rotate_left
  ·rw [if_neg c15] at H
   have c15b0 : decide (a1 ≤ x11_1) = false := decide_eq_false c15
   clear c15; by_cases c48 : 0 < (x10_1.length : Int)
   rotate_left
   ·rw [if_neg c48] at H
    exact absurd H (by simp)
   rw [if_pos c48] at H; have c48b0 : decide (0 < (x10_1.length : Int)) = true := decide_eq_true c48
   have c48b1 : decide (0 < x10_1.length) = true := decide_eq_true (by omega)
   clear c48; by_cases c49 : ((rd_T70 x10_1 0).f1) < 0
   ·rw [if_pos c49] at H
    have c49b0 : decide (((rd_T70 x10_1 0).f1) < 0) = true := decide_eq_true c49
    clear c49; simp only [Option.some.injEq, Prod.mk.injEq] at H; obtain ⟨rfl, rfl⟩ := H; obtain ⟨Ao50, co50, eo50⟩ := Kd.zT HO_10.out; subst eo50; have p237 : 0 ≤ (0 : Int) := (by omega)
    have q237 : 0 < (x10_1.length : Int) := aD
    obtain ⟨ad237, e237, hx237_0, hx237_1⟩ := at_T70 (Kd.zQ HO_10.out).2.2 0 p237 q237; cases e237
    have qi237 : (0 < x10_1.length) = True := eq_true (by omega)
    (try rw [show ((0 : Int)).toNat = 0 from rfl] at hx237_0)
    (try rw [show 0 * 2 = 0 from rfl] at hx237_0)
    (try rw [Addr.add_zero'] at hx237_0)
    (try rw [show ((0 : Int)).toNat = 0 from rfl] at hx237_1)
    (try rw [show 0 * 2 = 0 from rfl] at hx237_1)
    (try rw [Addr.add_zero'] at hx237_1)
    replace p237 := eq_true p237; replace q237 := eq_true q237; go_wp2
    go_ret2
    exact ⟨_, by first | rfl | (simp [errW_none, errW_some] <;> rfl) | (simp only [← hji8]; first | rfl | (simp [errW_none, errW_some] <;> rfl)) | (simp [*, errW_none, errW_some] <;> rfl), by first | exact Kd.R_nil _ _ _ _ _ | exact Kd.N_nil _ _ _ _ _ | exact Kd.V_nil _ _ _ _ _ | exact Kd.Q_nil _ _ _ _ _ | exact Kd.S_nil _ _ _ _ _, aL HB⟩
   rw [if_neg c49] at H; have c49b0 : decide (((rd_T70 x10_1 0).f1) < 0) = false := decide_eq_false c49
   clear c49; have H' := zA.mk H
   clear H; obtain ⟨Ao51, co51, eo51⟩ := Kd.zT HO_10.out; subst eo51; have p237 : 0 ≤ (0 : Int) := (by omega)
   have q237 : 0 < (x10_1.length : Int) := aD
   obtain ⟨ad237, e237, hx237_0, hx237_1⟩ := at_T70 (Kd.zQ HO_10.out).2.2 0 p237 q237; cases e237
   have qi237 : (0 < x10_1.length) = True := eq_true (by omega)
   (try rw [show ((0 : Int)).toNat = 0 from rfl] at hx237_0)
   (try rw [show 0 * 2 = 0 from rfl] at hx237_0)
   (try rw [Addr.add_zero'] at hx237_0)
   (try rw [show ((0 : Int)).toNat = 0 from rfl] at hx237_1)
   (try rw [show 0 * 2 = 0 from rfl] at hx237_1)
   (try rw [Addr.add_zero'] at hx237_1)
   replace p237 := eq_true p237; replace q237 := eq_true q237; go_wp2
   (try simp only [hji8])
   go_loopg [12, 13] k1 (fun kq v12 v13 w' => ∃ (x12_2 : List (S54)) (x13_2 : Int), v13 = .int .i64 x13_2 ∧ zA (best_Break.l1 kq a1 a2 x10_1 x12_2 x13_2 l0_0 l0_1 a3_0 a3_1 a3_2 a3_3 a3_4 a3_5 = some (r1, r2)) ∧ zA (kq ≤ k1) ∧ zA (Kd.R k70 70 w' w.heap.size (fun _ => True) (.slice (some ad237) x10_1.length co51) x10_1) ∧ zA (Kd.R k54 54 w' w.heap.size (fun _ => True) v12 x12_2) ∧ zA (w'.heap[gb224]? = some (.cells #[(.slice A0_0 l0_0.length c0_0), (.slice A0_1 l0_1.length c0_1)] 31 (0, 0))) ∧ zA (w'.heap[gb225]? = some (.cells #[.int .i64 a3_0, .int .i64 a3_1, .int .u8 a3_2, .int .i64 a3_3, .int .i64 a3_4, .float .f64 a3_5] 35 (0, 0))) ∧ zA (Below w.heap.size w w'))
   case atStart => exact ⟨(([] : List (S54))), (a1), aZ, H', ⟨Nat.le_refl _⟩, ⟨aR HO_10⟩, ⟨by first | exact Kd.R_nil _ _ _ _ _ | exact Kd.N_nil _ _ _ _ _ | exact Kd.V_nil _ _ _ _ _ | exact Kd.Q_nil _ _ _ _ _ | exact Kd.S_nil _ _ _ _ _⟩, ⟨aB BK224⟩, ⟨aB BK225⟩, ⟨aL HB⟩⟩
   clear H'; obtain ⟨x12_2, x13_2, rfl, HA, HK2, HO_10, HO_12, BK224, BK225, HB⟩ := hrel; cases gk with
   | zero => exact absurd HA.out (by simp [best_Break.l1])
   | succ k2 =>
    have H := HA.out; clear HA; simp only [best_Break.l1] at H; by_cases c52 : x13_2 < a2
    rotate_left
    ·rw [if_neg c52] at H
     have c52b0 : decide (x13_2 < a2) = false := decide_eq_false c52
     clear c52; simp only [Option.some.injEq, Prod.mk.injEq] at H; obtain ⟨rfl, rfl⟩ := H; go_wp2
     go_ret2
     exact ⟨_, by first | rfl | (simp [errW_none, errW_some] <;> rfl) | (simp only [← hji8]; first | rfl | (simp [errW_none, errW_some] <;> rfl)) | (simp [*, errW_none, errW_some] <;> rfl), aR HO_12, aL HB⟩
    rw [if_pos c52] at H; have c52b0 : decide (x13_2 < a2) = true := decide_eq_true c52
    clear c52; obtain ⟨ji53, hji53⟩ : ∃ j_ : Int, (wrap64 (x13_2 - a1)) = j_ := ⟨_, rfl⟩; replace H : (if 0 ≤ (ji53) then (if (ji53) < (x10_1.length : Int) then (if 0 ≤ ((rd_T70 x10_1 (ji53)).f1) then (if ((rd_T70 x10_1 (ji53)).f1) < (l0_1.length : Int) then ((span_Make.f k2 l0_0 l0_1 x13_2 ((rd_T70 x10_1 (ji53)).f1) (rd l0_1 ((rd_T70 x10_1 (ji53)).f1)) a3_1).bind fun bt240 => (if x12_2.length < 4398046511104 then (best_Break.l1 k2 a1 a2 x10_1 (x12_2 ++ [(⟨bt240.1, bt240.2.1, bt240.2.2.1, bt240.2.2.2⟩ : S54)]) ((rd_T70 x10_1 (ji53)).f1) l0_0 l0_1 a3_0 a3_1 a3_2 a3_3 a3_4 a3_5) else (none))) else (none)) else (none)) else (none)) else (none)) = some (r1, r2) := by first | (rw [hji53] at H; exact H) | (simp only [hji53] at H ⊢; exact H)
    have hji53w : (IntKind.i64.wrap (x13_2 - a1)) = ji53 := (i64_w _).trans hji53
    by_cases c54 : 0 ≤ (ji53)
    rotate_left
    ·rw [if_neg c54] at H
     exact absurd H (by simp)
    rw [if_pos c54] at H; have c54b0 : decide (0 ≤ (ji53)) = true := decide_eq_true c54
    clear c54; by_cases c55 : (ji53) < (x10_1.length : Int)
    rotate_left
    ·rw [if_neg c55] at H
     exact absurd H (by simp)
    rw [if_pos c55] at H; have c55b0 : decide ((ji53) < (x10_1.length : Int)) = true := decide_eq_true c55
    clear c55; by_cases c56 : 0 ≤ ((rd_T70 x10_1 (ji53)).f1)
    rotate_left
    ·rw [if_neg c56] at H
     exact absurd H (by simp)
    rw [if_pos c56] at H; have c56b0 : decide (0 ≤ ((rd_T70 x10_1 (ji53)).f1)) = true := decide_eq_true c56
    clear c56; by_cases c57 : ((rd_T70 x10_1 (ji53)).f1) < (l0_1.length : Int)
    rotate_left
    ·rw [if_neg c57] at H
     exact absurd H (by simp)
    rw [if_pos c57] at H; have c57b0 : decide (((rd_T70 x10_1 (ji53)).f1) < (l0_1.length : Int)) = true := decide_eq_true c57
    clear c57; replace H := Option.bind_eq_some_iff.mp H; obtain ⟨⟨t240, t241, t242, t243⟩, A580, H⟩ := H; replace H : (if x12_2.length < 4398046511104 then (best_Break.l1 k2 a1 a2 x10_1 (x12_2 ++ [(⟨t240, t241, t242, t243⟩ : S54)]) ((rd_T70 x10_1 (ji53)).f1) l0_0 l0_1 a3_0 a3_1 a3_2 a3_3 a3_4 a3_5) else (none)) = some (r1, r2) := H; have A58 := zA.mk A580; clear A580; by_cases c59 : x12_2.length < 4398046511104
    rotate_left
    ·rw [if_neg c59] at H
     exact absurd H (by simp)
    rw [if_pos c59] at H; have LMc59 := zA.mk c59; clear c59; obtain ⟨y244, hy244⟩ : ∃ y_ : List (S54), y_ = (x12_2 ++ [(⟨t240, t241, t242, t243⟩ : S54)]) := ⟨_, rfl⟩; replace H : (best_Break.l1 k2 a1 a2 x10_1 y244 ((rd_T70 x10_1 (ji53)).f1) l0_0 l0_1 a3_0 a3_1 a3_2 a3_3 a3_4 a3_5) = some (r1, r2) := by first | (rw [hy244]; with_reducible exact H) | (have H2_ := (Option.bind_some _ _).symm.trans H; rw [hy244]; with_reducible exact H2_) | (have H2_ := (Option.bind_some _ _).symm.trans H; with_reducible exact H2_) | with_reducible exact H | (rw [hy244]; exact H) | exact H
    have Ny244 := zA.mk hy244; clear hy244; have H' := zA.mk H
    clear H; have p238 : 0 ≤ ((ji53) : Int) := aD
    have q238 : (ji53) < (x10_1.length : Int) := aD
    obtain ⟨ad238, e238, hx238_0, hx238_1⟩ := at_T70 (Kd.zQ HO_10.out).2.2 (ji53) p238 q238; obtain rfl : ad237 = ad238 := (by injection e238)
    replace p238 := eq_true p238; replace q238 := eq_true q238; try go_wp2
    replace HO_10 := zA.mk (Kd.zL HO_10.out); replace HO_12 := zA.mk (Kd.zL HO_12.out); replace BK224 := zA.mk (zF BK224.out); replace BK225 := zA.mk (zF BK225.out); replace HB := zA.mk (below_drew1 HB.out); have p239 : 0 ≤ (((rd_T70 x10_1 (ji53)).f1) : Int) := aD
    have q239 : ((rd_T70 x10_1 (ji53)).f1) < (l0_1.length : Int) := aD
    obtain ⟨ad239, e239, hx239_0⟩ := Kd.at_int HR0_1.out ((rd_T70 x10_1 (ji53)).f1) p239 q239; have hw239_0 := hx239_0; cases e239
    replace hx239_0 := (HB.out.cell (World.block_lt_of_cell? w _ hx239_0)).trans hx239_0; replace p239 := eq_true p239; replace q239 := eq_true q239; refine start_ (n := 15) (S := fun w' => w'.cell? ⟨gb224, 0, none⟩ = some (.slice A0_0 l0_0.length c0_0) ∧ w'.cell? ⟨gb224, 1, none⟩ = some (.slice (some ad239) l0_1.length c0_1) ∧ w'.cell? ⟨gb225, 0, none⟩ = some (.int .i64 a3_0) ∧ w'.cell? ⟨gb225, 1, none⟩ = some (.int .i64 a3_1) ∧ w'.cell? ⟨gb225, 2, none⟩ = some (.int .u8 a3_2) ∧ w'.cell? ⟨gb225, 3, none⟩ = some (.int .i64 a3_3) ∧ w'.cell? ⟨gb225, 4, none⟩ = some (.int .i64 a3_4) ∧ w'.cell? ⟨gb225, 5, none⟩ = some (.float .f64 a3_5) ∧ w'.cell? (ad239.add (((rd_T70 x10_1 (ji53)).f1)).toNat) = some (.int .u8 (rd l0_1 ((rd_T70 x10_1 (ji53)).f1)))) (ds := []) #[false, false, false, false, false, false, false, false, false, false, false, false, false, false, false] (by kernel_rfl) rfl rfl ⟨(zB BK224.out 0).trans rfl, (zB BK224.out 1).trans rfl, (zB BK225.out 0).trans rfl, (zB BK225.out 1).trans rfl, (zB BK225.out 2).trans rfl, (zB BK225.out 3).trans rfl, (zB BK225.out 4).trans rfl, (zB BK225.out 5).trans rfl, ((HB.out.cell (World.block_lt_of_cell? w _ hw239_0)).trans hw239_0)⟩ (fun hHeld => ?_); refine with_tabW best_Break.tab16 best_Break.bits16 (fun HT_ HW_ => ?_)
    generalize wr.drew = w60 at HO_10 HO_12 BK224 BK225 HB hx239_0 hHeld ⊢
    refine aP 0 (some 75) (tf_ 1 15) HT_ ?_
    refine aP 2 (some 77) (tb_ 5 15) HT_ ?_
    refine aP 3 (some 78) (tb_ 13 15) HT_ ?_
    refine aP 4 (some 79) (tb_ 29 15) HT_ ?_
    refine aP 6 (some 81) (tb_ 93 15) HT_ ?_
    refine aP 9 (some 84) (tb_ 605 15) HT_ ?_
    refine take_ (i := 1) (N := some 76) (v := ?_) (a' := ?_) (tb_ 607 15) rfl rfl (take_ofW HT_.out HW_.out (by kernel_rfl)) (fun _ _ _ h => h) (Or.inl ⟨by rfl, ?_⟩) hHeld ?_ ?_
    rotate_left
    ·rintro w' ⟨s0, s1, s2, s3, s4, s5, s6, s7, s8⟩
     go_simp
     with_reducible rfl
    rotate_left
    ·simp only [Act.put, sA_, sB_, sC_, i64_w, i32_w]
     rfl
    refine take_ (i := 5) (N := some 80) (v := ?_) (a' := ?_) (tb_ 639 15) rfl rfl (take_ofW HT_.out HW_.out (by kernel_rfl)) (fun _ _ _ h => h) (Or.inl ⟨by rfl, ?_⟩) hHeld ?_ ?_
    rotate_left
    ·rintro w' ⟨s0, s1, s2, s3, s4, s5, s6, s7, s8⟩
     go_simp
     with_reducible rfl
    rotate_left
    ·simp only [Act.put, sA_, sB_, sC_, i64_w, i32_w]
     rfl
    refine aP 7 (some 82) (tb_ 767 15) HT_ ?_
    refine take_ (i := 8) (N := some 83) (v := ?_) (a' := ?_) (tf_ 10 15) rfl rfl (take_ofW HT_.out HW_.out (by kernel_rfl)) (fun _ _ _ h => h) (Or.inl ⟨by rfl, ?_⟩) hHeld ?_ ?_
    rotate_left
    ·rintro w' ⟨s0, s1, s2, s3, s4, s5, s6, s7, s8⟩
     go_simp
     with_reducible rfl
    rotate_left
    ·simp only [Act.put, sA_, sB_, sC_, i64_w, i32_w]
     rfl
    refine take_ (i := 10) (N := some 85) (v := ?_) (a' := ?_) (tf_ 11 15) rfl rfl (take_ofW HT_.out HW_.out (by kernel_rfl)) (fun _ _ _ h => h) (Or.inl ⟨by rfl, ?_⟩) hHeld ?_ ?_
    rotate_left
    ·rintro w' ⟨s0, s1, s2, s3, s4, s5, s6, s7, s8⟩
     go_simp
     with_reducible rfl
    rotate_left
    ·simp only [Act.put, sA_, sB_, sC_, i64_w, i32_w]
     rfl
    refine one_ (i := 11) (N := some 86) (tb_ 4095 15) rfl rfl (one_of HT_.out (by kernel_rfl)) (by decide) (fun K hK => ?_)
    refine goes_ Try.func30 (by kernel_rfl) rfl #[.agg #[.slice A0_0 l0_0.length c0_0, .slice (some ad239) l0_1.length c0_1], .int .i64 x13_2, .int .i64 ((rd_T70 x10_1 (ji53)).f1), .int .u8 (rd l0_1 ((rd_T70 x10_1 (ji53)).f1)), .int .i64 a3_1] (by rfl) rfl rfl (by (try simp only [List.map_toArray, List.map_cons, List.map_nil]); first | done | (simp only [hji53]; rfl) | rfl | (simp only [List.length_drop, List.length_take]; rfl)) ?_
    with_reducible refine (span_Make.calls k2 _ _ l0_0 _ _ l0_1 x13_2 ((rd_T70 x10_1 (ji53)).f1) (rd l0_1 ((rd_T70 x10_1 (ji53)).f1)) a3_1 t240 t241 t242 t243 _ ?side1 ?side2 ?side3 ?side4 A58.out).mono ?_
    (case side1 => exact aA HR0_0 HB)
    (case side2 => exact HC0_0.out)
    (case side3 => exact aA HR0_1 HB)
    (case side4 => exact HC0_1.out)
    rintro e w61 ⟨rfl, hb⟩
    refine ⟨_, rfl, ?_⟩
    replace HO_10 := zA.mk (Kd.zR (aR HO_10) hb); replace HO_12 := zA.mk (Kd.zR (aR HO_12) hb); replace BK224 := zA.mk (zC (aB BK224) hb); replace BK225 := zA.mk (zC (aB BK225) hb); replace HB := zA.mk (zD (aL HB) hb); (try clear hb)
    (try clear hb2)
    (try clear hk)
    (try clear hi)
    refine hK.out _ _ ⟨(zB BK224.out 0).trans rfl, (zB BK224.out 1).trans rfl, (zB BK225.out 0).trans rfl, (zB BK225.out 1).trans rfl, (zB BK225.out 2).trans rfl, (zB BK225.out 3).trans rfl, (zB BK225.out 4).trans rfl, (zB BK225.out 5).trans rfl, ((HB.out.cell (World.block_lt_of_cell? w _ hw239_0)).trans hw239_0)⟩ (fun hHeld => ?_)
    clear hK K; refine norm_ (a' := ?_) ?_ ?_
    rotate_left
    ·show Act.put _ (some 86) _ = _
     simp only [Act.put, sA_, sB_, sC_, i64_w, i32_w]; rfl
    refine one_ (i := 12) (N := some 87) (tb_ 8191 15) rfl rfl (one_of HT_.out (by kernel_rfl)) (by decide) (fun K hK => ?_)
    refine value_ (w1 := ?_) (v := ?_) (by rfl) rfl ?_ ?_
    rotate_left 2
    ·go_simp
     constructor
     ·rfl
     rfl
    refine hK.out _ _ ⟨(zB (zE BK224.out _) 0).trans rfl, (zB (zE BK224.out _) 1).trans rfl, (zB (zE BK225.out _) 0).trans rfl, (zB (zE BK225.out _) 1).trans rfl, (zB (zE BK225.out _) 2).trans rfl, (zB (zE BK225.out _) 3).trans rfl, (zB (zE BK225.out _) 4).trans rfl, (zB (zE BK225.out _) 5).trans rfl, (World.cell?_alloc_lt _ _ _ (World.block_lt_of_cell? _ _ (((HB.out.cell (World.block_lt_of_cell? w _ hw239_0)).trans hw239_0)))).trans (((HB.out.cell (World.block_lt_of_cell? w _ hw239_0)).trans hw239_0))⟩ (fun hHeld => ?_)
    clear hK K; refine norm_ (a' := ?_) ?_ ?_
    rotate_left
    ·show Act.put _ (some 87) _ = _
     simp only [Act.put, sA_, sB_, sC_, i64_w, i32_w]; rfl
    refine one_ (i := 13) (N := some 88) (tb_ 16383 15) rfl rfl (one_of HT_.out (by kernel_rfl)) (by decide) (fun K hK => ?_)
    refine Kd.R_append_step k54 (w0 := w) w.heap.size (by rfl) (.tmp 75) (.tmp 87) 37 54 (.agg #[(.int .i64 0), (.int .i64 0), (.int .i64 0), (.int .u8 0)]) 32 rfl Try.underlying37 info54 rfl (by decide) (by omega) u12 x12_2 (⟨t240, t241, t242, t243⟩ : S54) [.int .i64 t240, .int .i64 t241, .int .i64 t242, .int .u8 t243] (fun _ => True) (fun _ => False) rfl rfl ?aP (fun _ hk => hk.elim) ?aF ?aO ?aB ?aS ?aL ?_
    (case aP => exact k54_mkM _ _ _ (⟨t240, t241, t242, t243⟩ : S54))
    (case aB => exact (aL HB))
    (case aF => exact (fun _ _ => trivial))
    (case aO => exact (aR HO_12))
    (case aS => exact (zH (aL HB)))
    (case aL => have := LMc59.out; omega)
    intro v245 w62 ho hb hg hat
    rw [← Ny244.out] at ho; replace HO_10 := zA.mk (Kd.R_over' (aR HO_10) (Kd.R_typed (aR HO_12)) (by decide) hg)
    replace BK224 := zA.mk (blk_grown (g := gb224) (o := .cells #[.slice A0_0 l0_0.length c0_0, .slice (some ad239) l0_1.length c0_1] 31 (0, 0)) (aB BK224) hg (Kd.R_ne HO_12.out BK224.out (by decide)))
    replace BK225 := zA.mk (blk_grown (g := gb225) (o := .cells #[.int .i64 a3_0, .int .i64 a3_1, .int .u8 a3_2, .int .i64 a3_3, .int .i64 a3_4, .float .f64 a3_5] 35 (0, 0)) (aB BK225) hg (Kd.R_ne HO_12.out BK225.out (by decide)))
    replace HB := zA.mk (hb); have HO246 := zA.mk (ho); clear HO_12; clear ho hb hg hat; refine hK.out _ _ ⟨(zB BK224.out 0).trans rfl, (zB BK224.out 1).trans rfl, (zB BK225.out 0).trans rfl, (zB BK225.out 1).trans rfl, (zB BK225.out 2).trans rfl, (zB BK225.out 3).trans rfl, (zB BK225.out 4).trans rfl, (zB BK225.out 5).trans rfl, ((HB.out.cell (World.block_lt_of_cell? w _ hw239_0)).trans hw239_0)⟩ (fun hHeld => ?_)
    clear hK K; refine norm_ (a' := ?_) ?_ ?_
    rotate_left
    ·show Act.put _ (some 88) _ = _
     simp only [Act.put, sA_, sB_, sC_, i64_w, i32_w]; rfl
    refine aP 14 (some 12) (tb_ 32767 15) HT_ ?_
    refine done_ (done_of HT_.out (by kernel_rfl)) ?_
    try go_wp2
    go_roundg k2
    case measure => have := HK1.out; have := HK2.out; omega
    case rel => exact ⟨(y244), ((rd_T70 x10_1 (ji53)).f1), (by first | rfl | (simp; done) | (simp only [← hji53] <;> (first | rfl | simp)) | (simp [*]; done)), H', ⟨by have := HK1.out; have := HK2.out; omega⟩, ⟨aR HO_10⟩, ⟨aR HO246⟩, ⟨aB BK224⟩, ⟨aB BK225⟩, ⟨aL HB⟩⟩
  rw [if_pos c15] at H; have c15b0 : decide (a1 ≤ x11_1) = true := decide_eq_true c15
  clear c15; obtain ⟨ji16, hji16⟩ : ∃ j_ : Int, (wrap64 (x11_1 - a1)) = j_ := ⟨_, rfl⟩; replace H : (if 0 ≤ (ji16) then (if (ji16) < (x10_1.length : Int) then ((some (x10_1.set ((ji16) : Int).toNat (⟨0, (-1)⟩ : S70) : List (S70))).bind fun y229 => (if x11_1 = a1 then ((best_next.f k1 l0_0 l0_1 x11_1 a1 a2 y229 a3_0 a3_1 a3_2 a3_3 a3_4 a3_5).bind fun bt230 => (best_Break.l0 k1 a1 a2 (y229.set ((ji16) : Int).toNat (⟨bt230.1, bt230.2⟩ : S70)) (wrap64 (x11_1 - 1)) l0_0 l0_1 a3_0 a3_1 a3_2 a3_3 a3_4 a3_5)) else (if 0 ≤ x11_1 then (if x11_1 < (l0_1.length : Int) then (if (rd l0_1 x11_1) = 0 then (best_Break.l0 k1 a1 a2 y229 (wrap64 (x11_1 - 1)) l0_0 l0_1 a3_0 a3_1 a3_2 a3_3 a3_4 a3_5) else ((best_next.f k1 l0_0 l0_1 x11_1 a1 a2 y229 a3_0 a3_1 a3_2 a3_3 a3_4 a3_5).bind fun bt234 => (best_Break.l0 k1 a1 a2 (y229.set ((ji16) : Int).toNat (⟨bt234.1, bt234.2⟩ : S70)) (wrap64 (x11_1 - 1)) l0_0 l0_1 a3_0 a3_1 a3_2 a3_3 a3_4 a3_5))) else (none)) else (none)))) else (none)) else (none)) = some (r1, r2) := by first | (rw [hji16] at H; exact H) | (simp only [hji16] at H ⊢; exact H)
  have hji16w : (IntKind.i64.wrap (x11_1 - a1)) = ji16 := (i64_w _).trans hji16
  by_cases c17 : 0 ≤ (ji16)
  rotate_left
  ·rw [if_neg c17] at H
   exact absurd H (by simp)
  rw [if_pos c17] at H; have c17b0 : decide (0 ≤ (ji16)) = true := decide_eq_true c17
  clear c17; by_cases c18 : (ji16) < (x10_1.length : Int)
  rotate_left
  ·rw [if_neg c18] at H
   exact absurd H (by simp)
  rw [if_pos c18] at H; have c18b0 : decide ((ji16) < (x10_1.length : Int)) = true := decide_eq_true c18
  clear c18; obtain ⟨y229, hy229⟩ : ∃ y_ : List (S70), y_ = (x10_1.set ((ji16) : Int).toNat (⟨0, (-1)⟩ : S70)) := ⟨_, rfl⟩; replace H : (if x11_1 = a1 then ((best_next.f k1 l0_0 l0_1 x11_1 a1 a2 y229 a3_0 a3_1 a3_2 a3_3 a3_4 a3_5).bind fun bt230 => (best_Break.l0 k1 a1 a2 (y229.set ((ji16) : Int).toNat (⟨bt230.1, bt230.2⟩ : S70)) (wrap64 (x11_1 - 1)) l0_0 l0_1 a3_0 a3_1 a3_2 a3_3 a3_4 a3_5)) else (if 0 ≤ x11_1 then (if x11_1 < (l0_1.length : Int) then (if (rd l0_1 x11_1) = 0 then (best_Break.l0 k1 a1 a2 y229 (wrap64 (x11_1 - 1)) l0_0 l0_1 a3_0 a3_1 a3_2 a3_3 a3_4 a3_5) else ((best_next.f k1 l0_0 l0_1 x11_1 a1 a2 y229 a3_0 a3_1 a3_2 a3_3 a3_4 a3_5).bind fun bt234 => (best_Break.l0 k1 a1 a2 (y229.set ((ji16) : Int).toNat (⟨bt234.1, bt234.2⟩ : S70)) (wrap64 (x11_1 - 1)) l0_0 l0_1 a3_0 a3_1 a3_2 a3_3 a3_4 a3_5))) else (none)) else (none))) = some (r1, r2) := by first | (rw [hy229]; with_reducible exact H) | (have H2_ := (Option.bind_some _ _).symm.trans H; rw [hy229]; with_reducible exact H2_) | (have H2_ := (Option.bind_some _ _).symm.trans H; with_reducible exact H2_) | with_reducible exact H | (rw [hy229]; exact H) | exact H
  have Ny229 := zA.mk hy229; clear hy229; by_cases c20 : x11_1 = a1
  ·rw [if_pos c20] at H
   have c20b0 : (x11_1 == a1) = true := beq_iff_eq.mpr c20
   have c20b1 : (x11_1 != a1) = false := bne_eq_false_iff_eq.mpr c20
   clear c20; replace H := Option.bind_eq_some_iff.mp H; obtain ⟨⟨t230, t231⟩, A210, H⟩ := H; replace H : (best_Break.l0 k1 a1 a2 (y229.set ((ji16) : Int).toNat (⟨t230, t231⟩ : S70)) (wrap64 (x11_1 - 1)) l0_0 l0_1 a3_0 a3_1 a3_2 a3_3 a3_4 a3_5) = some (r1, r2) := H; have A21 := zA.mk A210; clear A210; obtain ⟨y232, hy232⟩ : ∃ y_ : List (S70), y_ = (y229.set ((ji16) : Int).toNat (⟨t230, t231⟩ : S70)) := ⟨_, rfl⟩; replace H : (best_Break.l0 k1 a1 a2 y232 (wrap64 (x11_1 - 1)) l0_0 l0_1 a3_0 a3_1 a3_2 a3_3 a3_4 a3_5) = some (r1, r2) := by first | (rw [hy232]; with_reducible exact H) | (have H2_ := (Option.bind_some _ _).symm.trans H; rw [hy232]; with_reducible exact H2_) | (have H2_ := (Option.bind_some _ _).symm.trans H; with_reducible exact H2_) | with_reducible exact H | (rw [hy232]; exact H) | exact H
   have Ny232 := zA.mk hy232; clear hy232; have H' := zA.mk H
   clear H; have p19 : 0 ≤ ((ji16) : Int) := aD
   have q19 : ((ji16) : Int) < ((x10_1.length : Int) : Int) := aD
   obtain ⟨go19, co19, eo19, gb19, gl19, cl19, HG19⟩ := Kd.R_form HO_10.out (by omega)
   (first | cases eo19 | (injection eo19 with ea_ en_ ec_; (first | subst ea_ | (injection ea_ with ea_; subst ea_)); subst ec_; clear en_))
   have GB19 := zA.mk gb19; have GG19 := zA.mk HG19; clear gb19 gl19 HG19; obtain ⟨ce19, hcl19, hM19, hcc19, hfr19⟩ := Kd.R_elem HO_10.out z70 ((ji16) : Int) p19 q19; obtain rfl := k70_openM hM19
   have hx19_0 : wr.cell? ⟨go19, ((ji16) : Int).toNat * 2, none⟩ = some (.int .i64 ((rd_T70 x10_1 (ji16)).f0)) := hcc19 0 _ rfl
   have hx19_1 : wr.cell? ⟨go19, ((ji16) : Int).toNat * 2 + 1, none⟩ = some (.int .i64 ((rd_T70 x10_1 (ji16)).f1)) := hcc19 1 _ rfl
   have hf19_0 : wr.frozen? ⟨go19, ((ji16) : Int).toNat * 2, none⟩ = false := hfr19 0
   have hf19_1 : wr.frozen? ⟨go19, ((ji16) : Int).toNat * 2 + 1, none⟩ = false := hfr19 1
   (try clear hcl19); (try clear hcc19); (try clear hfr19); (try clear hM19)
   replace p19 := eq_true p19; replace q19 := eq_true q19; have HX23 := zA.mk (show Kd.R k70 70 wr w.heap.size (fun _ => True) (.slice (some ⟨go19, 0, none⟩) x10_1.length co19) x10_1 from (aR HO_10))
   obtain ⟨ce23, hcl23, hM23, hcc23, hfr23⟩ := Kd.R_elem HX23.out z70 ((ji16) : Int) (aD) (by have h_ : ((ji16) : Int) < ((x10_1.length : Int) : Int) := aD; first | exact h_ | (have e_ := (Kd.zQ HO_10.out).1; omega) | simpa using h_)
   obtain rfl := k70_openM hM23
   have HP23 := Kd.R_seg HX23.out ((ji16) : Int) (aD) (by have h_ : ((ji16) : Int) < ((x10_1.length : Int) : Int) := aD; first | exact h_ | (have e_ := (Kd.zQ HO_10.out).1; omega) | simpa using h_) (seg := [.int .i64 0, .int .i64 (-1)]) (j := 0) hcl23 hcc23 (show 2 ≤ 2 from by decide) (x' := (⟨0, (-1)⟩ : S70)) (k70_mkM _ _ _ (⟨0, (-1)⟩ : S70) ) (fun _ hk => hk)
   have hx23_0 := hcc23 0 _ rfl; (try simp only [show (k70).sz = 2 from rfl, Nat.mul_one, Nat.add_zero] at hx23_0)
   have hf23_0 := hfr23 0; (try simp only [show (k70).sz = 2 from rfl, Nat.mul_one, Nat.add_zero] at hf23_0)
   have hx23_1 := hcc23 1 _ rfl; (try simp only [show (k70).sz = 2 from rfl, Nat.mul_one, Nat.add_zero] at hx23_1)
   have hf23_1 := hfr23 1; (try simp only [show (k70).sz = 2 from rfl, Nat.mul_one, Nat.add_zero] at hf23_1)
   (try clear hcl23); (try clear hcc23); (try clear hfr23); (try clear hM23)
   go_wp2_with (first | ((with_reducible refine gate_store (t := 70) (p := 35) rfl ?_); refine store_event (t := 70) (p := 35) (v := ?vo_w24) (w1 := ((wr.setCell ⟨go19, ((ji16) : Int).toNat * 2, none⟩ (.int .i64 0)).setCell ⟨go19, ((ji16) : Int).toNat * 2 + 1, none⟩ (.int .i64 (-1)))) ?hg ?ho ?hn ?hr ?_; (case ho => rfl); (case hg => rfl); (case hn => rfl); (case hr => first | (go_simp; done) | (go_simp; rfl)); intro w24 hw; have hg : wr.grownBy w24 (some go19) := (by rw [hw]; exact HP23.2); have hp_ : Kd.R k70 70 w24 w.heap.size (fun _ => True) (.slice (some ⟨go19, 0, none⟩) x10_1.length co19) y229 := (by rw [hw, Ny229.out]; exact HP23.1); clear HP23; replace BK224 := zA.mk (blk_grown (g := gb224) (o := .cells #[.slice A0_0 l0_0.length c0_0, .slice A0_1 l0_1.length c0_1] 31 (0, 0)) (aB BK224) hg (Kd.R_ne HO_10.out BK224.out (by decide))); replace BK225 := zA.mk (blk_grown (g := gb225) (o := .cells #[.int .i64 a3_0, .int .i64 a3_1, .int .u8 a3_2, .int .i64 a3_3, .int .i64 a3_4, .float .f64 a3_5] 35 (0, 0)) (aB BK225) hg (Kd.R_ne HO_10.out BK225.out (by decide))); replace HO_10 := zA.mk (hp_); replace HB := zA.mk ((by rw [hw]; exact below_set (below_set (HB.out) GB19.out) GB19.out : Below w.heap.size w w24)); clear hg hw hp_; have hnb25 := NB224_225.out; have hnc25 := NB225_224.out; obtain ⟨hcz26_0, hcz26_1, hfz26_0, hfz26_1⟩ := aC2 BK224; obtain ⟨hcz27_0, hcz27_1, hcz27_2, hcz27_3, hcz27_4, hcz27_5, hfz27_0, hfz27_1, hfz27_2, hfz27_3, hfz27_4, hfz27_5⟩ := aC6 BK225) | ((with_reducible refine gate_callee (f := 29) rfl ?_); refine goesL_ (some 57) rfl rfl Try.func29 (by kernel_rfl) rfl #[.agg #[.slice A0_0 l0_0.length c0_0, .slice A0_1 l0_1.length c0_1], .int .i64 x11_1, .int .i64 a1, .int .i64 a2, .slice (some ⟨go19, 0, none⟩) y229.length co19, .agg #[.int .i64 a3_0, .int .i64 a3_1, .int .u8 a3_2, .int .i64 a3_3, .int .i64 a3_4, .float .f64 a3_5]] rfl (by (try simp only [List.map_toArray, List.map_cons, List.map_nil]); first | done | (rw [show y229.length = x10_1.length from (Kd.zQ HO_10.out).1.symm] <;> rfl) | rfl | (simp only [List.length_drop, List.length_take]; rfl)) ?_; (with_reducible refine (best_next.calls k1 _ _ l0_0 _ _ l0_1 x11_1 a1 a2 _ _ y229 a3_0 a3_1 a3_2 a3_3 a3_4 a3_5 t230 t231 _ ?side1 ?side2 ?side3 ?side4 ?side5 ?side6 A21.out).mono ?_); (case side1 => exact aA HR0_0 HB); (case side2 => exact HC0_0.out); (case side3 => exact aA HR0_1 HB); (case side4 => exact HC0_1.out); (case side5 => exact aF HO_10); (case side6 => rw [show y229.length = x10_1.length from (Kd.zQ HO_10.out).1.symm]; exact (Kd.zQ HO_10.out).2.1); rintro e w28 ⟨rfl, hb⟩; refine ⟨_, rfl, ?_⟩; replace HO_10 := zA.mk (Kd.zR (aR HO_10) hb); replace BK224 := zA.mk (zC (aB BK224) hb); replace BK225 := zA.mk (zC (aB BK225) hb); replace HB := zA.mk (zD (aL HB) hb); (try clear hb); (try clear hb2); (try clear hk); (try clear hi); have p22 : 0 ≤ ((ji16) : Int) := aD; have q22 : ((ji16) : Int) < ((x10_1.length : Int) : Int) := aD; obtain ⟨ce22, hcl22, hM22, hcc22, hfr22⟩ := Kd.R_elem HO_10.out z70 ((ji16) : Int) p22 q22; obtain rfl := k70_openM hM22; have hx22_0 : w28.cell? ⟨go19, ((ji16) : Int).toNat * 2, none⟩ = some (.int .i64 ((rd_T70 y229 (ji16)).f0)) := hcc22 0 _ rfl; have hx22_1 : w28.cell? ⟨go19, ((ji16) : Int).toNat * 2 + 1, none⟩ = some (.int .i64 ((rd_T70 y229 (ji16)).f1)) := hcc22 1 _ rfl; have hf22_0 : w28.frozen? ⟨go19, ((ji16) : Int).toNat * 2, none⟩ = false := hfr22 0; have hf22_1 : w28.frozen? ⟨go19, ((ji16) : Int).toNat * 2 + 1, none⟩ = false := hfr22 1; (try clear hcl22); (try clear hcc22); (try clear hfr22); (try clear hM22); replace p22 := eq_true p22; replace q22 := eq_true q22; have HX29 := zA.mk (show Kd.R k70 70 w28 w.heap.size (fun _ => True) (.slice (some ⟨go19, 0, none⟩) x10_1.length co19) y229 from (aR HO_10)); obtain ⟨ce29, hcl29, hM29, hcc29, hfr29⟩ := Kd.R_elem HX29.out z70 ((ji16) : Int) (aD) (by have h_ : ((ji16) : Int) < ((x10_1.length : Int) : Int) := aD; first | exact h_ | (have e_ := (Kd.zQ HO_10.out).1; omega) | simpa using h_); obtain rfl := k70_openM hM29; have HP29 := Kd.R_seg HX29.out ((ji16) : Int) (aD) (by have h_ : ((ji16) : Int) < ((x10_1.length : Int) : Int) := aD; first | exact h_ | (have e_ := (Kd.zQ HO_10.out).1; omega) | simpa using h_) (seg := [.int .i64 t230, .int .i64 t231]) (j := 0) hcl29 hcc29 (show 2 ≤ 2 from by decide) (x' := (⟨t230, t231⟩ : S70)) (k70_mkM _ _ _ (⟨t230, t231⟩ : S70) ) (fun _ hk => hk); have hx29_0 := hcc29 0 _ rfl; (try simp only [show (k70).sz = 2 from rfl, Nat.mul_one, Nat.add_zero] at hx29_0); have hf29_0 := hfr29 0; (try simp only [show (k70).sz = 2 from rfl, Nat.mul_one, Nat.add_zero] at hf29_0); have hx29_1 := hcc29 1 _ rfl; (try simp only [show (k70).sz = 2 from rfl, Nat.mul_one, Nat.add_zero] at hx29_1); have hf29_1 := hfr29 1; (try simp only [show (k70).sz = 2 from rfl, Nat.mul_one, Nat.add_zero] at hf29_1); (try clear hcl29); (try clear hcc29); (try clear hfr29); (try clear hM29)) | ((with_reducible refine gate_store (t := 70) (p := 58) rfl ?_); refine store_event (t := 70) (p := 58) (v := ?vo_w30) (w1 := ((w28.setCell ⟨go19, ((ji16) : Int).toNat * 2, none⟩ (.int .i64 t230)).setCell ⟨go19, ((ji16) : Int).toNat * 2 + 1, none⟩ (.int .i64 t231))) ?hg ?ho ?hn ?hr ?_; (case ho => rfl); (case hg => rfl); (case hn => rfl); (case hr => first | (go_simp; done) | (go_simp; rfl)); intro w30 hw; have hg : w28.grownBy w30 (some go19) := (by rw [hw]; exact HP29.2); have hp_ : Kd.R k70 70 w30 w.heap.size (fun _ => True) (.slice (some ⟨go19, 0, none⟩) x10_1.length co19) y232 := (by rw [hw, Ny232.out]; exact HP29.1); clear HP29; replace BK224 := zA.mk (blk_grown (g := gb224) (o := .cells #[.slice A0_0 l0_0.length c0_0, .slice A0_1 l0_1.length c0_1] 31 (0, 0)) (aB BK224) hg (Kd.R_ne HO_10.out BK224.out (by decide))); replace BK225 := zA.mk (blk_grown (g := gb225) (o := .cells #[.int .i64 a3_0, .int .i64 a3_1, .int .u8 a3_2, .int .i64 a3_3, .int .i64 a3_4, .float .f64 a3_5] 35 (0, 0)) (aB BK225) hg (Kd.R_ne HO_10.out BK225.out (by decide))); replace HO_10 := zA.mk (hp_); replace HB := zA.mk ((by rw [hw]; exact below_set (below_set (HB.out) GB19.out) GB19.out : Below w.heap.size w w30)); clear hg hw hp_))
   go_roundg k1
   case measure => have := HK1.out; omega
   case rel => exact ⟨(y232), (wrap64 (x11_1 - 1)), aZ, H', ⟨by have := HK1.out; omega⟩, ⟨aR HO_10⟩, ⟨aB BK224⟩, ⟨aB BK225⟩, ⟨aL HB⟩⟩
  rw [if_neg c20] at H; have c20b0 : (x11_1 == a1) = false := beq_eq_false_iff_ne.mpr c20
  have c20b1 : (x11_1 != a1) = true := bne_iff_ne.mpr c20
  by_cases c31 : 0 ≤ x11_1
  rotate_left
  ·rw [if_neg c31] at H
   exact absurd H (by simp)
  rw [if_pos c31] at H; have c31b0 : decide (0 ≤ x11_1) = true := decide_eq_true c31
  clear c31; by_cases c32 : x11_1 < (l0_1.length : Int)
  rotate_left
  ·rw [if_neg c32] at H
   exact absurd H (by simp)
  rw [if_pos c32] at H; have c32b0 : decide (x11_1 < (l0_1.length : Int)) = true := decide_eq_true c32
  clear c32; by_cases c33 : (rd l0_1 x11_1) = 0
  ·rw [if_pos c33] at H
   have c33b0 : ((rd l0_1 x11_1) == 0) = true := beq_iff_eq.mpr c33
   have c33b1 : ((rd l0_1 x11_1) != 0) = false := bne_eq_false_iff_eq.mpr c33
   clear c33; have H' := zA.mk H
   clear H; have p19 : 0 ≤ ((ji16) : Int) := aD
   have q19 : ((ji16) : Int) < ((x10_1.length : Int) : Int) := aD
   obtain ⟨go19, co19, eo19, gb19, gl19, cl19, HG19⟩ := Kd.R_form HO_10.out (by omega)
   (first | cases eo19 | (injection eo19 with ea_ en_ ec_; (first | subst ea_ | (injection ea_ with ea_; subst ea_)); subst ec_; clear en_))
   have GB19 := zA.mk gb19; have GG19 := zA.mk HG19; clear gb19 gl19 HG19; obtain ⟨ce19, hcl19, hM19, hcc19, hfr19⟩ := Kd.R_elem HO_10.out z70 ((ji16) : Int) p19 q19; obtain rfl := k70_openM hM19
   have hx19_0 : wr.cell? ⟨go19, ((ji16) : Int).toNat * 2, none⟩ = some (.int .i64 ((rd_T70 x10_1 (ji16)).f0)) := hcc19 0 _ rfl
   have hx19_1 : wr.cell? ⟨go19, ((ji16) : Int).toNat * 2 + 1, none⟩ = some (.int .i64 ((rd_T70 x10_1 (ji16)).f1)) := hcc19 1 _ rfl
   have hf19_0 : wr.frozen? ⟨go19, ((ji16) : Int).toNat * 2, none⟩ = false := hfr19 0
   have hf19_1 : wr.frozen? ⟨go19, ((ji16) : Int).toNat * 2 + 1, none⟩ = false := hfr19 1
   (try clear hcl19); (try clear hcc19); (try clear hfr19); (try clear hM19)
   replace p19 := eq_true p19; replace q19 := eq_true q19; have HX34 := zA.mk (show Kd.R k70 70 wr w.heap.size (fun _ => True) (.slice (some ⟨go19, 0, none⟩) x10_1.length co19) x10_1 from (aR HO_10))
   obtain ⟨ce34, hcl34, hM34, hcc34, hfr34⟩ := Kd.R_elem HX34.out z70 ((ji16) : Int) (aD) (by have h_ : ((ji16) : Int) < ((x10_1.length : Int) : Int) := aD; first | exact h_ | (have e_ := (Kd.zQ HO_10.out).1; omega) | simpa using h_)
   obtain rfl := k70_openM hM34
   have HP34 := Kd.R_seg HX34.out ((ji16) : Int) (aD) (by have h_ : ((ji16) : Int) < ((x10_1.length : Int) : Int) := aD; first | exact h_ | (have e_ := (Kd.zQ HO_10.out).1; omega) | simpa using h_) (seg := [.int .i64 0, .int .i64 (-1)]) (j := 0) hcl34 hcc34 (show 2 ≤ 2 from by decide) (x' := (⟨0, (-1)⟩ : S70)) (k70_mkM _ _ _ (⟨0, (-1)⟩ : S70) ) (fun _ hk => hk)
   have hx34_0 := hcc34 0 _ rfl; (try simp only [show (k70).sz = 2 from rfl, Nat.mul_one, Nat.add_zero] at hx34_0)
   have hf34_0 := hfr34 0; (try simp only [show (k70).sz = 2 from rfl, Nat.mul_one, Nat.add_zero] at hf34_0)
   have hx34_1 := hcc34 1 _ rfl; (try simp only [show (k70).sz = 2 from rfl, Nat.mul_one, Nat.add_zero] at hx34_1)
   have hf34_1 := hfr34 1; (try simp only [show (k70).sz = 2 from rfl, Nat.mul_one, Nat.add_zero] at hf34_1)
   (try clear hcl34); (try clear hcc34); (try clear hfr34); (try clear hM34)
   go_wp2_with (first | ((with_reducible refine gate_store (t := 70) (p := 35) rfl ?_); refine store_event (t := 70) (p := 35) (v := ?vo_w35) (w1 := ((wr.setCell ⟨go19, ((ji16) : Int).toNat * 2, none⟩ (.int .i64 0)).setCell ⟨go19, ((ji16) : Int).toNat * 2 + 1, none⟩ (.int .i64 (-1)))) ?hg ?ho ?hn ?hr ?_; (case ho => rfl); (case hg => rfl); (case hn => rfl); (case hr => first | (go_simp; done) | (go_simp; rfl)); intro w35 hw; have hg : wr.grownBy w35 (some go19) := (by rw [hw]; exact HP34.2); have hp_ : Kd.R k70 70 w35 w.heap.size (fun _ => True) (.slice (some ⟨go19, 0, none⟩) x10_1.length co19) y229 := (by rw [hw, Ny229.out]; exact HP34.1); clear HP34; replace BK224 := zA.mk (blk_grown (g := gb224) (o := .cells #[.slice A0_0 l0_0.length c0_0, .slice A0_1 l0_1.length c0_1] 31 (0, 0)) (aB BK224) hg (Kd.R_ne HO_10.out BK224.out (by decide))); replace BK225 := zA.mk (blk_grown (g := gb225) (o := .cells #[.int .i64 a3_0, .int .i64 a3_1, .int .u8 a3_2, .int .i64 a3_3, .int .i64 a3_4, .float .f64 a3_5] 35 (0, 0)) (aB BK225) hg (Kd.R_ne HO_10.out BK225.out (by decide))); replace HO_10 := zA.mk (hp_); replace HB := zA.mk ((by rw [hw]; exact below_set (below_set (HB.out) GB19.out) GB19.out : Below w.heap.size w w35)); clear hg hw hp_; have hnb36 := NB224_225.out; have hnc36 := NB225_224.out; obtain ⟨hcz37_0, hcz37_1, hfz37_0, hfz37_1⟩ := aC2 BK224; have p233 : 0 ≤ (x11_1 : Int) := aD; have q233 : x11_1 < (l0_1.length : Int) := aD; obtain ⟨ad233, e233, hx233_0⟩ := Kd.at_int HR0_1.out x11_1 p233 q233; cases e233; replace hx233_0 := (HB.out.cell (World.block_lt_of_cell? w _ hx233_0)).trans hx233_0; replace p233 := eq_true p233; replace q233 := eq_true q233))
   go_roundg k1
   case measure => have := HK1.out; omega
   case rel => exact ⟨(y229), (wrap64 (x11_1 - 1)), aZ, H', ⟨by have := HK1.out; omega⟩, ⟨aR HO_10⟩, ⟨aB BK224⟩, ⟨aB BK225⟩, ⟨aL HB⟩⟩
  rw [if_neg c33] at H; have c33b0 : ((rd l0_1 x11_1) == 0) = false := beq_eq_false_iff_ne.mpr c33
  have c33b1 : ((rd l0_1 x11_1) != 0) = true := bne_iff_ne.mpr c33
  replace H := Option.bind_eq_some_iff.mp H; obtain ⟨⟨t234, t235⟩, A380, H⟩ := H; replace H : (best_Break.l0 k1 a1 a2 (y229.set ((ji16) : Int).toNat (⟨t234, t235⟩ : S70)) (wrap64 (x11_1 - 1)) l0_0 l0_1 a3_0 a3_1 a3_2 a3_3 a3_4 a3_5) = some (r1, r2) := H; have A38 := zA.mk A380; clear A380; obtain ⟨y236, hy236⟩ : ∃ y_ : List (S70), y_ = (y229.set ((ji16) : Int).toNat (⟨t234, t235⟩ : S70)) := ⟨_, rfl⟩; replace H : (best_Break.l0 k1 a1 a2 y236 (wrap64 (x11_1 - 1)) l0_0 l0_1 a3_0 a3_1 a3_2 a3_3 a3_4 a3_5) = some (r1, r2) := by first | (rw [hy236]; with_reducible exact H) | (have H2_ := (Option.bind_some _ _).symm.trans H; rw [hy236]; with_reducible exact H2_) | (have H2_ := (Option.bind_some _ _).symm.trans H; with_reducible exact H2_) | with_reducible exact H | (rw [hy236]; exact H) | exact H
  have Ny236 := zA.mk hy236; clear hy236; have H' := zA.mk H
  clear H; have p19 : 0 ≤ ((ji16) : Int) := aD
  have q19 : ((ji16) : Int) < ((x10_1.length : Int) : Int) := aD
  obtain ⟨go19, co19, eo19, gb19, gl19, cl19, HG19⟩ := Kd.R_form HO_10.out (by omega)
  (first | cases eo19 | (injection eo19 with ea_ en_ ec_; (first | subst ea_ | (injection ea_ with ea_; subst ea_)); subst ec_; clear en_))
  have GB19 := zA.mk gb19; have GG19 := zA.mk HG19; clear gb19 gl19 HG19; obtain ⟨ce19, hcl19, hM19, hcc19, hfr19⟩ := Kd.R_elem HO_10.out z70 ((ji16) : Int) p19 q19; obtain rfl := k70_openM hM19
  have hx19_0 : wr.cell? ⟨go19, ((ji16) : Int).toNat * 2, none⟩ = some (.int .i64 ((rd_T70 x10_1 (ji16)).f0)) := hcc19 0 _ rfl
  have hx19_1 : wr.cell? ⟨go19, ((ji16) : Int).toNat * 2 + 1, none⟩ = some (.int .i64 ((rd_T70 x10_1 (ji16)).f1)) := hcc19 1 _ rfl
  have hf19_0 : wr.frozen? ⟨go19, ((ji16) : Int).toNat * 2, none⟩ = false := hfr19 0
  have hf19_1 : wr.frozen? ⟨go19, ((ji16) : Int).toNat * 2 + 1, none⟩ = false := hfr19 1
  (try clear hcl19); (try clear hcc19); (try clear hfr19); (try clear hM19)
  replace p19 := eq_true p19; replace q19 := eq_true q19; have HX40 := zA.mk (show Kd.R k70 70 wr w.heap.size (fun _ => True) (.slice (some ⟨go19, 0, none⟩) x10_1.length co19) x10_1 from (aR HO_10))
  obtain ⟨ce40, hcl40, hM40, hcc40, hfr40⟩ := Kd.R_elem HX40.out z70 ((ji16) : Int) (aD) (by have h_ : ((ji16) : Int) < ((x10_1.length : Int) : Int) := aD; first | exact h_ | (have e_ := (Kd.zQ HO_10.out).1; omega) | simpa using h_)
  obtain rfl := k70_openM hM40
  have HP40 := Kd.R_seg HX40.out ((ji16) : Int) (aD) (by have h_ : ((ji16) : Int) < ((x10_1.length : Int) : Int) := aD; first | exact h_ | (have e_ := (Kd.zQ HO_10.out).1; omega) | simpa using h_) (seg := [.int .i64 0, .int .i64 (-1)]) (j := 0) hcl40 hcc40 (show 2 ≤ 2 from by decide) (x' := (⟨0, (-1)⟩ : S70)) (k70_mkM _ _ _ (⟨0, (-1)⟩ : S70) ) (fun _ hk => hk)
  have hx40_0 := hcc40 0 _ rfl; (try simp only [show (k70).sz = 2 from rfl, Nat.mul_one, Nat.add_zero] at hx40_0)
  have hf40_0 := hfr40 0; (try simp only [show (k70).sz = 2 from rfl, Nat.mul_one, Nat.add_zero] at hf40_0)
  have hx40_1 := hcc40 1 _ rfl; (try simp only [show (k70).sz = 2 from rfl, Nat.mul_one, Nat.add_zero] at hx40_1)
  have hf40_1 := hfr40 1; (try simp only [show (k70).sz = 2 from rfl, Nat.mul_one, Nat.add_zero] at hf40_1)
  (try clear hcl40); (try clear hcc40); (try clear hfr40); (try clear hM40)
  go_wp2_with (first | ((with_reducible refine gate_store (t := 70) (p := 35) rfl ?_); refine store_event (t := 70) (p := 35) (v := ?vo_w41) (w1 := ((wr.setCell ⟨go19, ((ji16) : Int).toNat * 2, none⟩ (.int .i64 0)).setCell ⟨go19, ((ji16) : Int).toNat * 2 + 1, none⟩ (.int .i64 (-1)))) ?hg ?ho ?hn ?hr ?_; (case ho => rfl); (case hg => rfl); (case hn => rfl); (case hr => first | (go_simp; done) | (go_simp; rfl)); intro w41 hw; have hg : wr.grownBy w41 (some go19) := (by rw [hw]; exact HP40.2); have hp_ : Kd.R k70 70 w41 w.heap.size (fun _ => True) (.slice (some ⟨go19, 0, none⟩) x10_1.length co19) y229 := (by rw [hw, Ny229.out]; exact HP40.1); clear HP40; replace BK224 := zA.mk (blk_grown (g := gb224) (o := .cells #[.slice A0_0 l0_0.length c0_0, .slice A0_1 l0_1.length c0_1] 31 (0, 0)) (aB BK224) hg (Kd.R_ne HO_10.out BK224.out (by decide))); replace BK225 := zA.mk (blk_grown (g := gb225) (o := .cells #[.int .i64 a3_0, .int .i64 a3_1, .int .u8 a3_2, .int .i64 a3_3, .int .i64 a3_4, .float .f64 a3_5] 35 (0, 0)) (aB BK225) hg (Kd.R_ne HO_10.out BK225.out (by decide))); replace HO_10 := zA.mk (hp_); replace HB := zA.mk ((by rw [hw]; exact below_set (below_set (HB.out) GB19.out) GB19.out : Below w.heap.size w w41)); clear hg hw hp_; have hnb42 := NB224_225.out; have hnc42 := NB225_224.out; obtain ⟨hcz43_0, hcz43_1, hfz43_0, hfz43_1⟩ := aC2 BK224; have p233 : 0 ≤ (x11_1 : Int) := aD; have q233 : x11_1 < (l0_1.length : Int) := aD; obtain ⟨ad233, e233, hx233_0⟩ := Kd.at_int HR0_1.out x11_1 p233 q233; cases e233; replace hx233_0 := (HB.out.cell (World.block_lt_of_cell? w _ hx233_0)).trans hx233_0; replace p233 := eq_true p233; replace q233 := eq_true q233; obtain ⟨hcz44_0, hcz44_1, hcz44_2, hcz44_3, hcz44_4, hcz44_5, hfz44_0, hfz44_1, hfz44_2, hfz44_3, hfz44_4, hfz44_5⟩ := aC6 BK225) | ((with_reducible refine gate_callee (f := 29) rfl ?_); refine goesL_ (some 57) rfl rfl Try.func29 (by kernel_rfl) rfl #[.agg #[.slice A0_0 l0_0.length c0_0, .slice (some ad233) l0_1.length c0_1], .int .i64 x11_1, .int .i64 a1, .int .i64 a2, .slice (some ⟨go19, 0, none⟩) y229.length co19, .agg #[.int .i64 a3_0, .int .i64 a3_1, .int .u8 a3_2, .int .i64 a3_3, .int .i64 a3_4, .float .f64 a3_5]] rfl (by (try simp only [List.map_toArray, List.map_cons, List.map_nil]); first | done | (rw [show y229.length = x10_1.length from (Kd.zQ HO_10.out).1.symm] <;> rfl) | rfl | (simp only [List.length_drop, List.length_take]; rfl)) ?_; (with_reducible refine (best_next.calls k1 _ _ l0_0 _ _ l0_1 x11_1 a1 a2 _ _ y229 a3_0 a3_1 a3_2 a3_3 a3_4 a3_5 t234 t235 _ ?side1 ?side2 ?side3 ?side4 ?side5 ?side6 A38.out).mono ?_); (case side1 => exact aA HR0_0 HB); (case side2 => exact HC0_0.out); (case side3 => exact aA HR0_1 HB); (case side4 => exact HC0_1.out); (case side5 => exact aF HO_10); (case side6 => rw [show y229.length = x10_1.length from (Kd.zQ HO_10.out).1.symm]; exact (Kd.zQ HO_10.out).2.1); rintro e w45 ⟨rfl, hb⟩; refine ⟨_, rfl, ?_⟩; replace HO_10 := zA.mk (Kd.zR (aR HO_10) hb); replace BK224 := zA.mk (zC (aB BK224) hb); replace BK225 := zA.mk (zC (aB BK225) hb); replace HB := zA.mk (zD (aL HB) hb); (try clear hb); (try clear hb2); (try clear hk); (try clear hi); have p39 : 0 ≤ ((ji16) : Int) := aD; have q39 : ((ji16) : Int) < ((x10_1.length : Int) : Int) := aD; obtain ⟨ce39, hcl39, hM39, hcc39, hfr39⟩ := Kd.R_elem HO_10.out z70 ((ji16) : Int) p39 q39; obtain rfl := k70_openM hM39; have hx39_0 : w45.cell? ⟨go19, ((ji16) : Int).toNat * 2, none⟩ = some (.int .i64 ((rd_T70 y229 (ji16)).f0)) := hcc39 0 _ rfl; have hx39_1 : w45.cell? ⟨go19, ((ji16) : Int).toNat * 2 + 1, none⟩ = some (.int .i64 ((rd_T70 y229 (ji16)).f1)) := hcc39 1 _ rfl; have hf39_0 : w45.frozen? ⟨go19, ((ji16) : Int).toNat * 2, none⟩ = false := hfr39 0; have hf39_1 : w45.frozen? ⟨go19, ((ji16) : Int).toNat * 2 + 1, none⟩ = false := hfr39 1; (try clear hcl39); (try clear hcc39); (try clear hfr39); (try clear hM39); replace p39 := eq_true p39; replace q39 := eq_true q39; have HX46 := zA.mk (show Kd.R k70 70 w45 w.heap.size (fun _ => True) (.slice (some ⟨go19, 0, none⟩) x10_1.length co19) y229 from (aR HO_10)); obtain ⟨ce46, hcl46, hM46, hcc46, hfr46⟩ := Kd.R_elem HX46.out z70 ((ji16) : Int) (aD) (by have h_ : ((ji16) : Int) < ((x10_1.length : Int) : Int) := aD; first | exact h_ | (have e_ := (Kd.zQ HO_10.out).1; omega) | simpa using h_); obtain rfl := k70_openM hM46; have HP46 := Kd.R_seg HX46.out ((ji16) : Int) (aD) (by have h_ : ((ji16) : Int) < ((x10_1.length : Int) : Int) := aD; first | exact h_ | (have e_ := (Kd.zQ HO_10.out).1; omega) | simpa using h_) (seg := [.int .i64 t234, .int .i64 t235]) (j := 0) hcl46 hcc46 (show 2 ≤ 2 from by decide) (x' := (⟨t234, t235⟩ : S70)) (k70_mkM _ _ _ (⟨t234, t235⟩ : S70) ) (fun _ hk => hk); have hx46_0 := hcc46 0 _ rfl; (try simp only [show (k70).sz = 2 from rfl, Nat.mul_one, Nat.add_zero] at hx46_0); have hf46_0 := hfr46 0; (try simp only [show (k70).sz = 2 from rfl, Nat.mul_one, Nat.add_zero] at hf46_0); have hx46_1 := hcc46 1 _ rfl; (try simp only [show (k70).sz = 2 from rfl, Nat.mul_one, Nat.add_zero] at hx46_1); have hf46_1 := hfr46 1; (try simp only [show (k70).sz = 2 from rfl, Nat.mul_one, Nat.add_zero] at hf46_1); (try clear hcl46); (try clear hcc46); (try clear hfr46); (try clear hM46)) | ((with_reducible refine gate_store (t := 70) (p := 58) rfl ?_); refine store_event (t := 70) (p := 58) (v := ?vo_w47) (w1 := ((w45.setCell ⟨go19, ((ji16) : Int).toNat * 2, none⟩ (.int .i64 t234)).setCell ⟨go19, ((ji16) : Int).toNat * 2 + 1, none⟩ (.int .i64 t235))) ?hg ?ho ?hn ?hr ?_; (case ho => rfl); (case hg => rfl); (case hn => rfl); (case hr => first | (go_simp; done) | (go_simp; rfl)); intro w47 hw; have hg : w45.grownBy w47 (some go19) := (by rw [hw]; exact HP46.2); have hp_ : Kd.R k70 70 w47 w.heap.size (fun _ => True) (.slice (some ⟨go19, 0, none⟩) x10_1.length co19) y236 := (by rw [hw, Ny236.out]; exact HP46.1); clear HP46; replace BK224 := zA.mk (blk_grown (g := gb224) (o := .cells #[.slice A0_0 l0_0.length c0_0, .slice (some ad233) l0_1.length c0_1] 31 (0, 0)) (aB BK224) hg (Kd.R_ne HO_10.out BK224.out (by decide))); replace BK225 := zA.mk (blk_grown (g := gb225) (o := .cells #[.int .i64 a3_0, .int .i64 a3_1, .int .u8 a3_2, .int .i64 a3_3, .int .i64 a3_4, .float .f64 a3_5] 35 (0, 0)) (aB BK225) hg (Kd.R_ne HO_10.out BK225.out (by decide))); replace HO_10 := zA.mk (hp_); replace HB := zA.mk ((by rw [hw]; exact below_set (below_set (HB.out) GB19.out) GB19.out : Below w.heap.size w w47)); clear hg hw hp_))
  go_roundg k1
  case measure => have := HK1.out; omega
  case rel => exact ⟨(y236), (wrap64 (x11_1 - 1)), aZ, H', ⟨by have := HK1.out; omega⟩, ⟨aR HO_10⟩, ⟨aB BK224⟩, ⟨aB BK225⟩, ⟨aL HB⟩⟩
def lines_Part.f (k : Nat) (l0_0 : List (S66)) (l0_1 : List Int) (a1 : Int) (a2 : Int) (a3_0 : Int) (a3_1 : Int) (a3_2 : Int) (a3_3 : Int) (a3_4 : Int) (a3_5 : Nat) : Option ((List (S54)) × Bool) := if a3_2 = 1 then ((best_Break.f k l0_0 l0_1 a1 a2 a3_0 a3_1 a3_2 a3_3 a3_4 a3_5).bind fun bt249 => (if bt249.2 = true then (some (bt249.1, false)) else ((first_Break.f k l0_0 l0_1 a1 a2 a3_0 a3_1 a3_2 a3_3 a3_4 a3_5).bind fun t253 => (some (t253, (a3_2 == 1)))))) else ((first_Break.f k l0_0 l0_1 a1 a2 a3_0 a3_1 a3_2 a3_3 a3_4 a3_5).bind fun t256 => (some (t256, (a3_2 == 1))))
theorem lines_Part.mono : ∀ a0 a1 a2 a3 a4 a5 a6 a7 a8 a9 k, LeO (lines_Part.f k a0 a1 a2 a3 a4 a5 a6 a7 a8 a9) (lines_Part.f (k + 1) a0 a1 a2 a3 a4 a5 a6 a7 a8 a9) := by
 intro a0 a1 a2 a3 a4 a5 a6 a7 a8 a9 k
 unfold lines_Part.f
 repeat' (with_reducible first | exact best_Break.mono _ _ _ _ _ _ _ _ _ _ _ | exact first_Break.mono _ _ _ _ _ _ _ _ _ _ _ | exact LeO.refl _ | exact LeO.none _ | refine LeO.ite ?_ ?_ | refine LeO.bind ?_ (fun _ => ?_))
def lines_Part.T5 : Bool × List (List Nat × List Nat) := (true, [([], []), ([], []), ([], []), ([], []), ([0, 1, 2, 3], [0, 1, 2, 3]), ([], []), ([5], [5]), ([6], [6]), ([4, 4, 0, 1, 2, 3, 4], [4]), ([7, 8, 0, 1, 2, 3, 4, 5, 6, 7, 8], [7])])
def lines_Part.B5 : List Nat := [0, 0, 0, 0, 15, 0, 32, 96, 31, 511]
theorem lines_Part.tab5 : rtab .any (opsOf Try.f19 5) = lines_Part.T5 := by kernel_rfl
theorem lines_Part.bits5 : waitsOk lines_Part.T5.2 lines_Part.B5 = true := by kernel_rfl
set_option maxHeartbeats 8000000 in
set_option maxRecDepth 100000 in
theorem lines_Part.calls (k : Nat) (A0_0 : Option Addr) (c0_0 : Nat) (l0_0 : List (S66)) (A0_1 : Option Addr) (c0_1 : Nat) (l0_1 : List Int) (a1 : Int) (a2 : Int) (a3_0 : Int) (a3_1 : Int) (a3_2 : Int) (a3_3 : Int) (a3_4 : Int) (a3_5 : Nat) (r1 : List (S54)) (r2 : Bool) (w : World) (hr0_0 : Kd.C k66 w A0_0 l0_0.length l0_0) (hc0_0 : l0_0.length ≤ c0_0) (hr0_1 : Kd.C (Kd.int .u8) w A0_1 l0_1.length l0_1) (hc0_1 : l0_1.length ≤ c0_1) (h : lines_Part.f k l0_0 l0_1 a1 a2 a3_0 a3_1 a3_2 a3_3 a3_4 a3_5 = some (r1, r2)) :
  Calls Try.prog 19 #[.agg #[.slice A0_0 l0_0.length c0_0, .slice A0_1 l0_1.length c0_1], .int .i64 a1, .int .i64 a2, .agg #[.int .i64 a3_0, .int .i64 a3_1, .int .u8 a3_2, .int .i64 a3_3, .int .i64 a3_4, .float .f64 a3_5]] w fun e w' => ∃ v0_ : Value, e = .returned (.tuple #[v0_, .bool r2]) ∧ Kd.R k54 54 w' w.heap.size (fun _ => True) v0_ r1 ∧ Below w.heap.size w w' := by
 have hu31 := Try.underlying31; have hu35 := Try.underlying35; have HR0_0 := zA.mk hr0_0; have HC0_0 := zA.mk hc0_0; clear hr0_0 hc0_0; have HR0_1 := zA.mk hr0_1; have HC0_1 := zA.mk hc0_1; clear hr0_1 hc0_1; have HB := zA.mk (Below.refl w.heap.size w); have H : (if a3_2 = 1 then ((best_Break.f k l0_0 l0_1 a1 a2 a3_0 a3_1 a3_2 a3_3 a3_4 a3_5).bind fun bt249 => (if bt249.2 = true then (some (bt249.1, false)) else ((first_Break.f k l0_0 l0_1 a1 a2 a3_0 a3_1 a3_2 a3_3 a3_4 a3_5).bind fun t253 => (some (t253, (a3_2 == 1)))))) else ((first_Break.f k l0_0 l0_1 a1 a2 a3_0 a3_1 a3_2 a3_3 a3_4 a3_5).bind fun t256 => (some (t256, (a3_2 == 1))))) = some (r1, r2) := h
 clear h; by_cases c5 : a3_2 = 1
 rotate_left
 ·rw [if_neg c5] at H
  have c5b0 : (a3_2 == 1) = false := beq_eq_false_iff_ne.mpr c5
  have c5b1 : (a3_2 != 1) = true := bne_iff_ne.mpr c5
  replace H := Option.bind_eq_some_iff.mp H; obtain ⟨t256, A230, H⟩ := H; replace H : (some (t256, (a3_2 == 1))) = some (r1, r2) := H; have A23 := zA.mk A230; clear A230; simp only [Option.some.injEq, Prod.mk.injEq] at H; obtain ⟨rfl, rfl⟩ := H; go_enter Try.func19, Try.ntmps19
  try go_wp2_with (first | ((with_reducible refine gate_dst (N := 4) rfl ?_); refine box_event ?hg (N := 4) ?hd (cs := #[.slice A0_0 l0_0.length c0_0, .slice A0_1 l0_1.length c0_1]) (t := 31) ?hr ?_; (case hd => rfl); (case hg => rfl); (case hr => first | (go_simp; done) | (go_simp; rfl)); intro gb247 hg w24 hbox hb; have BK247 := zA.mk (hbox); have GW247 := zA.mk ((by rw [hg]; exact (zH (aL HB)) : w.heap.size ≤ gb247)); replace HB := zA.mk (zD (aL HB) hb); have GE247 := GW247; clear hb hbox hg) | ((with_reducible refine gate_dst (N := 7) rfl ?_); refine box_event ?hg (N := 7) ?hd (cs := #[.int .i64 a3_0, .int .i64 a3_1, .int .u8 a3_2, .int .i64 a3_3, .int .i64 a3_4, .float .f64 a3_5]) (t := 35) ?hr ?_; (case hd => rfl); (case hg => rfl); (case hr => first | (go_simp; done) | (go_simp; rfl)); intro gb248 hg w25 hbox hb; have BK248 := zA.mk (hbox); have GW248 := zA.mk ((by rw [hg]; exact (zH (aL HB)) : w.heap.size ≤ gb248)); replace HB := zA.mk (zD (aL HB) hb); have GE248 := GW248; have NB247_248 := zA.mk ((by rw [hg]; exact Nat.ne_of_lt (blk_lt (aB BK247)) : gb247 ≠ gb248)); have NB248_247 := zA.mk ((by rw [hg]; exact Nat.ne_of_gt (blk_lt (g := gb247) (o := .cells #[.slice A0_0 l0_0.length c0_0, .slice A0_1 l0_1.length c0_1] 31 (0, 0)) (aB BK247)) : gb248 ≠ gb247)); replace BK247 := zA.mk (zC (aB BK247) hb); clear hb hbox hg; have hnb26 := NB248_247.out; have hnc26 := NB247_248.out; obtain ⟨hcz27_0, hcz27_1, hcz27_2, hcz27_3, hcz27_4, hcz27_5, hfz27_0, hfz27_1, hfz27_2, hfz27_3, hfz27_4, hfz27_5⟩ := aC6 BK248))
  replace BK247 := zA.mk (zF BK247.out); replace BK248 := zA.mk (zF BK248.out); replace HB := zA.mk (below_drew1 HB.out); refine start_ (n := 10) (S := fun w' => w'.cell? ⟨gb247, 0, none⟩ = some (.slice A0_0 l0_0.length c0_0) ∧ w'.cell? ⟨gb247, 1, none⟩ = some (.slice A0_1 l0_1.length c0_1) ∧ w'.cell? ⟨gb248, 0, none⟩ = some (.int .i64 a3_0) ∧ w'.cell? ⟨gb248, 1, none⟩ = some (.int .i64 a3_1) ∧ w'.cell? ⟨gb248, 2, none⟩ = some (.int .u8 a3_2) ∧ w'.cell? ⟨gb248, 3, none⟩ = some (.int .i64 a3_3) ∧ w'.cell? ⟨gb248, 4, none⟩ = some (.int .i64 a3_4) ∧ w'.cell? ⟨gb248, 5, none⟩ = some (.float .f64 a3_5)) (ds := []) #[false, false, false, false, false, false, false, false, false, false] (by kernel_rfl) rfl rfl ⟨(zB BK247.out 0).trans rfl, (zB BK247.out 1).trans rfl, (zB BK248.out 0).trans rfl, (zB BK248.out 1).trans rfl, (zB BK248.out 2).trans rfl, (zB BK248.out 3).trans rfl, (zB BK248.out 4).trans rfl, (zB BK248.out 5).trans rfl⟩ (fun hHeld => ?_); refine with_tabW lines_Part.tab5 lines_Part.bits5 (fun HT_ HW_ => ?_)
  generalize w25.drew = w28 at BK247 BK248 HB hHeld ⊢
  refine aP 1 (some 26) (tb_ 2 10) HT_ ?_
  refine aP 2 (some 27) (tb_ 6 10) HT_ ?_
  refine aP 5 (some 30) (tb_ 38 10) HT_ ?_
  refine take_ (i := 0) (N := some 25) (v := ?_) (a' := ?_) (tb_ 39 10) rfl rfl (take_ofW HT_.out HW_.out (by kernel_rfl)) (fun _ _ _ h => h) (Or.inl ⟨by rfl, ?_⟩) hHeld ?_ ?_
  rotate_left
  ·rintro w' ⟨s0, s1, s2, s3, s4, s5, s6, s7⟩
   go_simp
   with_reducible rfl
  rotate_left
  ·simp only [Act.put, sA_, sB_, sC_, i64_w, i32_w]
   rfl
  refine take_ (i := 3) (N := some 28) (v := ?_) (a' := ?_) (tb_ 47 10) rfl rfl (take_ofW HT_.out HW_.out (by kernel_rfl)) (fun _ _ _ h => h) (Or.inl ⟨by rfl, ?_⟩) hHeld ?_ ?_
  rotate_left
  ·rintro w' ⟨s0, s1, s2, s3, s4, s5, s6, s7⟩
   go_simp
   with_reducible rfl
  rotate_left
  ·simp only [Act.put, sA_, sB_, sC_, i64_w, i32_w]
   rfl
  refine take_ (i := 6) (N := some 31) (v := ?_) (a' := ?_) (tb_ 111 10) rfl rfl (take_ofW HT_.out HW_.out (by kernel_rfl)) (fun _ _ _ h => h) (Or.inl ⟨by rfl, ?_⟩) hHeld ?_ ?_
  rotate_left
  ·rintro w' ⟨s0, s1, s2, s3, s4, s5, s6, s7⟩
   go_simp
   with_reducible rfl
  rotate_left
  ·simp only [Act.put, sA_, sB_, sC_, i64_w, i32_w]
   rfl
  refine aP 7 (some 32) (tb_ 239 10) HT_ ?_
  refine one_ (i := 4) (N := some 29) (tb_ 255 10) rfl rfl (one_of HT_.out (by kernel_rfl)) (by decide) (fun K hK => ?_)
  refine goes_ Try.func20 (by kernel_rfl) rfl #[.agg #[.slice A0_0 l0_0.length c0_0, .slice A0_1 l0_1.length c0_1], .int .i64 a1, .int .i64 a2, .agg #[.int .i64 a3_0, .int .i64 a3_1, .int .u8 a3_2, .int .i64 a3_3, .int .i64 a3_4, .float .f64 a3_5]] (by rfl) rfl rfl aT ?_
  with_reducible refine (first_Break.calls k _ _ l0_0 _ _ l0_1 a1 a2 a3_0 a3_1 a3_2 a3_3 a3_4 a3_5 t256 _ ?side1 ?side2 ?side3 ?side4 A23.out).mono ?_
  (case side1 => exact aA HR0_0 HB)
  (case side2 => exact HC0_0.out)
  (case side3 => exact aA HR0_1 HB)
  (case side4 => exact HC0_1.out)
  rintro e w29 ⟨v257, rfl, ho0, hb⟩
  refine ⟨_, rfl, ?_⟩
  have HO258 := zA.mk (Kd.zU ho0 (zH (aL HB))); replace BK247 := zA.mk (zC (aB BK247) hb); replace BK248 := zA.mk (zC (aB BK248) hb); replace HB := zA.mk (zD (aL HB) hb); (try clear hb)
  (try clear hb2)
  (try clear hk)
  (try clear hi)
  (try clear ho0)
  refine hK.out _ _ ⟨(zB BK247.out 0).trans rfl, (zB BK247.out 1).trans rfl, (zB BK248.out 0).trans rfl, (zB BK248.out 1).trans rfl, (zB BK248.out 2).trans rfl, (zB BK248.out 3).trans rfl, (zB BK248.out 4).trans rfl, (zB BK248.out 5).trans rfl⟩ (fun hHeld => ?_)
  clear hK K; refine norm_ (a' := ?_) ?_ ?_
  rotate_left
  ·show Act.put _ (some 29) _ = _
   simp only [Act.put, sA_, sB_, sC_, i64_w, i32_w]; rfl
  refine aP 8 (some 8) (tf_ 9 10) HT_ ?_
  refine aP 9 (some 9) (tb_ 1023 10) HT_ ?_
  refine done_ (done_of HT_.out (by kernel_rfl)) ?_
  try go_wp2
  go_ret2
  exact ⟨_, aX, aR HO258, aL HB⟩
 rw [if_pos c5] at H; have c5b0 : (a3_2 == 1) = true := beq_iff_eq.mpr c5
 have c5b1 : (a3_2 != 1) = false := bne_eq_false_iff_eq.mpr c5
 clear c5; replace H := Option.bind_eq_some_iff.mp H; obtain ⟨⟨t249, t252⟩, A60, H⟩ := H; replace H : (if t252 = true then (some (t249, false)) else ((first_Break.f k l0_0 l0_1 a1 a2 a3_0 a3_1 a3_2 a3_3 a3_4 a3_5).bind fun t253 => (some (t253, (a3_2 == 1))))) = some (r1, r2) := H
 have A6 := zA.mk A60; clear A60; by_cases c7 : t252 = true
 ·subst c7
  have H1 : (some (t249, false)) = some (r1, r2) := by rw [if_pos rfl] at H; exact H
  clear H; have H := H1; clear H1; simp only [Option.some.injEq, Prod.mk.injEq] at H; obtain ⟨rfl, rfl⟩ := H; go_enter Try.func19, Try.ntmps19
  go_wp2_with (first | ((with_reducible refine gate_dst (N := 4) rfl ?_); refine box_event ?hg (N := 4) ?hd (cs := #[.slice A0_0 l0_0.length c0_0, .slice A0_1 l0_1.length c0_1]) (t := 31) ?hr ?_; (case hd => rfl); (case hg => rfl); (case hr => first | (go_simp; done) | (go_simp; rfl)); intro gb247 hg w8 hbox hb; have BK247 := zA.mk (hbox); have GW247 := zA.mk ((by rw [hg]; exact (zH (aL HB)) : w.heap.size ≤ gb247)); replace HB := zA.mk (zD (aL HB) hb); have GE247 := GW247; clear hb hbox hg) | ((with_reducible refine gate_dst (N := 7) rfl ?_); refine box_event ?hg (N := 7) ?hd (cs := #[.int .i64 a3_0, .int .i64 a3_1, .int .u8 a3_2, .int .i64 a3_3, .int .i64 a3_4, .float .f64 a3_5]) (t := 35) ?hr ?_; (case hd => rfl); (case hg => rfl); (case hr => first | (go_simp; done) | (go_simp; rfl)); intro gb248 hg w9 hbox hb; have BK248 := zA.mk (hbox); have GW248 := zA.mk ((by rw [hg]; exact (zH (aL HB)) : w.heap.size ≤ gb248)); replace HB := zA.mk (zD (aL HB) hb); have GE248 := GW248; have NB247_248 := zA.mk ((by rw [hg]; exact Nat.ne_of_lt (blk_lt (aB BK247)) : gb247 ≠ gb248)); have NB248_247 := zA.mk ((by rw [hg]; exact Nat.ne_of_gt (blk_lt (g := gb247) (o := .cells #[.slice A0_0 l0_0.length c0_0, .slice A0_1 l0_1.length c0_1] 31 (0, 0)) (aB BK247)) : gb248 ≠ gb247)); replace BK247 := zA.mk (zC (aB BK247) hb); clear hb hbox hg; have hnb10 := NB248_247.out; have hnc10 := NB247_248.out; obtain ⟨hcz11_0, hcz11_1, hcz11_2, hcz11_3, hcz11_4, hcz11_5, hfz11_0, hfz11_1, hfz11_2, hfz11_3, hfz11_4, hfz11_5⟩ := aC6 BK248; obtain ⟨hcz12_0, hcz12_1, hfz12_0, hfz12_1⟩ := aC2 BK247) | ((with_reducible refine gate_callee (f := 21) rfl ?_); refine goesL_ (some 20) rfl rfl Try.func21 (by kernel_rfl) rfl #[.agg #[.slice A0_0 l0_0.length c0_0, .slice A0_1 l0_1.length c0_1], .int .i64 a1, .int .i64 a2, .agg #[.int .i64 a3_0, .int .i64 a3_1, .int .u8 a3_2, .int .i64 a3_3, .int .i64 a3_4, .float .f64 a3_5]] rfl aT ?_; (with_reducible refine (best_Break.calls k _ _ l0_0 _ _ l0_1 a1 a2 a3_0 a3_1 a3_2 a3_3 a3_4 a3_5 t249 true _ ?side1 ?side2 ?side3 ?side4 A6.out).mono ?_); (case side1 => exact aA HR0_0 HB); (case side2 => exact HC0_0.out); (case side3 => exact aA HR0_1 HB); (case side4 => exact HC0_1.out); rintro e w13 ⟨v250, rfl, ho0, hb⟩; refine ⟨_, rfl, ?_⟩; have HO251 := zA.mk (Kd.zU ho0 (zH (aL HB))); replace BK247 := zA.mk (zC (aB BK247) hb); replace BK248 := zA.mk (zC (aB BK248) hb); replace HB := zA.mk (zD (aL HB) hb); (try clear hb); (try clear hb2); (try clear hk); (try clear hi); (try clear ho0)))
  go_ret2
  exact ⟨_, aX, aR HO251, aL HB⟩
 replace c7 := Bool.eq_false_iff.mpr c7; subst c7; have H1 : ((first_Break.f k l0_0 l0_1 a1 a2 a3_0 a3_1 a3_2 a3_3 a3_4 a3_5).bind fun t253 => (some (t253, (a3_2 == 1)))) = some (r1, r2) := by rw [if_neg (show ¬ (false = true) by decide)] at H; exact H
 clear H; have H := H1; clear H1; replace H := Option.bind_eq_some_iff.mp H; obtain ⟨t253, A140, H⟩ := H; replace H : (some (t253, (a3_2 == 1))) = some (r1, r2) := H; have A14 := zA.mk A140; clear A140; simp only [Option.some.injEq, Prod.mk.injEq] at H; obtain ⟨rfl, rfl⟩ := H; go_enter Try.func19, Try.ntmps19
 try go_wp2_with (first | ((with_reducible refine gate_dst (N := 4) rfl ?_); refine box_event ?hg (N := 4) ?hd (cs := #[.slice A0_0 l0_0.length c0_0, .slice A0_1 l0_1.length c0_1]) (t := 31) ?hr ?_; (case hd => rfl); (case hg => rfl); (case hr => first | (go_simp; done) | (go_simp; rfl)); intro gb247 hg w15 hbox hb; have BK247 := zA.mk (hbox); have GW247 := zA.mk ((by rw [hg]; exact (zH (aL HB)) : w.heap.size ≤ gb247)); replace HB := zA.mk (zD (aL HB) hb); have GE247 := GW247; clear hb hbox hg) | ((with_reducible refine gate_dst (N := 7) rfl ?_); refine box_event ?hg (N := 7) ?hd (cs := #[.int .i64 a3_0, .int .i64 a3_1, .int .u8 a3_2, .int .i64 a3_3, .int .i64 a3_4, .float .f64 a3_5]) (t := 35) ?hr ?_; (case hd => rfl); (case hg => rfl); (case hr => first | (go_simp; done) | (go_simp; rfl)); intro gb248 hg w16 hbox hb; have BK248 := zA.mk (hbox); have GW248 := zA.mk ((by rw [hg]; exact (zH (aL HB)) : w.heap.size ≤ gb248)); replace HB := zA.mk (zD (aL HB) hb); have GE248 := GW248; have NB247_248 := zA.mk ((by rw [hg]; exact Nat.ne_of_lt (blk_lt (aB BK247)) : gb247 ≠ gb248)); have NB248_247 := zA.mk ((by rw [hg]; exact Nat.ne_of_gt (blk_lt (g := gb247) (o := .cells #[.slice A0_0 l0_0.length c0_0, .slice A0_1 l0_1.length c0_1] 31 (0, 0)) (aB BK247)) : gb248 ≠ gb247)); replace BK247 := zA.mk (zC (aB BK247) hb); clear hb hbox hg; have hnb17 := NB248_247.out; have hnc17 := NB247_248.out; obtain ⟨hcz18_0, hcz18_1, hcz18_2, hcz18_3, hcz18_4, hcz18_5, hfz18_0, hfz18_1, hfz18_2, hfz18_3, hfz18_4, hfz18_5⟩ := aC6 BK248; obtain ⟨hcz19_0, hcz19_1, hfz19_0, hfz19_1⟩ := aC2 BK247) | ((with_reducible refine gate_callee (f := 21) rfl ?_); refine goesL_ (some 20) rfl rfl Try.func21 (by kernel_rfl) rfl #[.agg #[.slice A0_0 l0_0.length c0_0, .slice A0_1 l0_1.length c0_1], .int .i64 a1, .int .i64 a2, .agg #[.int .i64 a3_0, .int .i64 a3_1, .int .u8 a3_2, .int .i64 a3_3, .int .i64 a3_4, .float .f64 a3_5]] rfl aT ?_; (with_reducible refine (best_Break.calls k _ _ l0_0 _ _ l0_1 a1 a2 a3_0 a3_1 a3_2 a3_3 a3_4 a3_5 t249 false _ ?side1 ?side2 ?side3 ?side4 A6.out).mono ?_); (case side1 => exact aA HR0_0 HB); (case side2 => exact HC0_0.out); (case side3 => exact aA HR0_1 HB); (case side4 => exact HC0_1.out); rintro e w20 ⟨v250, rfl, ho0, hb⟩; refine ⟨_, rfl, ?_⟩; have HO251 := zA.mk (Kd.zU ho0 (zH (aL HB))); replace BK247 := zA.mk (zC (aB BK247) hb); replace BK248 := zA.mk (zC (aB BK248) hb); replace HB := zA.mk (zD (aL HB) hb); (try clear hb); (try clear hb2); (try clear hk); (try clear hi); (try clear ho0)))
 replace HO251 := zA.mk (Kd.zL HO251.out); replace BK247 := zA.mk (zF BK247.out); replace BK248 := zA.mk (zF BK248.out); replace HB := zA.mk (below_drew1 HB.out); refine start_ (n := 10) (S := fun w' => w'.cell? ⟨gb247, 0, none⟩ = some (.slice A0_0 l0_0.length c0_0) ∧ w'.cell? ⟨gb247, 1, none⟩ = some (.slice A0_1 l0_1.length c0_1) ∧ w'.cell? ⟨gb248, 0, none⟩ = some (.int .i64 a3_0) ∧ w'.cell? ⟨gb248, 1, none⟩ = some (.int .i64 a3_1) ∧ w'.cell? ⟨gb248, 2, none⟩ = some (.int .u8 a3_2) ∧ w'.cell? ⟨gb248, 3, none⟩ = some (.int .i64 a3_3) ∧ w'.cell? ⟨gb248, 4, none⟩ = some (.int .i64 a3_4) ∧ w'.cell? ⟨gb248, 5, none⟩ = some (.float .f64 a3_5)) (ds := []) #[false, false, false, false, false, false, false, false, false, false] (by kernel_rfl) rfl rfl ⟨(zB BK247.out 0).trans rfl, (zB BK247.out 1).trans rfl, (zB BK248.out 0).trans rfl, (zB BK248.out 1).trans rfl, (zB BK248.out 2).trans rfl, (zB BK248.out 3).trans rfl, (zB BK248.out 4).trans rfl, (zB BK248.out 5).trans rfl⟩ (fun hHeld => ?_); refine with_tabW lines_Part.tab5 lines_Part.bits5 (fun HT_ HW_ => ?_)
 generalize w20.drew = w21 at HO251 BK247 BK248 HB hHeld ⊢
 refine aP 1 (some 26) (tb_ 2 10) HT_ ?_
 refine aP 2 (some 27) (tb_ 6 10) HT_ ?_
 refine aP 5 (some 30) (tb_ 38 10) HT_ ?_
 refine take_ (i := 0) (N := some 25) (v := ?_) (a' := ?_) (tb_ 39 10) rfl rfl (take_ofW HT_.out HW_.out (by kernel_rfl)) (fun _ _ _ h => h) (Or.inl ⟨by rfl, ?_⟩) hHeld ?_ ?_
 rotate_left
 ·rintro w' ⟨s0, s1, s2, s3, s4, s5, s6, s7⟩
  go_simp
  with_reducible rfl
 rotate_left
 ·simp only [Act.put, sA_, sB_, sC_, i64_w, i32_w]
  rfl
 refine take_ (i := 3) (N := some 28) (v := ?_) (a' := ?_) (tb_ 47 10) rfl rfl (take_ofW HT_.out HW_.out (by kernel_rfl)) (fun _ _ _ h => h) (Or.inl ⟨by rfl, ?_⟩) hHeld ?_ ?_
 rotate_left
 ·rintro w' ⟨s0, s1, s2, s3, s4, s5, s6, s7⟩
  go_simp
  with_reducible rfl
 rotate_left
 ·simp only [Act.put, sA_, sB_, sC_, i64_w, i32_w]
  rfl
 refine take_ (i := 6) (N := some 31) (v := ?_) (a' := ?_) (tb_ 111 10) rfl rfl (take_ofW HT_.out HW_.out (by kernel_rfl)) (fun _ _ _ h => h) (Or.inl ⟨by rfl, ?_⟩) hHeld ?_ ?_
 rotate_left
 ·rintro w' ⟨s0, s1, s2, s3, s4, s5, s6, s7⟩
  go_simp
  with_reducible rfl
 rotate_left
 ·simp only [Act.put, sA_, sB_, sC_, i64_w, i32_w]
  rfl
 refine aP 7 (some 32) (tb_ 239 10) HT_ ?_
 refine one_ (i := 4) (N := some 29) (tb_ 255 10) rfl rfl (one_of HT_.out (by kernel_rfl)) (by decide) (fun K hK => ?_)
 refine goes_ Try.func20 (by kernel_rfl) rfl #[.agg #[.slice A0_0 l0_0.length c0_0, .slice A0_1 l0_1.length c0_1], .int .i64 a1, .int .i64 a2, .agg #[.int .i64 a3_0, .int .i64 a3_1, .int .u8 a3_2, .int .i64 a3_3, .int .i64 a3_4, .float .f64 a3_5]] (by rfl) rfl rfl aT ?_
 with_reducible refine (first_Break.calls k _ _ l0_0 _ _ l0_1 a1 a2 a3_0 a3_1 a3_2 a3_3 a3_4 a3_5 t253 _ ?side1 ?side2 ?side3 ?side4 A14.out).mono ?_
 (case side1 => exact aA HR0_0 HB)
 (case side2 => exact HC0_0.out)
 (case side3 => exact aA HR0_1 HB)
 (case side4 => exact HC0_1.out)
 rintro e w22 ⟨v254, rfl, ho0, hb⟩
 refine ⟨_, rfl, ?_⟩
 have HO255 := zA.mk (Kd.zU (Kd.R_new' ho0 (Kd.R_lt (aR HO251))) (zH (aL HB))); replace HO251 := zA.mk (Kd.R_elder' (aR HO251) (Kd.R_base ho0) hb); replace BK247 := zA.mk (zC (aB BK247) hb); replace BK248 := zA.mk (zC (aB BK248) hb); replace HB := zA.mk (zD (aL HB) hb); (try clear hb)
 (try clear hb2)
 (try clear hk)
 (try clear hi)
 (try clear ho0)
 refine hK.out _ _ ⟨(zB BK247.out 0).trans rfl, (zB BK247.out 1).trans rfl, (zB BK248.out 0).trans rfl, (zB BK248.out 1).trans rfl, (zB BK248.out 2).trans rfl, (zB BK248.out 3).trans rfl, (zB BK248.out 4).trans rfl, (zB BK248.out 5).trans rfl⟩ (fun hHeld => ?_)
 clear hK K; refine norm_ (a' := ?_) ?_ ?_
 rotate_left
 ·show Act.put _ (some 29) _ = _
  simp only [Act.put, sA_, sB_, sC_, i64_w, i32_w]; rfl
 refine aP 8 (some 8) (tf_ 9 10) HT_ ?_
 refine aP 9 (some 9) (tb_ 1023 10) HT_ ?_
 refine done_ (done_of HT_.out (by kernel_rfl)) ?_
 try go_wp2
 go_ret2
 exact ⟨_, aX, by (with_reducible repeat (first | apply Kd.zJ | apply Kd.zK | apply Kd.zL)); exact Kd.zV HO255.out (fun _ hk => trivial), aL HB⟩
def lines_Break.l0 : Nat → List (S54) → Bool → Int → List Int → Int → Int → List (S66) → List Int → Int → Int → Int → Int → Int → Nat → Option ((List (S54)) × Bool)
 | 0, _, _, _, _, _, _, _, _, _, _, _, _, _, _ => none
 | k + 1, x6, x7, x8, x14, x15, x16, x260000, x260001, x261000, x261001, x261002, x261003, x261004, x261005 => if x16 < x15 then (if 0 ≤ x16 then (if x16 < (x14.length : Int) then ((lines_Part.f k x260000 x260001 x8 (rd x14 x16) x261000 x261001 x261002 x261003 x261004 x261005).bind fun bt265 => (if x6.length + bt265.1.length < 4398046511104 then ((some (x6 ++ bt265.1 : List (S54))).bind fun y269 => (if x7 = true then (lines_Break.l0 k y269 true (rd x14 x16) x14 x15 (wrap64 (x16 + 1)) x260000 x260001 x261000 x261001 x261002 x261003 x261004 x261005) else (lines_Break.l0 k y269 bt265.2 (rd x14 x16) x14 x15 (wrap64 (x16 + 1)) x260000 x260001 x261000 x261001 x261002 x261003 x261004 x261005))) else (none))) else (none)) else (none)) else (some (x6, x7))
def lines_Break.f (k : Nat) (l0_0 : List (S66)) (l0_1 : List Int) (a1_0 : Int) (a1_1 : Int) (a1_2 : Int) (a1_3 : Int) (a1_4 : Int) (a1_5 : Nat) : Option ((List (S54)) × Bool) := (items_Parts.f k l0_0 l0_1).bind fun t261 => (lines_Break.l0 k ([] : List (S54)) false 0 t261 (t261.length : Int) 0 l0_0 l0_1 a1_0 a1_1 a1_2 a1_3 a1_4 a1_5)
theorem lines_Break.mono_l : ∀ k, (∀ y0 y1 y2 y3 y4 y5 y6 y7 y8 y9 y10 y11 y12 y13, LeO (lines_Break.l0 k y0 y1 y2 y3 y4 y5 y6 y7 y8 y9 y10 y11 y12 y13) (lines_Break.l0 (k + 1) y0 y1 y2 y3 y4 y5 y6 y7 y8 y9 y10 y11 y12 y13))
 | 0 => fun _ _ _ _ _ _ _ _ _ _ _ _ _ _ r h => by simp [lines_Break.l0] at h
 | k + 1 => by
  have ih0 := lines_Break.mono_l k
  ·intro y0 y1 y2 y3 y4 y5 y6 y7 y8 y9 y10 y11 y12 y13
   unfold lines_Break.l0
   repeat' (with_reducible first | exact ih0 _ _ _ _ _ _ _ _ _ _ _ _ _ _ | exact items_Parts.mono _ _ _ | exact lines_Part.mono _ _ _ _ _ _ _ _ _ _ _ | exact LeO.refl _ | exact LeO.none _ | refine LeO.ite ?_ ?_ | refine LeO.bind ?_ (fun _ => ?_))
theorem lines_Break.mono : ∀ a0 a1 a2 a3 a4 a5 a6 a7 k, LeO (lines_Break.f k a0 a1 a2 a3 a4 a5 a6 a7) (lines_Break.f (k + 1) a0 a1 a2 a3 a4 a5 a6 a7) := by
 intro a0 a1 a2 a3 a4 a5 a6 a7 k
 have ih0 := lines_Break.mono_l k; unfold lines_Break.f
 repeat' (with_reducible first | exact ih0 _ _ _ _ _ _ _ _ _ _ _ _ _ _ | exact items_Parts.mono _ _ _ | exact lines_Part.mono _ _ _ _ _ _ _ _ _ _ _ | exact LeO.refl _ | exact LeO.none _ | refine LeO.ite ?_ ?_ | refine LeO.bind ?_ (fun _ => ?_))
set_option maxHeartbeats 8000000 in
set_option maxRecDepth 100000 in
theorem lines_Break.calls (k : Nat) (A0_0 : Option Addr) (c0_0 : Nat) (l0_0 : List (S66)) (A0_1 : Option Addr) (c0_1 : Nat) (l0_1 : List Int) (a1_0 : Int) (a1_1 : Int) (a1_2 : Int) (a1_3 : Int) (a1_4 : Int) (a1_5 : Nat) (r1 : List (S54)) (r2 : Bool) (w : World) (hr0_0 : Kd.C k66 w A0_0 l0_0.length l0_0) (hc0_0 : l0_0.length ≤ c0_0) (hr0_1 : Kd.C (Kd.int .u8) w A0_1 l0_1.length l0_1) (hc0_1 : l0_1.length ≤ c0_1) (h : lines_Break.f k l0_0 l0_1 a1_0 a1_1 a1_2 a1_3 a1_4 a1_5 = some (r1, r2)) :
  Calls Try.prog 12 #[.agg #[.slice A0_0 l0_0.length c0_0, .slice A0_1 l0_1.length c0_1], .agg #[.int .i64 a1_0, .int .i64 a1_1, .int .u8 a1_2, .int .i64 a1_3, .int .i64 a1_4, .float .f64 a1_5]] w fun e w' => ∃ v0_ : Value, e = .returned (.tuple #[v0_, .bool r2]) ∧ Kd.R k54 54 w' w.heap.size (fun _ => True) v0_ r1 ∧ Below w.heap.size w w' := by
 have hu31 := Try.underlying31; have hu35 := Try.underlying35; have HR0_0 := zA.mk hr0_0; have HC0_0 := zA.mk hc0_0; clear hr0_0 hc0_0; have HR0_1 := zA.mk hr0_1; have HC0_1 := zA.mk hc0_1; clear hr0_1 hc0_1; have HB := zA.mk (Below.refl w.heap.size w); have H : ((items_Parts.f k l0_0 l0_1).bind fun t261 => (lines_Break.l0 k ([] : List (S54)) false 0 t261 (t261.length : Int) 0 l0_0 l0_1 a1_0 a1_1 a1_2 a1_3 a1_4 a1_5)) = some (r1, r2) := h
 clear h; replace H := Option.bind_eq_some_iff.mp H; obtain ⟨t261, A30, H⟩ := H; replace H : (lines_Break.l0 k ([] : List (S54)) false 0 t261 (t261.length : Int) 0 l0_0 l0_1 a1_0 a1_1 a1_2 a1_3 a1_4 a1_5) = some (r1, r2) := H; have A3 := zA.mk A30; clear A30; have H' := zA.mk H
 clear H; go_enter Try.func12, Try.ntmps12
 go_wp2_with (first | ((with_reducible refine gate_dst (N := 2) rfl ?_); refine box_event ?hg (N := 2) ?hd (cs := #[.slice A0_0 l0_0.length c0_0, .slice A0_1 l0_1.length c0_1]) (t := 31) ?hr ?_; (case hd => rfl); (case hg => rfl); (case hr => first | (go_simp; done) | (go_simp; rfl)); intro gb259 hg w4 hbox hb; have BK259 := zA.mk (hbox); have GW259 := zA.mk ((by rw [hg]; exact (zH (aL HB)) : w.heap.size ≤ gb259)); replace HB := zA.mk (zD (aL HB) hb); have GE259 := GW259; clear hb hbox hg) | ((with_reducible refine gate_dst (N := 3) rfl ?_); refine box_event ?hg (N := 3) ?hd (cs := #[.int .i64 a1_0, .int .i64 a1_1, .int .u8 a1_2, .int .i64 a1_3, .int .i64 a1_4, .float .f64 a1_5]) (t := 35) ?hr ?_; (case hd => rfl); (case hg => rfl); (case hr => first | (go_simp; done) | (go_simp; rfl)); intro gb260 hg w5 hbox hb; have BK260 := zA.mk (hbox); have GW260 := zA.mk ((by rw [hg]; exact (zH (aL HB)) : w.heap.size ≤ gb260)); replace HB := zA.mk (zD (aL HB) hb); have GE260 := GW260; have NB259_260 := zA.mk ((by rw [hg]; exact Nat.ne_of_lt (blk_lt (aB BK259)) : gb259 ≠ gb260)); have NB260_259 := zA.mk ((by rw [hg]; exact Nat.ne_of_gt (blk_lt (g := gb259) (o := .cells #[.slice A0_0 l0_0.length c0_0, .slice A0_1 l0_1.length c0_1] 31 (0, 0)) (aB BK259)) : gb260 ≠ gb259)); replace BK259 := zA.mk (zC (aB BK259) hb); clear hb hbox hg; have hnb6 := NB259_260.out; have hnc6 := NB260_259.out; obtain ⟨hcz7_0, hcz7_1, hfz7_0, hfz7_1⟩ := aC2 BK259) | ((with_reducible refine gate_callee (f := 18) rfl ?_); refine goesL_ (some 14) rfl rfl Try.func18 (by kernel_rfl) rfl #[.agg #[.slice A0_0 l0_0.length c0_0, .slice A0_1 l0_1.length c0_1]] rfl aT ?_; (with_reducible refine (items_Parts.calls k _ _ l0_0 _ _ l0_1 t261 _ ?side1 ?side2 ?side3 ?side4 A3.out).mono ?_); (case side1 => exact aA HR0_0 HB); (case side2 => exact HC0_0.out); (case side3 => exact aA HR0_1 HB); (case side4 => exact HC0_1.out); rintro e w8 ⟨v262, rfl, ho0, hb⟩; refine ⟨_, rfl, ?_⟩; have HO263 := zA.mk (Kd.zU ho0 (zH (aL HB))); replace BK259 := zA.mk (zC (aB BK259) hb); replace BK260 := zA.mk (zC (aB BK260) hb); replace HB := zA.mk (zD (aL HB) hb); (try clear hb); (try clear hb2); (try clear hk); (try clear hi); (try clear ho0); obtain ⟨Ao9, co9, eo9⟩ := Kd.zT HO263.out; subst eo9))
 go_loopg [6, 7, 8, 16] k (fun kq v6 v7 v8 v16 w' => ∃ (x6_1 : List (S54)) (x7_1 : Bool) (x8_1 : Int) (x16_1 : Int), v7 = .bool x7_1 ∧ v8 = .int .i64 x8_1 ∧ v16 = .int .i64 x16_1 ∧ zA (lines_Break.l0 kq x6_1 x7_1 x8_1 t261 (t261.length : Int) x16_1 l0_0 l0_1 a1_0 a1_1 a1_2 a1_3 a1_4 a1_5 = some (r1, r2)) ∧ zA (kq ≤ k) ∧ zA (Kd.R k54 54 w' w.heap.size (fun _ => True) v6 x6_1) ∧ zA (Kd.R (Kd.int .i64) 3 w' w.heap.size (fun _ => True) (.slice Ao9 t261.length co9) t261) ∧ zA (w'.heap[gb259]? = some (.cells #[(.slice A0_0 l0_0.length c0_0), (.slice A0_1 l0_1.length c0_1)] 31 (0, 0))) ∧ zA (w'.heap[gb260]? = some (.cells #[.int .i64 a1_0, .int .i64 a1_1, .int .u8 a1_2, .int .i64 a1_3, .int .i64 a1_4, .float .f64 a1_5] 35 (0, 0))) ∧ zA (Below w.heap.size w w'))
 case atStart => exact ⟨(([] : List (S54))), (false), (0), (0), aZ, aZ, aZ, H', ⟨Nat.le_refl _⟩, ⟨by first | exact Kd.R_nil _ _ _ _ _ | exact Kd.N_nil _ _ _ _ _ | exact Kd.V_nil _ _ _ _ _ | exact Kd.Q_nil _ _ _ _ _ | exact Kd.S_nil _ _ _ _ _⟩, ⟨aR HO263⟩, ⟨aB BK259⟩, ⟨aB BK260⟩, ⟨aL HB⟩⟩
 clear H'; obtain ⟨x6_1, x7_1, x8_1, x16_1, rfl, rfl, rfl, HA, HK1, HO_6, HO_14, BK259, BK260, HB⟩ := hrel; cases gk with
 | zero => exact absurd HA.out (by simp [lines_Break.l0])
 | succ k1 =>
  have H := HA.out; clear HA; simp only [lines_Break.l0] at H; by_cases c10 : x16_1 < (t261.length : Int)
  rotate_left
  ·rw [if_neg c10] at H
   have c10b0 : decide (x16_1 < (t261.length : Int)) = false := decide_eq_false c10
   clear c10; simp only [Option.some.injEq, Prod.mk.injEq] at H; obtain ⟨rfl, rfl⟩ := H; go_wp2
   go_ret2
   exact ⟨_, aX, aR HO_6, aL HB⟩
  rw [if_pos c10] at H; have c10b0 : decide (x16_1 < (t261.length : Int)) = true := decide_eq_true c10
  clear c10; by_cases c11 : 0 ≤ x16_1
  rotate_left
  ·rw [if_neg c11] at H
   exact absurd H (by simp)
  rw [if_pos c11] at H; have c11b0 : decide (0 ≤ x16_1) = true := decide_eq_true c11
  clear c11; by_cases c12 : x16_1 < (t261.length : Int)
  rotate_left
  ·rw [if_neg c12] at H
   exact absurd H (by simp)
  rw [if_pos c12] at H; have c12b0 : decide (x16_1 < (t261.length : Int)) = true := decide_eq_true c12
  clear c12; replace H := Option.bind_eq_some_iff.mp H; obtain ⟨⟨t265, t268⟩, A130, H⟩ := H; replace H : (if x6_1.length + t265.length < 4398046511104 then ((some (x6_1 ++ t265 : List (S54))).bind fun y269 => (if x7_1 = true then (lines_Break.l0 k1 y269 true (rd t261 x16_1) t261 (t261.length : Int) (wrap64 (x16_1 + 1)) l0_0 l0_1 a1_0 a1_1 a1_2 a1_3 a1_4 a1_5) else (lines_Break.l0 k1 y269 t268 (rd t261 x16_1) t261 (t261.length : Int) (wrap64 (x16_1 + 1)) l0_0 l0_1 a1_0 a1_1 a1_2 a1_3 a1_4 a1_5))) else (none)) = some (r1, r2) := H
  have A13 := zA.mk A130; clear A130; by_cases c14 : x6_1.length + t265.length < 4398046511104
  rotate_left
  ·rw [if_neg c14] at H
   exact absurd H (by simp)
  rw [if_pos c14] at H; have LMc14 := zA.mk c14; clear c14; obtain ⟨y269, hy269⟩ : ∃ y_ : List (S54), y_ = (x6_1 ++ t265) := ⟨_, rfl⟩; replace H : (if x7_1 = true then (lines_Break.l0 k1 y269 true (rd t261 x16_1) t261 (t261.length : Int) (wrap64 (x16_1 + 1)) l0_0 l0_1 a1_0 a1_1 a1_2 a1_3 a1_4 a1_5) else (lines_Break.l0 k1 y269 t268 (rd t261 x16_1) t261 (t261.length : Int) (wrap64 (x16_1 + 1)) l0_0 l0_1 a1_0 a1_1 a1_2 a1_3 a1_4 a1_5)) = some (r1, r2) := by first | (rw [hy269]; with_reducible exact H) | (have H2_ := (Option.bind_some _ _).symm.trans H; rw [hy269]; with_reducible exact H2_) | (have H2_ := (Option.bind_some _ _).symm.trans H; with_reducible exact H2_) | with_reducible exact H | (rw [hy269]; exact H) | exact H
  have Ny269 := zA.mk hy269; clear hy269; by_cases c15 : x7_1 = true
  ·subst c15
   have H1 : (lines_Break.l0 k1 y269 true (rd t261 x16_1) t261 (t261.length : Int) (wrap64 (x16_1 + 1)) l0_0 l0_1 a1_0 a1_1 a1_2 a1_3 a1_4 a1_5) = some (r1, r2) := by rw [if_pos rfl] at H; exact H
   clear H; have H := H1; clear H1; have H' := zA.mk H
   clear H; have p264 : 0 ≤ (x16_1 : Int) := aD
   have q264 : x16_1 < (t261.length : Int) := aD
   obtain ⟨ad264, e264, hx264_0⟩ := Kd.at_int (Kd.zQ HO_14.out).2.2 x16_1 p264 q264; cases e264
   replace p264 := eq_true p264; replace q264 := eq_true q264; have hnb16 := NB259_260.out; have hnc16 := NB260_259.out; obtain ⟨hcz17_0, hcz17_1, hfz17_0, hfz17_1⟩ := aC2 BK259; obtain ⟨hcz18_0, hcz18_1, hcz18_2, hcz18_3, hcz18_4, hcz18_5, hfz18_0, hfz18_1, hfz18_2, hfz18_3, hfz18_4, hfz18_5⟩ := aC6 BK260; go_wp2_with (first | ((with_reducible refine gate_callee (f := 19) rfl ?_); refine goesL_ (some 25) rfl rfl Try.func19 (by kernel_rfl) rfl #[.agg #[.slice A0_0 l0_0.length c0_0, .slice A0_1 l0_1.length c0_1], .int .i64 x8_1, .int .i64 (rd t261 x16_1), .agg #[.int .i64 a1_0, .int .i64 a1_1, .int .u8 a1_2, .int .i64 a1_3, .int .i64 a1_4, .float .f64 a1_5]] rfl aT ?_; (with_reducible refine (lines_Part.calls k1 _ _ l0_0 _ _ l0_1 x8_1 (rd t261 x16_1) a1_0 a1_1 a1_2 a1_3 a1_4 a1_5 t265 t268 _ ?side1 ?side2 ?side3 ?side4 A13.out).mono ?_); (case side1 => exact aA HR0_0 HB); (case side2 => exact HC0_0.out); (case side3 => exact aA HR0_1 HB); (case side4 => exact HC0_1.out); rintro e w19 ⟨v266, rfl, ho0, hb⟩; refine ⟨_, rfl, ?_⟩; replace HO_14 := zA.mk (Kd.zR (aR HO_14) hb); have HO267 := zA.mk (Kd.zU (Kd.R_new' ho0 (Kd.R_lt (aR HO_6))) (zH (aL HB))); replace HO_6 := zA.mk (Kd.R_elder' (aR HO_6) (Kd.R_base ho0) hb); replace BK259 := zA.mk (zC (aB BK259) hb); replace BK260 := zA.mk (zC (aB BK260) hb); replace HB := zA.mk (zD (aL HB) hb); (try clear hb); (try clear hb2); (try clear hk); (try clear hi); (try clear ho0); obtain ⟨Ao21, co21, eo21⟩ := Kd.zT HO267.out; subst eo21) | ((with_reducible refine gate_builtin (b := .append) (xs := #[.tmp 28, .tmp 29]) rfl ?_); at_builtin; refine Kd.R_append_rows k54 (w0 := w) w.heap.size rfl (.tmp 28) (.tmp 29) 37 54 (.agg #[(.int .i64 0), (.int .i64 0), (.int .i64 0), (.int .u8 0)]) 32 rfl Try.underlying37 info54 rfl (by decide) (by omega) u6 x6_1 t265 _ _ _ (fun k_ => some k_ ≠ (.slice Ao21 t265.length co21 : Value).ownBlock) (fun _ => False) rfl rfl ?aO ?aR (fun _ _ h => h) (fun _ h => h.elim) ?aF ?aB ?aS ?aL ?_; (case aR => exact aF HO267); (case aB => exact (aL HB)); (case aF => exact (fun k_ hk => Kd.fresh' (Kd.R_lt (aR HO267)) k_ hk)); (case aO => exact (by (with_reducible repeat (first | apply Kd.zJ | apply Kd.zK | apply Kd.zL)); exact Kd.zV HO_6.out (fun _ hk => hk.2))); (case aS => exact (zH (aL HB))); (case aL => have := LMc14.out; omega); intro v270 w20 ho hb hg hat; rw [← Ny269.out] at ho; replace HO_14 := zA.mk (Kd.R_over' (aR HO_14) (Kd.R_typed (aR HO_6)) (by decide) hg); replace BK259 := zA.mk (blk_grown (g := gb259) (o := .cells #[.slice A0_0 l0_0.length c0_0, .slice A0_1 l0_1.length c0_1] 31 (0, 0)) (aB BK259) hg (Kd.R_ne HO_6.out BK259.out (by decide))); replace BK260 := zA.mk (blk_grown (g := gb260) (o := .cells #[.int .i64 a1_0, .int .i64 a1_1, .int .u8 a1_2, .int .i64 a1_3, .int .i64 a1_4, .float .f64 a1_5] 35 (0, 0)) (aB BK260) hg (Kd.R_ne HO_6.out BK260.out (by decide))); replace HO267 := zA.mk (Kd.R_after (ok := (fun _ => True)) (aR HO267) hg hat); replace HB := zA.mk (hb); have HO271 := zA.mk (ho); clear HO_6; clear ho hb hg hat))
   go_roundg k1
   case measure => have := HK1.out; omega
   case rel => exact ⟨(y269), (true), (rd t261 x16_1), (wrap64 (x16_1 + 1)), aZ, aZ, aZ, H', ⟨by have := HK1.out; omega⟩, ⟨by (with_reducible repeat (first | apply Kd.zJ | apply Kd.zK | apply Kd.zL)); exact Kd.zV HO271.out (fun _ hk => trivial)⟩, ⟨aR HO_14⟩, ⟨aB BK259⟩, ⟨aB BK260⟩, ⟨aL HB⟩⟩
  replace c15 := Bool.eq_false_iff.mpr c15; subst c15; have H1 : (lines_Break.l0 k1 y269 t268 (rd t261 x16_1) t261 (t261.length : Int) (wrap64 (x16_1 + 1)) l0_0 l0_1 a1_0 a1_1 a1_2 a1_3 a1_4 a1_5) = some (r1, r2) := by rw [if_neg (show ¬ (false = true) by decide)] at H; exact H
  clear H; have H := H1; clear H1; have H' := zA.mk H
  clear H; have p264 : 0 ≤ (x16_1 : Int) := aD
  have q264 : x16_1 < (t261.length : Int) := aD
  obtain ⟨ad264, e264, hx264_0⟩ := Kd.at_int (Kd.zQ HO_14.out).2.2 x16_1 p264 q264; cases e264
  replace p264 := eq_true p264; replace q264 := eq_true q264; have hnb22 := NB259_260.out; have hnc22 := NB260_259.out; obtain ⟨hcz23_0, hcz23_1, hfz23_0, hfz23_1⟩ := aC2 BK259; obtain ⟨hcz24_0, hcz24_1, hcz24_2, hcz24_3, hcz24_4, hcz24_5, hfz24_0, hfz24_1, hfz24_2, hfz24_3, hfz24_4, hfz24_5⟩ := aC6 BK260; go_wp2_with (first | ((with_reducible refine gate_callee (f := 19) rfl ?_); refine goesL_ (some 25) rfl rfl Try.func19 (by kernel_rfl) rfl #[.agg #[.slice A0_0 l0_0.length c0_0, .slice A0_1 l0_1.length c0_1], .int .i64 x8_1, .int .i64 (rd t261 x16_1), .agg #[.int .i64 a1_0, .int .i64 a1_1, .int .u8 a1_2, .int .i64 a1_3, .int .i64 a1_4, .float .f64 a1_5]] rfl aT ?_; (with_reducible refine (lines_Part.calls k1 _ _ l0_0 _ _ l0_1 x8_1 (rd t261 x16_1) a1_0 a1_1 a1_2 a1_3 a1_4 a1_5 t265 t268 _ ?side1 ?side2 ?side3 ?side4 A13.out).mono ?_); (case side1 => exact aA HR0_0 HB); (case side2 => exact HC0_0.out); (case side3 => exact aA HR0_1 HB); (case side4 => exact HC0_1.out); rintro e w25 ⟨v266, rfl, ho0, hb⟩; refine ⟨_, rfl, ?_⟩; replace HO_14 := zA.mk (Kd.zR (aR HO_14) hb); have HO267 := zA.mk (Kd.zU (Kd.R_new' ho0 (Kd.R_lt (aR HO_6))) (zH (aL HB))); replace HO_6 := zA.mk (Kd.R_elder' (aR HO_6) (Kd.R_base ho0) hb); replace BK259 := zA.mk (zC (aB BK259) hb); replace BK260 := zA.mk (zC (aB BK260) hb); replace HB := zA.mk (zD (aL HB) hb); (try clear hb); (try clear hb2); (try clear hk); (try clear hi); (try clear ho0); obtain ⟨Ao27, co27, eo27⟩ := Kd.zT HO267.out; subst eo27) | ((with_reducible refine gate_builtin (b := .append) (xs := #[.tmp 28, .tmp 29]) rfl ?_); at_builtin; refine Kd.R_append_rows k54 (w0 := w) w.heap.size rfl (.tmp 28) (.tmp 29) 37 54 (.agg #[(.int .i64 0), (.int .i64 0), (.int .i64 0), (.int .u8 0)]) 32 rfl Try.underlying37 info54 rfl (by decide) (by omega) u6 x6_1 t265 _ _ _ (fun k_ => some k_ ≠ (.slice Ao27 t265.length co27 : Value).ownBlock) (fun _ => False) rfl rfl ?aO ?aR (fun _ _ h => h) (fun _ h => h.elim) ?aF ?aB ?aS ?aL ?_; (case aR => exact aF HO267); (case aB => exact (aL HB)); (case aF => exact (fun k_ hk => Kd.fresh' (Kd.R_lt (aR HO267)) k_ hk)); (case aO => exact (by (with_reducible repeat (first | apply Kd.zJ | apply Kd.zK | apply Kd.zL)); exact Kd.zV HO_6.out (fun _ hk => hk.2))); (case aS => exact (zH (aL HB))); (case aL => have := LMc14.out; omega); intro v270 w26 ho hb hg hat; rw [← Ny269.out] at ho; replace HO_14 := zA.mk (Kd.R_over' (aR HO_14) (Kd.R_typed (aR HO_6)) (by decide) hg); replace BK259 := zA.mk (blk_grown (g := gb259) (o := .cells #[.slice A0_0 l0_0.length c0_0, .slice A0_1 l0_1.length c0_1] 31 (0, 0)) (aB BK259) hg (Kd.R_ne HO_6.out BK259.out (by decide))); replace BK260 := zA.mk (blk_grown (g := gb260) (o := .cells #[.int .i64 a1_0, .int .i64 a1_1, .int .u8 a1_2, .int .i64 a1_3, .int .i64 a1_4, .float .f64 a1_5] 35 (0, 0)) (aB BK260) hg (Kd.R_ne HO_6.out BK260.out (by decide))); replace HO267 := zA.mk (Kd.R_after (ok := (fun _ => True)) (aR HO267) hg hat); replace HB := zA.mk (hb); have HO271 := zA.mk (ho); clear HO_6; clear ho hb hg hat))
  go_roundg k1
  case measure => have := HK1.out; omega
  case rel => exact ⟨(y269), (t268), (rd t261 x16_1), (wrap64 (x16_1 + 1)), aZ, aZ, aZ, H', ⟨by have := HK1.out; omega⟩, ⟨by (with_reducible repeat (first | apply Kd.zJ | apply Kd.zK | apply Kd.zL)); exact Kd.zV HO271.out (fun _ hk => trivial)⟩, ⟨aR HO_14⟩, ⟨aB BK259⟩, ⟨aB BK260⟩, ⟨aL HB⟩⟩
def lines_Rows.l0 : Nat → List (S53) → List (S54) → Int → Int → List (S66) → List Int → Option ((List (S53)))
 | 0, _, _, _, _, _, _ => none
 | k + 1, x5, x14, x15, x16, x273000, x273001 => if x16 < x15 then (if 0 ≤ x16 then (if x16 < (x14.length : Int) then (if 0 ≤ (wrap64 (((rd_T54 x14 x16).f1) - 1)) then (if (wrap64 (((rd_T54 x14 x16).f1) - 1)) < (x273000.length : Int) then (if 0 ≤ ((rd_T54 x14 x16).f0) then (if ((rd_T54 x14 x16).f0) < (x273000.length : Int) then (if x5.length < 4398046511104 then (lines_Rows.l0 k (x5 ++ [(⟨(rd_T66 x273000 ((rd_T54 x14 x16).f0)).f0, wrap64 (((rd_T66 x273000 (wrap64 (((rd_T54 x14 x16).f1) - 1))).f0) + ((rd_T66 x273000 (wrap64 (((rd_T54 x14 x16).f1) - 1))).f1)), (rd_T54 x14 x16).f2, (rd_T54 x14 x16).f3⟩ : S53)]) x14 x15 (wrap64 (x16 + 1)) x273000 x273001) else (none)) else (none)) else (none)) else (none)) else (none)) else (none)) else (none)) else (some x5)
def lines_Rows.f (k : Nat) (l0_0 : List (S66)) (l0_1 : List Int) (l1 : List (S54)) : Option ((List (S53))) := if (l1.length : Int) = 0 then (some (([(⟨0, 0, 0, 2⟩ : S53)] : List (S53)))) else (lines_Rows.l0 k ([] : List (S53)) l1 (l1.length : Int) 0 l0_0 l0_1)
theorem lines_Rows.mono_l : ∀ k, (∀ y0 y1 y2 y3 y4 y5, LeO (lines_Rows.l0 k y0 y1 y2 y3 y4 y5) (lines_Rows.l0 (k + 1) y0 y1 y2 y3 y4 y5))
 | 0 => fun _ _ _ _ _ _ r h => by simp [lines_Rows.l0] at h
 | k + 1 => by
  have ih0 := lines_Rows.mono_l k
  ·intro y0 y1 y2 y3 y4 y5
   unfold lines_Rows.l0
   repeat' (with_reducible first | exact ih0 _ _ _ _ _ _ | exact LeO.refl _ | exact LeO.none _ | refine LeO.ite ?_ ?_ | refine LeO.bind ?_ (fun _ => ?_))
theorem lines_Rows.mono : ∀ a0 a1 a2 k, LeO (lines_Rows.f k a0 a1 a2) (lines_Rows.f (k + 1) a0 a1 a2) := by
 intro a0 a1 a2 k
 have ih0 := lines_Rows.mono_l k; unfold lines_Rows.f
 repeat' (with_reducible first | exact ih0 _ _ _ _ _ _ | exact LeO.refl _ | exact LeO.none _ | refine LeO.ite ?_ ?_ | refine LeO.bind ?_ (fun _ => ?_))
def lines_Rows.T8 : Bool × List (List Nat × List Nat) := (true, [([], []), ([], []), ([1], [1]), ([], []), ([3], [3]), ([2, 4], [2, 4]), ([5], [5]), ([6], [6]), ([], []), ([8], [8]), ([], []), ([10], [10]), ([9, 11], [9, 11]), ([], []), ([13], [13]), ([], []), ([15], [15]), ([7, 12, 14, 16], [7, 12, 14, 16]), ([17], [17]), ([0, 18], [0, 18]), ([19, 19, 0, 1, 2, 3, 4, 5, 6, 7, 8, 9, 10, 11, 12, 13, 14, 15, 16, 17, 18, 19], [0, 19])])
def lines_Rows.B8 : List Nat := [0, 0, 2, 0, 8, 30, 62, 126, 0, 256, 0, 1024, 3840, 0, 8192, 0, 32768, 131070, 262142, 524287, 1048575]
theorem lines_Rows.tab8 : rtab .any (opsOf Try.f16 8) = lines_Rows.T8 := by kernel_rfl
theorem lines_Rows.bits8 : waitsOk lines_Rows.T8.2 lines_Rows.B8 = true := by kernel_rfl
set_option maxHeartbeats 8000000 in
set_option maxRecDepth 100000 in
theorem lines_Rows.calls (k : Nat) (A0_0 : Option Addr) (c0_0 : Nat) (l0_0 : List (S66)) (A0_1 : Option Addr) (c0_1 : Nat) (l0_1 : List Int) (A1 : Option Addr) (c1 : Nat) (l1 : List (S54)) (r : List (S53)) (w : World) (hr0_0 : Kd.C k66 w A0_0 l0_0.length l0_0) (hc0_0 : l0_0.length ≤ c0_0) (hr0_1 : Kd.C (Kd.int .u8) w A0_1 l0_1.length l0_1) (hc0_1 : l0_1.length ≤ c0_1) (hr1 : Kd.C k54 w A1 l1.length l1) (hc1 : l1.length ≤ c1) (h : lines_Rows.f k l0_0 l0_1 l1 = some r) :
  Calls Try.prog 16 #[.agg #[.slice A0_0 l0_0.length c0_0, .slice A0_1 l0_1.length c0_1], .slice A1 l1.length c1] w fun e w' => ∃ v0_ : Value, e = .returned (v0_) ∧ Kd.R k53 53 w' w.heap.size (fun _ => True) v0_ r ∧ Below w.heap.size w w' := by
 have hu31 := Try.underlying31; have hu53 := Try.underlying53; have hu54 := Try.underlying54; have hu66 := Try.underlying66; have HR0_0 := zA.mk hr0_0; have HC0_0 := zA.mk hc0_0; clear hr0_0 hc0_0; have HR0_1 := zA.mk hr0_1; have HC0_1 := zA.mk hc0_1; clear hr0_1 hc0_1; have HR1 := zA.mk hr1; have HC1 := zA.mk hc1; clear hr1 hc1; have HB := zA.mk (Below.refl w.heap.size w); have H : (if (l1.length : Int) = 0 then (some (([(⟨0, 0, 0, 2⟩ : S53)] : List (S53)))) else (lines_Rows.l0 k ([] : List (S53)) l1 (l1.length : Int) 0 l0_0 l0_1)) = some r := h
 clear h; by_cases c3 : (l1.length : Int) = 0
 ·rw [if_pos c3] at H
  have c3b0 : ((l1.length : Int) == 0) = true := beq_iff_eq.mpr c3
  have c3b1 : ((l1.length : Int) != 0) = false := bne_eq_false_iff_eq.mpr c3
  clear c3; obtain ⟨y273, hy273⟩ : ∃ y_ : List (S53), y_ = (([(⟨0, 0, 0, 2⟩ : S53)] : List (S53))) := ⟨_, rfl⟩; replace H : (some y273) = some r := by first | (rw [hy273]; with_reducible exact H) | (have H2_ := (Option.bind_some _ _).symm.trans H; rw [hy273]; with_reducible exact H2_) | (have H2_ := (Option.bind_some _ _).symm.trans H; with_reducible exact H2_) | with_reducible exact H | (rw [hy273]; exact H) | exact H
  have Ny273 := zA.mk hy273; clear hy273; obtain rfl := Option.some.inj H
  go_enter Try.func16, Try.ntmps16
  go_wp2_with (first | ((with_reducible refine gate_dst (N := 2) rfl ?_); refine box_event ?hg (N := 2) ?hd (cs := #[.slice A0_0 l0_0.length c0_0, .slice A0_1 l0_1.length c0_1]) (t := 31) ?hr ?_; (case hd => rfl); (case hg => rfl); (case hr => first | (go_simp; done) | (go_simp; rfl)); intro gb272 hg w4 hbox hb; have BK272 := zA.mk (hbox); have GW272 := zA.mk ((by rw [hg]; exact (zH (aL HB)) : w.heap.size ≤ gb272)); replace HB := zA.mk (zD (aL HB) hb); have GE272 := GW272; clear hb hbox hg) | ((with_reducible refine gate_dst (N := 13) rfl ?_); refine Kd.R_lit k53 _ 53 ?hg (N := 13) ?hd (xs := ([(⟨0, 0, 0, 2⟩ : S53)] : List (S53))) (inner := [.int .i64 0, .int .i64 0, .int .i64 0, .int .u8 2]) (ok := fun _ => True) (okp := fun _ => True) ?hr ?hp (fun _ hk => hk) trivial (Below.refl _ _) (Nat.le_refl _) (by simp) ?_; (case hd => rfl); (case hg => rfl); (case hr => first | (go_simp; done) | (go_simp; rfl)); (case hp => exact (Reps.c4 (show Kd.M k53 _ _ _ (⟨0, 0, 0, 2⟩ : S53) [.int .i64 0, .int .i64 0, .int .i64 0, .int .u8 2] from (k53_mkM _ _ _ (⟨0, 0, 0, 2⟩ : S53) )) (Reps.none _ _))); intro v274 w5 ho6 hb hg_ hnew_; clear hg_ hnew_; (first | rw [← Ny273.out] at ho6 | (simp only [Int.reduceToNat] at ho6; rw [← Ny273.out] at ho6)); have HO275 := zA.mk (Kd.zU ho6 (zH (aL HB))); replace BK272 := zA.mk (zC (aB BK272) hb); replace HB := zA.mk (zD (aL HB) hb); clear hb ho6))
  go_ret
  exact ⟨_, aX, aR HO275, aL HB⟩
 rw [if_neg c3] at H; have c3b0 : ((l1.length : Int) == 0) = false := beq_eq_false_iff_ne.mpr c3
 have c3b1 : ((l1.length : Int) != 0) = true := bne_iff_ne.mpr c3
 have c3b2 : ¬ (l1 = []) := fun h_ => c3 (by rw [h_]; rfl)
 have H' := zA.mk H
 clear H; go_enter Try.func16, Try.ntmps16
 go_wp2_with (first | ((with_reducible refine gate_dst (N := 2) rfl ?_); refine box_event ?hg (N := 2) ?hd (cs := #[.slice A0_0 l0_0.length c0_0, .slice A0_1 l0_1.length c0_1]) (t := 31) ?hr ?_; (case hd => rfl); (case hg => rfl); (case hr => first | (go_simp; done) | (go_simp; rfl)); intro gb272 hg w7 hbox hb; have BK272 := zA.mk (hbox); have GW272 := zA.mk ((by rw [hg]; exact (zH (aL HB)) : w.heap.size ≤ gb272)); replace HB := zA.mk (zD (aL HB) hb); have GE272 := GW272; clear hb hbox hg))
 go_loopg [5, 16] k (fun kq v5 v16 w' => ∃ (x5_1 : List (S53)) (x16_1 : Int), v16 = .int .i64 x16_1 ∧ zA (lines_Rows.l0 kq x5_1 l1 (l1.length : Int) x16_1 l0_0 l0_1 = some r) ∧ zA (kq ≤ k) ∧ zA (Kd.R k53 53 w' w.heap.size (fun _ => True) v5 x5_1) ∧ zA (w'.heap[gb272]? = some (.cells #[(.slice A0_0 l0_0.length c0_0), (.slice A0_1 l0_1.length c0_1)] 31 (0, 0))) ∧ zA (Below w.heap.size w w'))
 case atStart => exact ⟨(([] : List (S53))), (0), aZ, H', ⟨Nat.le_refl _⟩, ⟨by first | exact Kd.R_nil _ _ _ _ _ | exact Kd.N_nil _ _ _ _ _ | exact Kd.V_nil _ _ _ _ _ | exact Kd.Q_nil _ _ _ _ _ | exact Kd.S_nil _ _ _ _ _⟩, ⟨aB BK272⟩, ⟨aL HB⟩⟩
 clear H'; obtain ⟨x5_1, x16_1, rfl, HA, HK1, HO_5, BK272, HB⟩ := hrel; cases gk with
 | zero => exact absurd HA.out (by simp [lines_Rows.l0])
 | succ k1 =>
  have H := HA.out; clear HA; simp only [lines_Rows.l0] at H; by_cases c8 : x16_1 < (l1.length : Int)
  rotate_left
  ·rw [if_neg c8] at H
   have c8b0 : decide (x16_1 < (l1.length : Int)) = false := decide_eq_false c8
   clear c8; obtain rfl := Option.some.inj H
   go_wp2
   go_ret
   exact ⟨_, aX, aR HO_5, aL HB⟩
  rw [if_pos c8] at H; have c8b0 : decide (x16_1 < (l1.length : Int)) = true := decide_eq_true c8
  clear c8; by_cases c9 : 0 ≤ x16_1
  rotate_left
  ·rw [if_neg c9] at H
   exact absurd H (by simp)
  rw [if_pos c9] at H; have c9b0 : decide (0 ≤ x16_1) = true := decide_eq_true c9
  clear c9; by_cases c10 : x16_1 < (l1.length : Int)
  rotate_left
  ·rw [if_neg c10] at H
   exact absurd H (by simp)
  rw [if_pos c10] at H; have c10b0 : decide (x16_1 < (l1.length : Int)) = true := decide_eq_true c10
  clear c10; obtain ⟨ji11, hji11⟩ : ∃ j_ : Int, (wrap64 (((rd_T54 l1 x16_1).f1) - 1)) = j_ := ⟨_, rfl⟩; replace H : (if 0 ≤ (ji11) then (if (ji11) < (l0_0.length : Int) then (if 0 ≤ ((rd_T54 l1 x16_1).f0) then (if ((rd_T54 l1 x16_1).f0) < (l0_0.length : Int) then (if x5_1.length < 4398046511104 then (lines_Rows.l0 k1 (x5_1 ++ [(⟨(rd_T66 l0_0 ((rd_T54 l1 x16_1).f0)).f0, wrap64 (((rd_T66 l0_0 (ji11)).f0) + ((rd_T66 l0_0 (ji11)).f1)), (rd_T54 l1 x16_1).f2, (rd_T54 l1 x16_1).f3⟩ : S53)]) l1 (l1.length : Int) (wrap64 (x16_1 + 1)) l0_0 l0_1) else (none)) else (none)) else (none)) else (none)) else (none)) = some r := by first | (rw [hji11] at H; exact H) | (simp only [hji11] at H ⊢; exact H)
  have hji11w : (IntKind.i64.wrap (((rd_T54 l1 x16_1).f1) - 1)) = ji11 := (i64_w _).trans hji11
  by_cases c12 : 0 ≤ (ji11)
  rotate_left
  ·rw [if_neg c12] at H
   exact absurd H (by simp)
  rw [if_pos c12] at H; have c12b0 : decide (0 ≤ (ji11)) = true := decide_eq_true c12
  clear c12; by_cases c13 : (ji11) < (l0_0.length : Int)
  rotate_left
  ·rw [if_neg c13] at H
   exact absurd H (by simp)
  rw [if_pos c13] at H; have c13b0 : decide ((ji11) < (l0_0.length : Int)) = true := decide_eq_true c13
  clear c13; by_cases c14 : 0 ≤ ((rd_T54 l1 x16_1).f0)
  rotate_left
  ·rw [if_neg c14] at H
   exact absurd H (by simp)
  rw [if_pos c14] at H; have c14b0 : decide (0 ≤ ((rd_T54 l1 x16_1).f0)) = true := decide_eq_true c14
  clear c14; by_cases c15 : ((rd_T54 l1 x16_1).f0) < (l0_0.length : Int)
  rotate_left
  ·rw [if_neg c15] at H
   exact absurd H (by simp)
  rw [if_pos c15] at H; have c15b0 : decide (((rd_T54 l1 x16_1).f0) < (l0_0.length : Int)) = true := decide_eq_true c15
  clear c15; by_cases c16 : x5_1.length < 4398046511104
  rotate_left
  ·rw [if_neg c16] at H
   exact absurd H (by simp)
  rw [if_pos c16] at H; have LMc16 := zA.mk c16; clear c16; obtain ⟨y281, hy281⟩ : ∃ y_ : List (S53), y_ = (x5_1 ++ [(⟨(rd_T66 l0_0 ((rd_T54 l1 x16_1).f0)).f0, wrap64 (((rd_T66 l0_0 (ji11)).f0) + ((rd_T66 l0_0 (ji11)).f1)), (rd_T54 l1 x16_1).f2, (rd_T54 l1 x16_1).f3⟩ : S53)]) := ⟨_, rfl⟩; replace H : (lines_Rows.l0 k1 y281 l1 (l1.length : Int) (wrap64 (x16_1 + 1)) l0_0 l0_1) = some r := by first | (rw [hy281]; with_reducible exact H) | (have H2_ := (Option.bind_some _ _).symm.trans H; rw [hy281]; with_reducible exact H2_) | (have H2_ := (Option.bind_some _ _).symm.trans H; with_reducible exact H2_) | with_reducible exact H | (rw [hy281]; exact H) | exact H
  have Ny281 := zA.mk hy281; clear hy281; have H' := zA.mk H
  clear H; have p276 : 0 ≤ (x16_1 : Int) := aD
  have q276 : x16_1 < (l1.length : Int) := aD
  obtain ⟨ad276, e276, hx276_0, hx276_1, hx276_2, hx276_3⟩ := at_T54 HR1.out x16_1 p276 q276; cases e276
  replace hx276_0 := (HB.out.cell (World.block_lt_of_cell? w _ hx276_0)).trans hx276_0; replace hx276_1 := (HB.out.cell (World.block_lt_of_cell? w _ hx276_1)).trans hx276_1; replace hx276_2 := (HB.out.cell (World.block_lt_of_cell? w _ hx276_2)).trans hx276_2; replace hx276_3 := (HB.out.cell (World.block_lt_of_cell? w _ hx276_3)).trans hx276_3; replace p276 := eq_true p276; replace q276 := eq_true q276; try go_wp2_with (first | ((with_reducible refine gate_dst (N := 7) rfl ?_); refine box_event ?hg (N := 7) ?hd (cs := #[.int .i64 0, .int .i64 0, .int .i64 0, .int .u8 0]) (t := 54) ?hr ?_; (case hd => rfl); (case hg => rfl); (case hr => first | (go_simp; done) | (go_simp; rfl)); intro gb277 hg w17 hbox hb; replace HO_5 := zA.mk (Kd.zR (aR HO_5) hb); have BK277 := zA.mk (hbox); have GW277 := zA.mk ((by rw [hg]; exact (zH (aL HB)) : w.heap.size ≤ gb277)); replace HB := zA.mk (zD (aL HB) hb); have GE277 := GW277; have NB272_277 := zA.mk ((by rw [hg]; exact Nat.ne_of_lt (blk_lt (aB BK272)) : gb272 ≠ gb277)); have NB277_272 := zA.mk ((by rw [hg]; exact Nat.ne_of_gt (blk_lt (g := gb272) (o := .cells #[.slice A0_0 l0_0.length c0_0, .slice A0_1 l0_1.length c0_1] 31 (0, 0)) (aB BK272)) : gb277 ≠ gb272)); replace BK272 := zA.mk (zC (aB BK272) hb); clear hb hbox hg; have hnb18 := NB277_272.out; have hnc18 := NB272_277.out; obtain ⟨hcz19_0, hcz19_1, hcz19_2, hcz19_3, hfz19_0, hfz19_1, hfz19_2, hfz19_3⟩ := aC4 BK277) | ((with_reducible refine gate_store (t := 54) (p := 7) rfl ?_); refine store_event (t := 54) (p := 7) (v := ?vo_w20) (w1 := ((((w17.setCell ⟨gb277, 0, none⟩ (.int .i64 ((rd_T54 l1 x16_1).f0))).setCell ⟨gb277, 1, none⟩ (.int .i64 ((rd_T54 l1 x16_1).f1))).setCell ⟨gb277, 2, none⟩ (.int .i64 ((rd_T54 l1 x16_1).f2))).setCell ⟨gb277, 3, none⟩ (.int .u8 ((rd_T54 l1 x16_1).f3)))) ?hg ?ho ?hn ?hr ?_; (case ho => rfl); (case hg => rfl); (case hn => rfl); (case hr => first | (go_simp; done) | (go_simp; rfl)); intro w20 hw; have n0_ : zA (Kd.R k53 53 w20 w.heap.size (fun _ => True) u5 x5_1) := ⟨(by rw [hw]; exact (by (with_reducible repeat (first | apply Kd.zJ | apply Kd.zK | apply Kd.zL)); exact Kd.zV (Kd.zS (p := ⟨gb277, 3, none⟩) (Kd.zS (p := ⟨gb277, 2, none⟩) (Kd.zS (p := ⟨gb277, 1, none⟩) (Kd.zS (p := ⟨gb277, 0, none⟩) (Kd.zW HO_5.out BK277.out (by decide)) (fun _ hk => hk.2) (.int .i64 ((rd_T54 l1 x16_1).f0))) (fun _ hk => hk.2) (.int .i64 ((rd_T54 l1 x16_1).f1))) (fun _ hk => hk.2) (.int .i64 ((rd_T54 l1 x16_1).f2))) (fun _ hk => hk.2) (.int .u8 ((rd_T54 l1 x16_1).f3))) (fun _ hk => trivial)))⟩; have n1_ : zA (w20.heap[gb272]? = some (.cells #[.slice A0_0 l0_0.length c0_0, .slice A0_1 l0_1.length c0_1] 31 (0, 0))) := ⟨(by rw [hw]; exact (aB BK272))⟩; have n2_ : zA (w20.heap[gb277]? = some (.cells #[.int .i64 ((rd_T54 l1 x16_1).f0), .int .i64 ((rd_T54 l1 x16_1).f1), .int .i64 ((rd_T54 l1 x16_1).f2), .int .u8 ((rd_T54 l1 x16_1).f3)] 54 (0, 0))) := ⟨(by rw [hw]; exact (by (with_reducible repeat (first | refine zI ?_ _ | refine zF ?_ | refine zE ?_ _)); refine blk_put (cs := #[.int .i64 ((rd_T54 l1 x16_1).f0), .int .i64 ((rd_T54 l1 x16_1).f1), .int .i64 ((rd_T54 l1 x16_1).f2), .int .u8 0]) ?_ 3 _ rfl; (with_reducible repeat (first | refine zI ?_ _ | refine zF ?_ | refine zE ?_ _)); refine blk_put (cs := #[.int .i64 ((rd_T54 l1 x16_1).f0), .int .i64 ((rd_T54 l1 x16_1).f1), .int .i64 0, .int .u8 0]) ?_ 2 _ rfl; (with_reducible repeat (first | refine zI ?_ _ | refine zF ?_ | refine zE ?_ _)); refine blk_put (cs := #[.int .i64 ((rd_T54 l1 x16_1).f0), .int .i64 0, .int .i64 0, .int .u8 0]) ?_ 1 _ rfl; (with_reducible repeat (first | refine zI ?_ _ | refine zF ?_ | refine zE ?_ _)); refine blk_put (cs := #[.int .i64 0, .int .i64 0, .int .i64 0, .int .u8 0]) ?_ 0 _ rfl; (with_reducible repeat (first | refine zI ?_ _ | refine zF ?_ | refine zE ?_ _)); exact BK277.out))⟩; have n3_ : zA (Below w.heap.size w w20) := ⟨(by rw [hw]; exact (aL HB))⟩; clear hw; clear HO_5; clear BK272; clear BK277; clear HB; have HO_5 := n0_; have BK272 := n1_; have BK277 := n2_; have HB := n3_; clear n0_ n1_ n2_ n3_; obtain ⟨hcz21_0, hcz21_1, hfz21_0, hfz21_1⟩ := aC2 BK272; obtain ⟨hcz22_0, hcz22_1, hcz22_2, hcz22_3, hfz22_0, hfz22_1, hfz22_2, hfz22_3⟩ := aC4 BK277; have p278 : 0 ≤ ((ji11) : Int) := aD; have q278 : (ji11) < (l0_0.length : Int) := aD; obtain ⟨ad278, e278, hx278_0, hx278_1, hx278_2, hx278_3⟩ := at_T66 HR0_0.out (ji11) p278 q278; cases e278; replace hx278_0 := (HB.out.cell (World.block_lt_of_cell? w _ hx278_0)).trans hx278_0; replace hx278_1 := (HB.out.cell (World.block_lt_of_cell? w _ hx278_1)).trans hx278_1; replace hx278_2 := (HB.out.cell (World.block_lt_of_cell? w _ hx278_2)).trans hx278_2; replace hx278_3 := (HB.out.cell (World.block_lt_of_cell? w _ hx278_3)).trans hx278_3; replace p278 := eq_true p278; replace q278 := eq_true q278) | ((with_reducible refine gate_dst (N := 8) rfl ?_); refine box_event ?hg (N := 8) ?hd (cs := #[.int .i64 0, .int .i64 0, .int .i64 0, .int .u8 0]) (t := 66) ?hr ?_; (case hd => rfl); (case hg => rfl); (case hr => first | (go_simp; done) | (go_simp; rfl)); intro gb279 hg w23 hbox hb; replace HO_5 := zA.mk (Kd.zR (aR HO_5) hb); have BK279 := zA.mk (hbox); have GW279 := zA.mk ((by rw [hg]; exact (zH (aL HB)) : w.heap.size ≤ gb279)); replace HB := zA.mk (zD (aL HB) hb); have GE279 := GW279; have NB272_279 := zA.mk ((by rw [hg]; exact Nat.ne_of_lt (blk_lt (aB BK272)) : gb272 ≠ gb279)); have NB279_272 := zA.mk ((by rw [hg]; exact Nat.ne_of_gt (blk_lt (g := gb272) (o := .cells #[.slice (some ad278) l0_0.length c0_0, .slice A0_1 l0_1.length c0_1] 31 (0, 0)) (aB BK272)) : gb279 ≠ gb272)); replace BK272 := zA.mk (zC (aB BK272) hb); have NB277_279 := zA.mk ((by rw [hg]; exact Nat.ne_of_lt (blk_lt (aB BK277)) : gb277 ≠ gb279)); have NB279_277 := zA.mk ((by rw [hg]; exact Nat.ne_of_gt (blk_lt (g := gb277) (o := .cells #[.int .i64 ((rd_T54 l1 x16_1).f0), .int .i64 ((rd_T54 l1 x16_1).f1), .int .i64 ((rd_T54 l1 x16_1).f2), .int .u8 ((rd_T54 l1 x16_1).f3)] 54 (0, 0)) (aB BK277)) : gb279 ≠ gb277)); replace BK277 := zA.mk (zC (aB BK277) hb); clear hb hbox hg; have hnb24 := NB279_272.out; have hnc24 := NB272_279.out; have hnb25 := NB279_277.out; have hnc25 := NB277_279.out; obtain ⟨hcz26_0, hcz26_1, hcz26_2, hcz26_3, hfz26_0, hfz26_1, hfz26_2, hfz26_3⟩ := aC4 BK279) | ((with_reducible refine gate_store (t := 66) (p := 8) rfl ?_); refine store_event (t := 66) (p := 8) (v := ?vo_w27) (w1 := ((((w23.setCell ⟨gb279, 0, none⟩ (.int .i64 ((rd_T66 l0_0 (ji11)).f0))).setCell ⟨gb279, 1, none⟩ (.int .i64 ((rd_T66 l0_0 (ji11)).f1))).setCell ⟨gb279, 2, none⟩ (.int .i64 ((rd_T66 l0_0 (ji11)).f2))).setCell ⟨gb279, 3, none⟩ (.int .u8 ((rd_T66 l0_0 (ji11)).f3)))) ?hg ?ho ?hn ?hr ?_; (case ho => rfl); (case hg => rfl); (case hn => rfl); (case hr => first | (go_simp; done) | (go_simp; rfl)); intro w27 hw; have n0_ : zA (Kd.R k53 53 w27 w.heap.size (fun _ => True) u5 x5_1) := ⟨(by rw [hw]; exact (by (with_reducible repeat (first | apply Kd.zJ | apply Kd.zK | apply Kd.zL)); exact Kd.zV (Kd.zS (p := ⟨gb279, 3, none⟩) (Kd.zS (p := ⟨gb279, 2, none⟩) (Kd.zS (p := ⟨gb279, 1, none⟩) (Kd.zS (p := ⟨gb279, 0, none⟩) (Kd.zW HO_5.out BK279.out (by decide)) (fun _ hk => hk.2) (.int .i64 ((rd_T66 l0_0 (ji11)).f0))) (fun _ hk => hk.2) (.int .i64 ((rd_T66 l0_0 (ji11)).f1))) (fun _ hk => hk.2) (.int .i64 ((rd_T66 l0_0 (ji11)).f2))) (fun _ hk => hk.2) (.int .u8 ((rd_T66 l0_0 (ji11)).f3))) (fun _ hk => trivial)))⟩; have n1_ : zA (w27.heap[gb272]? = some (.cells #[.slice (some ad278) l0_0.length c0_0, .slice A0_1 l0_1.length c0_1] 31 (0, 0))) := ⟨(by rw [hw]; exact (aB BK272))⟩; have n2_ : zA (w27.heap[gb277]? = some (.cells #[.int .i64 ((rd_T54 l1 x16_1).f0), .int .i64 ((rd_T54 l1 x16_1).f1), .int .i64 ((rd_T54 l1 x16_1).f2), .int .u8 ((rd_T54 l1 x16_1).f3)] 54 (0, 0))) := ⟨(by rw [hw]; exact (aB BK277))⟩; have n3_ : zA (w27.heap[gb279]? = some (.cells #[.int .i64 ((rd_T66 l0_0 (ji11)).f0), .int .i64 ((rd_T66 l0_0 (ji11)).f1), .int .i64 ((rd_T66 l0_0 (ji11)).f2), .int .u8 ((rd_T66 l0_0 (ji11)).f3)] 66 (0, 0))) := ⟨(by rw [hw]; exact (by (with_reducible repeat (first | refine zI ?_ _ | refine zF ?_ | refine zE ?_ _)); refine blk_put (cs := #[.int .i64 ((rd_T66 l0_0 (ji11)).f0), .int .i64 ((rd_T66 l0_0 (ji11)).f1), .int .i64 ((rd_T66 l0_0 (ji11)).f2), .int .u8 0]) ?_ 3 _ rfl; (with_reducible repeat (first | refine zI ?_ _ | refine zF ?_ | refine zE ?_ _)); refine blk_put (cs := #[.int .i64 ((rd_T66 l0_0 (ji11)).f0), .int .i64 ((rd_T66 l0_0 (ji11)).f1), .int .i64 0, .int .u8 0]) ?_ 2 _ rfl; (with_reducible repeat (first | refine zI ?_ _ | refine zF ?_ | refine zE ?_ _)); refine blk_put (cs := #[.int .i64 ((rd_T66 l0_0 (ji11)).f0), .int .i64 0, .int .i64 0, .int .u8 0]) ?_ 1 _ rfl; (with_reducible repeat (first | refine zI ?_ _ | refine zF ?_ | refine zE ?_ _)); refine blk_put (cs := #[.int .i64 0, .int .i64 0, .int .i64 0, .int .u8 0]) ?_ 0 _ rfl; (with_reducible repeat (first | refine zI ?_ _ | refine zF ?_ | refine zE ?_ _)); exact BK279.out))⟩; have n4_ : zA (Below w.heap.size w w27) := ⟨(by rw [hw]; exact (aL HB))⟩; clear hw; clear HO_5; clear BK272; clear BK277; clear BK279; clear HB; have HO_5 := n0_; have BK272 := n1_; have BK277 := n2_; have BK279 := n3_; have HB := n4_; clear n0_ n1_ n2_ n3_ n4_))
  replace HO_5 := zA.mk (Kd.zL HO_5.out); replace BK272 := zA.mk (zF BK272.out); replace BK277 := zA.mk (zF BK277.out); replace BK279 := zA.mk (zF BK279.out); replace HB := zA.mk (below_drew1 HB.out); have p280 : 0 ≤ (((rd_T54 l1 x16_1).f0) : Int) := aD
  have q280 : ((rd_T54 l1 x16_1).f0) < (l0_0.length : Int) := aD
  obtain ⟨ad280, e280, hx280_0, hx280_1, hx280_2, hx280_3⟩ := at_T66 HR0_0.out ((rd_T54 l1 x16_1).f0) p280 q280; have hw280_3 := hx280_3; have hw280_2 := hx280_2; have hw280_1 := hx280_1; have hw280_0 := hx280_0; obtain rfl : ad278 = ad280 := (by injection e280)
  replace hx280_0 := (HB.out.cell (World.block_lt_of_cell? w _ hx280_0)).trans hx280_0; replace hx280_1 := (HB.out.cell (World.block_lt_of_cell? w _ hx280_1)).trans hx280_1; replace hx280_2 := (HB.out.cell (World.block_lt_of_cell? w _ hx280_2)).trans hx280_2; replace hx280_3 := (HB.out.cell (World.block_lt_of_cell? w _ hx280_3)).trans hx280_3; replace p280 := eq_true p280; replace q280 := eq_true q280; refine start_ (n := 21) (S := fun w' => w'.cell? ⟨gb272, 0, none⟩ = some (.slice (some ad278) l0_0.length c0_0) ∧ w'.cell? ⟨gb272, 1, none⟩ = some (.slice A0_1 l0_1.length c0_1) ∧ w'.cell? ⟨gb277, 0, none⟩ = some (.int .i64 ((rd_T54 l1 x16_1).f0)) ∧ w'.cell? ⟨gb277, 1, none⟩ = some (.int .i64 ((rd_T54 l1 x16_1).f1)) ∧ w'.cell? ⟨gb277, 2, none⟩ = some (.int .i64 ((rd_T54 l1 x16_1).f2)) ∧ w'.cell? ⟨gb277, 3, none⟩ = some (.int .u8 ((rd_T54 l1 x16_1).f3)) ∧ w'.cell? ⟨gb279, 0, none⟩ = some (.int .i64 ((rd_T66 l0_0 (ji11)).f0)) ∧ w'.cell? ⟨gb279, 1, none⟩ = some (.int .i64 ((rd_T66 l0_0 (ji11)).f1)) ∧ w'.cell? ⟨gb279, 2, none⟩ = some (.int .i64 ((rd_T66 l0_0 (ji11)).f2)) ∧ w'.cell? ⟨gb279, 3, none⟩ = some (.int .u8 ((rd_T66 l0_0 (ji11)).f3)) ∧ w'.cell? (ad278.add ((((rd_T54 l1 x16_1).f0)).toNat * 4)) = some (.int .i64 ((rd_T66 l0_0 ((rd_T54 l1 x16_1).f0)).f0)) ∧ w'.cell? ⟨(ad278.add ((((rd_T54 l1 x16_1).f0)).toNat * 4)).block, (ad278.add ((((rd_T54 l1 x16_1).f0)).toNat * 4)).off + 1, none⟩ = some (.int .i64 ((rd_T66 l0_0 ((rd_T54 l1 x16_1).f0)).f1)) ∧ w'.cell? ⟨(ad278.add ((((rd_T54 l1 x16_1).f0)).toNat * 4)).block, (ad278.add ((((rd_T54 l1 x16_1).f0)).toNat * 4)).off + 2, none⟩ = some (.int .i64 ((rd_T66 l0_0 ((rd_T54 l1 x16_1).f0)).f2)) ∧ w'.cell? ⟨(ad278.add ((((rd_T54 l1 x16_1).f0)).toNat * 4)).block, (ad278.add ((((rd_T54 l1 x16_1).f0)).toNat * 4)).off + 3, none⟩ = some (.int .u8 ((rd_T66 l0_0 ((rd_T54 l1 x16_1).f0)).f3))) (ds := []) #[false, false, false, false, false, false, false, false, false, false, false, false, false, false, false, false, false, false, false, false, false] (by kernel_rfl) rfl rfl ⟨(zB BK272.out 0).trans rfl, (zB BK272.out 1).trans rfl, (zB BK277.out 0).trans rfl, (zB BK277.out 1).trans rfl, (zB BK277.out 2).trans rfl, (zB BK277.out 3).trans rfl, (zB BK279.out 0).trans rfl, (zB BK279.out 1).trans rfl, (zB BK279.out 2).trans rfl, (zB BK279.out 3).trans rfl, ((HB.out.cell (World.block_lt_of_cell? w _ hw280_0)).trans hw280_0), ((HB.out.cell (World.block_lt_of_cell? w _ hw280_1)).trans hw280_1), ((HB.out.cell (World.block_lt_of_cell? w _ hw280_2)).trans hw280_2), ((HB.out.cell (World.block_lt_of_cell? w _ hw280_3)).trans hw280_3)⟩ (fun hHeld => ?_); refine with_tabW lines_Rows.tab8 lines_Rows.bits8 (fun HT_ HW_ => ?_)
  generalize w27.drew = w28 at HO_5 BK272 BK277 BK279 HB hx280_0 hx280_1 hx280_2 hx280_3 hHeld ⊢
  refine aP 0 (some 27) (tf_ 1 21) HT_ ?_
  refine aP 1 (some 28) (tf_ 2 21) HT_ ?_
  refine aP 3 (some 30) (tb_ 11 21) HT_ ?_
  refine aP 8 (some 35) (tb_ 267 21) HT_ ?_
  refine aP 10 (some 37) (tb_ 1291 21) HT_ ?_
  refine aP 13 (some 40) (tb_ 9483 21) HT_ ?_
  refine aP 15 (some 42) (tb_ 42251 21) HT_ ?_
  refine take_ (i := 2) (N := some 29) (v := ?_) (a' := ?_) (tb_ 42255 21) rfl rfl (take_ofW HT_.out HW_.out (by kernel_rfl)) (fun _ _ _ h => h) (Or.inl ⟨by rfl, ?_⟩) hHeld ?_ ?_
  rotate_left
  ·rintro w' ⟨s0, s1, s2, s3, s4, s5, s6, s7, s8, s9, s10, s11, s12, s13⟩
   go_simp
   with_reducible rfl
  rotate_left
  ·simp only [Act.put, sA_, sB_, sC_, i64_w, i32_w]
   rfl
  refine take_ (i := 4) (N := some 31) (v := ?_) (a' := ?_) (tb_ 42271 21) rfl rfl (take_ofW HT_.out HW_.out (by kernel_rfl)) (fun _ _ _ h => h) (Or.inl ⟨by rfl, ?_⟩) hHeld ?_ ?_
  rotate_left
  ·rintro w' ⟨s0, s1, s2, s3, s4, s5, s6, s7, s8, s9, s10, s11, s12, s13⟩
   go_simp
   with_reducible rfl
  rotate_left
  ·simp only [Act.put, sA_, sB_, sC_, i64_w, i32_w]
   rfl
  refine aP 5 (some 32) (tb_ 42303 21) HT_ ?_
  refine aP 6 (some 33) (tb_ 42367 21) HT_ ?_
  refine take_ (i := 7) (N := some 34) (v := ?_) (a' := ?_) (tb_ 42495 21) rfl rfl (take_ofW HT_.out HW_.out (by kernel_rfl)) (fun _ _ _ h => h) (Or.inl ⟨by rfl, ?_⟩) hHeld ?_ ?_
  rotate_left
  ·rintro w' ⟨s0, s1, s2, s3, s4, s5, s6, s7, s8, s9, s10, s11, s12, s13⟩
   go_simp
   with_reducible rfl
  rotate_left
  ·simp only [Act.put, sA_, sB_, sC_, i64_w, i32_w]
   rfl
  refine take_ (i := 9) (N := some 36) (v := ?_) (a' := ?_) (tb_ 43007 21) rfl rfl (take_ofW HT_.out HW_.out (by kernel_rfl)) (fun _ _ _ h => h) (Or.inl ⟨by rfl, ?_⟩) hHeld ?_ ?_
  rotate_left
  ·rintro w' ⟨s0, s1, s2, s3, s4, s5, s6, s7, s8, s9, s10, s11, s12, s13⟩
   go_simp
   with_reducible rfl
  rotate_left
  ·simp only [Act.put, sA_, sB_, sC_, i64_w, i32_w]
   rfl
  refine take_ (i := 11) (N := some 38) (v := ?_) (a' := ?_) (tb_ 45055 21) rfl rfl (take_ofW HT_.out HW_.out (by kernel_rfl)) (fun _ _ _ h => h) (Or.inl ⟨by rfl, ?_⟩) hHeld ?_ ?_
  rotate_left
  ·rintro w' ⟨s0, s1, s2, s3, s4, s5, s6, s7, s8, s9, s10, s11, s12, s13⟩
   go_simp
   with_reducible rfl
  rotate_left
  ·simp only [Act.put, sA_, sB_, sC_, i64_w, i32_w]
   rfl
  refine aP 12 (some 39) (tb_ 49151 21) HT_ ?_
  refine take_ (i := 14) (N := some 41) (v := ?_) (a' := ?_) (tf_ 16 21) rfl rfl (take_ofW HT_.out HW_.out (by kernel_rfl)) (fun _ _ _ h => h) (Or.inl ⟨by rfl, ?_⟩) hHeld ?_ ?_
  rotate_left
  ·rintro w' ⟨s0, s1, s2, s3, s4, s5, s6, s7, s8, s9, s10, s11, s12, s13⟩
   go_simp
   with_reducible rfl
  rotate_left
  ·simp only [Act.put, sA_, sB_, sC_, i64_w, i32_w]
   rfl
  refine take_ (i := 16) (N := some 43) (v := ?_) (a' := ?_) (tf_ 17 21) rfl rfl (take_ofW HT_.out HW_.out (by kernel_rfl)) (fun _ _ _ h => h) (Or.inl ⟨by rfl, ?_⟩) hHeld ?_ ?_
  rotate_left
  ·rintro w' ⟨s0, s1, s2, s3, s4, s5, s6, s7, s8, s9, s10, s11, s12, s13⟩
   go_simp
   with_reducible rfl
  rotate_left
  ·simp only [Act.put, sA_, sB_, sC_, i64_w, i32_w]
   rfl
  refine aP 17 (some 44) (tf_ 18 21) HT_ ?_
  refine one_ (i := 18) (N := some 45) (tb_ 524287 21) rfl rfl (one_of HT_.out (by kernel_rfl)) (by decide) (fun K hK => ?_)
  refine value_ (w1 := ?_) (v := ?_) (by rfl) rfl ?_ ?_
  rotate_left 2
  ·go_simp
   constructor
   ·rfl
   rfl
  refine hK.out _ _ ⟨(zB (zE BK272.out _) 0).trans rfl, (zB (zE BK272.out _) 1).trans rfl, (zB (zE BK277.out _) 0).trans rfl, (zB (zE BK277.out _) 1).trans rfl, (zB (zE BK277.out _) 2).trans rfl, (zB (zE BK277.out _) 3).trans rfl, (zB (zE BK279.out _) 0).trans rfl, (zB (zE BK279.out _) 1).trans rfl, (zB (zE BK279.out _) 2).trans rfl, (zB (zE BK279.out _) 3).trans rfl, (World.cell?_alloc_lt _ _ _ (World.block_lt_of_cell? _ _ (((HB.out.cell (World.block_lt_of_cell? w _ hw280_0)).trans hw280_0)))).trans (((HB.out.cell (World.block_lt_of_cell? w _ hw280_0)).trans hw280_0)), (World.cell?_alloc_lt _ _ _ (World.block_lt_of_cell? _ _ (((HB.out.cell (World.block_lt_of_cell? w _ hw280_1)).trans hw280_1)))).trans (((HB.out.cell (World.block_lt_of_cell? w _ hw280_1)).trans hw280_1)), (World.cell?_alloc_lt _ _ _ (World.block_lt_of_cell? _ _ (((HB.out.cell (World.block_lt_of_cell? w _ hw280_2)).trans hw280_2)))).trans (((HB.out.cell (World.block_lt_of_cell? w _ hw280_2)).trans hw280_2)), (World.cell?_alloc_lt _ _ _ (World.block_lt_of_cell? _ _ (((HB.out.cell (World.block_lt_of_cell? w _ hw280_3)).trans hw280_3)))).trans (((HB.out.cell (World.block_lt_of_cell? w _ hw280_3)).trans hw280_3))⟩ (fun hHeld => ?_)
  clear hK K; refine norm_ (a' := ?_) ?_ ?_
  rotate_left
  ·show Act.put _ (some 45) _ = _
   simp only [Act.put, sA_, sB_, sC_, i64_w, i32_w]; rfl
  refine one_ (i := 19) (N := some 46) (tb_ 1048575 21) rfl rfl (one_of HT_.out (by kernel_rfl)) (by decide) (fun K hK => ?_)
  refine Kd.R_append_step k53 (w0 := w) w.heap.size (by rfl) (.tmp 27) (.tmp 45) 42 53 (.agg #[(.int .i64 0), (.int .i64 0), (.int .i64 0), (.int .u8 0)]) 32 rfl Try.underlying42 info53 rfl (by decide) (by omega) u5 x5_1 (⟨(rd_T66 l0_0 ((rd_T54 l1 x16_1).f0)).f0, wrap64 (((rd_T66 l0_0 (ji11)).f0) + ((rd_T66 l0_0 (ji11)).f1)), (rd_T54 l1 x16_1).f2, (rd_T54 l1 x16_1).f3⟩ : S53) [.int .i64 ((rd_T66 l0_0 ((rd_T54 l1 x16_1).f0)).f0), .int .i64 (wrap64 (((rd_T66 l0_0 (ji11)).f0) + ((rd_T66 l0_0 (ji11)).f1))), .int .i64 ((rd_T54 l1 x16_1).f2), .int .u8 ((rd_T54 l1 x16_1).f3)] (fun _ => True) (fun _ => False) rfl rfl ?aP (fun _ hk => hk.elim) ?aF ?aO ?aB ?aS ?aL ?_
  (case aP => exact k53_mkM _ _ _ (⟨(rd_T66 l0_0 ((rd_T54 l1 x16_1).f0)).f0, wrap64 (((rd_T66 l0_0 (ji11)).f0) + ((rd_T66 l0_0 (ji11)).f1)), (rd_T54 l1 x16_1).f2, (rd_T54 l1 x16_1).f3⟩ : S53))
  (case aB => exact (aL HB))
  (case aF => exact (fun _ _ => trivial))
  (case aO => exact (aR HO_5))
  (case aS => exact (zH (aL HB)))
  (case aL => have := LMc16.out; omega)
  intro v282 w29 ho hb hg hat
  rw [← Ny281.out] at ho; replace BK272 := zA.mk (blk_grown (g := gb272) (o := .cells #[.slice (some ad278) l0_0.length c0_0, .slice A0_1 l0_1.length c0_1] 31 (0, 0)) (aB BK272) hg (Kd.R_ne HO_5.out BK272.out (by decide)))
  replace BK277 := zA.mk (blk_grown (g := gb277) (o := .cells #[.int .i64 ((rd_T54 l1 x16_1).f0), .int .i64 ((rd_T54 l1 x16_1).f1), .int .i64 ((rd_T54 l1 x16_1).f2), .int .u8 ((rd_T54 l1 x16_1).f3)] 54 (0, 0)) (aB BK277) hg (Kd.R_ne HO_5.out BK277.out (by decide)))
  replace BK279 := zA.mk (blk_grown (g := gb279) (o := .cells #[.int .i64 ((rd_T66 l0_0 (ji11)).f0), .int .i64 ((rd_T66 l0_0 (ji11)).f1), .int .i64 ((rd_T66 l0_0 (ji11)).f2), .int .u8 ((rd_T66 l0_0 (ji11)).f3)] 66 (0, 0)) (aB BK279) hg (Kd.R_ne HO_5.out BK279.out (by decide)))
  replace HB := zA.mk (hb); have HO283 := zA.mk (ho); clear HO_5; clear ho hb hg hat; refine hK.out _ _ ⟨(zB BK272.out 0).trans rfl, (zB BK272.out 1).trans rfl, (zB BK277.out 0).trans rfl, (zB BK277.out 1).trans rfl, (zB BK277.out 2).trans rfl, (zB BK277.out 3).trans rfl, (zB BK279.out 0).trans rfl, (zB BK279.out 1).trans rfl, (zB BK279.out 2).trans rfl, (zB BK279.out 3).trans rfl, ((HB.out.cell (World.block_lt_of_cell? w _ hw280_0)).trans hw280_0), ((HB.out.cell (World.block_lt_of_cell? w _ hw280_1)).trans hw280_1), ((HB.out.cell (World.block_lt_of_cell? w _ hw280_2)).trans hw280_2), ((HB.out.cell (World.block_lt_of_cell? w _ hw280_3)).trans hw280_3)⟩ (fun hHeld => ?_)
  clear hK K; refine norm_ (a' := ?_) ?_ ?_
  rotate_left
  ·show Act.put _ (some 46) _ = _
   simp only [Act.put, sA_, sB_, sC_, i64_w, i32_w]; rfl
  refine aP 20 (some 5) (tb_ 2097151 21) HT_ ?_
  refine done_ (done_of HT_.out (by kernel_rfl)) ?_
  try go_wp2
  go_roundg k1
  case measure => have := HK1.out; omega
  case rel => exact ⟨(y281), (wrap64 (x16_1 + 1)), aZ, H', ⟨by have := HK1.out; omega⟩, ⟨aR HO283⟩, ⟨aB BK272⟩, ⟨aL HB⟩⟩
theorem eqA53 (d : Nat) (w : World) (x0 y0 : Int) (x1 y1 : Int) (x2 y2 : Int) (x3 y3 : Int) :
  (Op.equalIn (d + 2) 53 (.agg #[.int .i64 x0, .int .i64 x1, .int .i64 x2, .int .u8 x3]) (.agg #[.int .i64 y0, .int .i64 y1, .int .i64 y2, .int .u8 y3])).run Try.prog w = .ok (x0 == y0 && (x1 == y1 && (x2 == y2 && (x3 == y3)))) w := by
 refine eqA_of Try.underlying53 (by kernel_rfl) ?_
 refine eqf_cons (by rfl) (by go_simp; rfl) (by go_simp; rfl) (by go_simp) ?_
 refine eqf_cons (by rfl) (by go_simp; rfl) (by go_simp; rfl) (by go_simp) ?_
 refine eqf_cons (by rfl) (by go_simp; rfl) (by go_simp; rfl) (by go_simp) ?_
 exact eqf_last (by rfl) (by go_simp; rfl) (by go_simp; rfl) (by go_simp)
attribute [local go_sem high] eqA53
def l6_Awake.f (k : Nat)  : Option (Bool) := (h3_Para.f k ([] : List (S63))).bind fun bt285 => ((lines_Break.f k bt285.1 bt285.2 3 8 0 0 0 0).bind fun bt291 => ((h3_Para.f k ([] : List (S63))).bind fun bt295 => ((lines_Rows.f k bt295.1 bt295.2 bt291.1).bind fun t301 => ((h3_Para.f k (([(⟨1, 0, 0, 2⟩ : S63), (⟨1, 0, 0, 0⟩ : S63)] : List (S63)))).bind fun bt307 => ((lines_Break.f k bt307.1 bt307.2 3 8 0 0 0 0).bind fun bt313 => (if (bt291.1.length : Int) = 0 then (if bt291.2 = true then (some false) else (if (t301.length : Int) = 1 then (if 0 < (t301.length : Int) then (if (((rd_T53 t301 0).f0) == 0 && (((rd_T53 t301 0).f1) == 0 && (((rd_T53 t301 0).f2) == 0 && (((rd_T53 t301 0).f3) == 2)))) = true then (if (bt313.1.length : Int) = 2 then (if 0 < (bt313.1.length : Int) then (if ((rd_T54 bt313.1 0).f3) = 2 then (if 1 < (bt313.1.length : Int) then (some (((rd_T54 bt313.1 1).f1) == 2)) else (none)) else (some false)) else (none)) else (some false)) else (some false)) else (none)) else (some false))) else (some false)))))))
theorem l6_Awake.mono : ∀ k, LeO (l6_Awake.f k ) (l6_Awake.f (k + 1) ) := by
 intro  k
 unfold l6_Awake.f
 repeat' (with_reducible first | exact lines_Break.mono _ _ _ _ _ _ _ _ _ | exact lines_Rows.mono _ _ _ _ | exact h3_Para.mono _ _ | exact LeO.refl _ | exact LeO.none _ | refine LeO.ite ?_ ?_ | refine LeO.bind ?_ (fun _ => ?_))
def l6_Awake.T2 : Bool × List (List Nat × List Nat) := (true, [([], []), ([], []), ([0, 1, 0], [0, 1]), ([2], [2]), ([3], [3]), ([3], [3]), ([4, 2, 0, 1, 2, 3, 4], [4]), ([5, 6, 0, 1, 2, 3, 4, 5, 6], [5])])
def l6_Awake.B2 : List Nat := [0, 0, 3, 7, 15, 15, 31, 127]
theorem l6_Awake.tab2 : rtab .any (opsOf Try.f9 2) = l6_Awake.T2 := by kernel_rfl
theorem l6_Awake.bits2 : waitsOk l6_Awake.T2.2 l6_Awake.B2 = true := by kernel_rfl
def l6_Awake.T4 : Bool × List (List Nat × List Nat) := (true, [([], []), ([], []), ([0, 1], [0, 1]), ([2], [2]), ([], []), ([3, 4, 3], [3, 4]), ([5], [5]), ([6], [6]), ([6], [6]), ([7, 5, 0, 1, 2, 3, 4, 5, 6, 7], [7]), ([8, 9, 0, 1, 2, 3, 4, 5, 6, 7, 8, 9], [8])])
def l6_Awake.B4 : List Nat := [0, 0, 3, 7, 0, 31, 63, 127, 127, 255, 1023]
theorem l6_Awake.tab4 : rtab .any (opsOf Try.f9 4) = l6_Awake.T4 := by kernel_rfl
theorem l6_Awake.bits4 : waitsOk l6_Awake.T4.2 l6_Awake.B4 = true := by kernel_rfl
set_option maxHeartbeats 8000000 in
set_option maxRecDepth 100000 in
theorem l6_Awake.calls (k : Nat)  (r : Bool) (w : World) (h : l6_Awake.f k  = some r) (hrt_ : zA (r = true)) :
  Calls Try.prog 9 #[] w fun e w' => e = .returned (.bool r) ∧ Below w.heap.size w w' := by
 have hu35 := Try.underlying35; have hu63 := Try.underlying63; have hu53 := Try.underlying53; have HB := zA.mk (Below.refl w.heap.size w); have H : ((h3_Para.f k ([] : List (S63))).bind fun bt285 => ((lines_Break.f k bt285.1 bt285.2 3 8 0 0 0 0).bind fun bt291 => ((h3_Para.f k ([] : List (S63))).bind fun bt295 => ((lines_Rows.f k bt295.1 bt295.2 bt291.1).bind fun t301 => ((h3_Para.f k (([(⟨1, 0, 0, 2⟩ : S63), (⟨1, 0, 0, 0⟩ : S63)] : List (S63)))).bind fun bt307 => ((lines_Break.f k bt307.1 bt307.2 3 8 0 0 0 0).bind fun bt313 => (if (bt291.1.length : Int) = 0 then (if bt291.2 = true then (some false) else (if (t301.length : Int) = 1 then (if 0 < (t301.length : Int) then (if (((rd_T53 t301 0).f0) == 0 && (((rd_T53 t301 0).f1) == 0 && (((rd_T53 t301 0).f2) == 0 && (((rd_T53 t301 0).f3) == 2)))) = true then (if (bt313.1.length : Int) = 2 then (if 0 < (bt313.1.length : Int) then (if ((rd_T54 bt313.1 0).f3) = 2 then (if 1 < (bt313.1.length : Int) then (some (((rd_T54 bt313.1 1).f1) == 2)) else (none)) else (some false)) else (none)) else (some false)) else (some false)) else (none)) else (some false))) else (some false)))))))) = some r := h
 clear h; replace H := Option.bind_eq_some_iff.mp H; obtain ⟨⟨t285, t288⟩, A10, H⟩ := H; replace H : ((lines_Break.f k t285 t288 3 8 0 0 0 0).bind fun bt291 => ((h3_Para.f k ([] : List (S63))).bind fun bt295 => ((lines_Rows.f k bt295.1 bt295.2 bt291.1).bind fun t301 => ((h3_Para.f k (([(⟨1, 0, 0, 2⟩ : S63), (⟨1, 0, 0, 0⟩ : S63)] : List (S63)))).bind fun bt307 => ((lines_Break.f k bt307.1 bt307.2 3 8 0 0 0 0).bind fun bt313 => (if (bt291.1.length : Int) = 0 then (if bt291.2 = true then (some false) else (if (t301.length : Int) = 1 then (if 0 < (t301.length : Int) then (if (((rd_T53 t301 0).f0) == 0 && (((rd_T53 t301 0).f1) == 0 && (((rd_T53 t301 0).f2) == 0 && (((rd_T53 t301 0).f3) == 2)))) = true then (if (bt313.1.length : Int) = 2 then (if 0 < (bt313.1.length : Int) then (if ((rd_T54 bt313.1 0).f3) = 2 then (if 1 < (bt313.1.length : Int) then (some (((rd_T54 bt313.1 1).f1) == 2)) else (none)) else (some false)) else (none)) else (some false)) else (some false)) else (none)) else (some false))) else (some false))))))) = some r := H
 have A1 := zA.mk A10; clear A10; replace H := Option.bind_eq_some_iff.mp H; obtain ⟨⟨t291, t294⟩, A20, H⟩ := H; replace H : ((h3_Para.f k ([] : List (S63))).bind fun bt295 => ((lines_Rows.f k bt295.1 bt295.2 t291).bind fun t301 => ((h3_Para.f k (([(⟨1, 0, 0, 2⟩ : S63), (⟨1, 0, 0, 0⟩ : S63)] : List (S63)))).bind fun bt307 => ((lines_Break.f k bt307.1 bt307.2 3 8 0 0 0 0).bind fun bt313 => (if (t291.length : Int) = 0 then (if t294 = true then (some false) else (if (t301.length : Int) = 1 then (if 0 < (t301.length : Int) then (if (((rd_T53 t301 0).f0) == 0 && (((rd_T53 t301 0).f1) == 0 && (((rd_T53 t301 0).f2) == 0 && (((rd_T53 t301 0).f3) == 2)))) = true then (if (bt313.1.length : Int) = 2 then (if 0 < (bt313.1.length : Int) then (if ((rd_T54 bt313.1 0).f3) = 2 then (if 1 < (bt313.1.length : Int) then (some (((rd_T54 bt313.1 1).f1) == 2)) else (none)) else (some false)) else (none)) else (some false)) else (some false)) else (none)) else (some false))) else (some false)))))) = some r := H
 have A2 := zA.mk A20; clear A20; replace H := Option.bind_eq_some_iff.mp H; obtain ⟨⟨t295, t298⟩, A30, H⟩ := H; replace H : ((lines_Rows.f k t295 t298 t291).bind fun t301 => ((h3_Para.f k (([(⟨1, 0, 0, 2⟩ : S63), (⟨1, 0, 0, 0⟩ : S63)] : List (S63)))).bind fun bt307 => ((lines_Break.f k bt307.1 bt307.2 3 8 0 0 0 0).bind fun bt313 => (if (t291.length : Int) = 0 then (if t294 = true then (some false) else (if (t301.length : Int) = 1 then (if 0 < (t301.length : Int) then (if (((rd_T53 t301 0).f0) == 0 && (((rd_T53 t301 0).f1) == 0 && (((rd_T53 t301 0).f2) == 0 && (((rd_T53 t301 0).f3) == 2)))) = true then (if (bt313.1.length : Int) = 2 then (if 0 < (bt313.1.length : Int) then (if ((rd_T54 bt313.1 0).f3) = 2 then (if 1 < (bt313.1.length : Int) then (some (((rd_T54 bt313.1 1).f1) == 2)) else (none)) else (some false)) else (none)) else (some false)) else (some false)) else (none)) else (some false))) else (some false))))) = some r := H
 have A3 := zA.mk A30; clear A30; replace H := Option.bind_eq_some_iff.mp H; obtain ⟨t301, A40, H⟩ := H; replace H : ((h3_Para.f k (([(⟨1, 0, 0, 2⟩ : S63), (⟨1, 0, 0, 0⟩ : S63)] : List (S63)))).bind fun bt307 => ((lines_Break.f k bt307.1 bt307.2 3 8 0 0 0 0).bind fun bt313 => (if (t291.length : Int) = 0 then (if t294 = true then (some false) else (if (t301.length : Int) = 1 then (if 0 < (t301.length : Int) then (if (((rd_T53 t301 0).f0) == 0 && (((rd_T53 t301 0).f1) == 0 && (((rd_T53 t301 0).f2) == 0 && (((rd_T53 t301 0).f3) == 2)))) = true then (if (bt313.1.length : Int) = 2 then (if 0 < (bt313.1.length : Int) then (if ((rd_T54 bt313.1 0).f3) = 2 then (if 1 < (bt313.1.length : Int) then (some (((rd_T54 bt313.1 1).f1) == 2)) else (none)) else (some false)) else (none)) else (some false)) else (some false)) else (none)) else (some false))) else (some false)))) = some r := H
 have A4 := zA.mk A40; clear A40; obtain ⟨y304, hy304⟩ : ∃ y_ : List (S63), y_ = (([(⟨1, 0, 0, 2⟩ : S63), (⟨1, 0, 0, 0⟩ : S63)] : List (S63))) := ⟨_, rfl⟩; replace H : ((h3_Para.f k y304).bind fun bt307 => ((lines_Break.f k bt307.1 bt307.2 3 8 0 0 0 0).bind fun bt313 => (if (t291.length : Int) = 0 then (if t294 = true then (some false) else (if (t301.length : Int) = 1 then (if 0 < (t301.length : Int) then (if (((rd_T53 t301 0).f0) == 0 && (((rd_T53 t301 0).f1) == 0 && (((rd_T53 t301 0).f2) == 0 && (((rd_T53 t301 0).f3) == 2)))) = true then (if (bt313.1.length : Int) = 2 then (if 0 < (bt313.1.length : Int) then (if ((rd_T54 bt313.1 0).f3) = 2 then (if 1 < (bt313.1.length : Int) then (some (((rd_T54 bt313.1 1).f1) == 2)) else (none)) else (some false)) else (none)) else (some false)) else (some false)) else (none)) else (some false))) else (some false)))) = some r := by first | (rw [hy304]; with_reducible exact H) | (have H2_ := (Option.bind_some _ _).symm.trans H; rw [hy304]; with_reducible exact H2_) | (have H2_ := (Option.bind_some _ _).symm.trans H; with_reducible exact H2_) | with_reducible exact H | (rw [hy304]; exact H) | exact H
 have Ny304 := zA.mk hy304; clear hy304; replace H := Option.bind_eq_some_iff.mp H; obtain ⟨⟨t307, t310⟩, A50, H⟩ := H; replace H : ((lines_Break.f k t307 t310 3 8 0 0 0 0).bind fun bt313 => (if (t291.length : Int) = 0 then (if t294 = true then (some false) else (if (t301.length : Int) = 1 then (if 0 < (t301.length : Int) then (if (((rd_T53 t301 0).f0) == 0 && (((rd_T53 t301 0).f1) == 0 && (((rd_T53 t301 0).f2) == 0 && (((rd_T53 t301 0).f3) == 2)))) = true then (if (bt313.1.length : Int) = 2 then (if 0 < (bt313.1.length : Int) then (if ((rd_T54 bt313.1 0).f3) = 2 then (if 1 < (bt313.1.length : Int) then (some (((rd_T54 bt313.1 1).f1) == 2)) else (none)) else (some false)) else (none)) else (some false)) else (some false)) else (none)) else (some false))) else (some false))) = some r := H
 have A5 := zA.mk A50; clear A50; replace H := Option.bind_eq_some_iff.mp H; obtain ⟨⟨t313, t316⟩, A60, H⟩ := H; replace H : (if (t291.length : Int) = 0 then (if t294 = true then (some false) else (if (t301.length : Int) = 1 then (if 0 < (t301.length : Int) then (if (((rd_T53 t301 0).f0) == 0 && (((rd_T53 t301 0).f1) == 0 && (((rd_T53 t301 0).f2) == 0 && (((rd_T53 t301 0).f3) == 2)))) = true then (if (t313.length : Int) = 2 then (if 0 < (t313.length : Int) then (if ((rd_T54 t313 0).f3) = 2 then (if 1 < (t313.length : Int) then (some (((rd_T54 t313 1).f1) == 2)) else (none)) else (some false)) else (none)) else (some false)) else (some false)) else (none)) else (some false))) else (some false)) = some r := H; have A6 := zA.mk A60; clear A60; by_cases c7 : (t291.length : Int) = 0
 rotate_left
 ·rw [if_neg c7] at H
  have c7b0 : ((t291.length : Int) == 0) = false := beq_eq_false_iff_ne.mpr c7
  have c7b1 : ((t291.length : Int) != 0) = true := bne_iff_ne.mpr c7
  have c7b2 : ¬ (t291 = []) := fun h_ => c7 (by rw [h_]; rfl)
  exact absurd ((Option.some.inj H).trans hrt_.out) (by decide)
 rw [if_pos c7] at H; have c7b0 : ((t291.length : Int) == 0) = true := beq_iff_eq.mpr c7
 have c7b1 : ((t291.length : Int) != 0) = false := bne_eq_false_iff_eq.mpr c7
 clear c7; by_cases c8 : t294 = true
 ·subst c8
  have H1 : (some false) = some r := by rw [if_pos rfl] at H; exact H
  clear H; have H := H1; clear H1; exact absurd ((Option.some.inj H).trans hrt_.out) (by decide)
 replace c8 := Bool.eq_false_iff.mpr c8; subst c8; have H1 : (if (t301.length : Int) = 1 then (if 0 < (t301.length : Int) then (if (((rd_T53 t301 0).f0) == 0 && (((rd_T53 t301 0).f1) == 0 && (((rd_T53 t301 0).f2) == 0 && (((rd_T53 t301 0).f3) == 2)))) = true then (if (t313.length : Int) = 2 then (if 0 < (t313.length : Int) then (if ((rd_T54 t313 0).f3) = 2 then (if 1 < (t313.length : Int) then (some (((rd_T54 t313 1).f1) == 2)) else (none)) else (some false)) else (none)) else (some false)) else (some false)) else (none)) else (some false)) = some r := by rw [if_neg (show ¬ (false = true) by decide)] at H; exact H
 clear H; have H := H1; clear H1; by_cases c9 : (t301.length : Int) = 1
 rotate_left
 ·rw [if_neg c9] at H
  have c9b0 : ((t301.length : Int) == 1) = false := beq_eq_false_iff_ne.mpr c9
  have c9b1 : ((t301.length : Int) != 1) = true := bne_iff_ne.mpr c9
  exact absurd ((Option.some.inj H).trans hrt_.out) (by decide)
 rw [if_pos c9] at H; have c9b0 : ((t301.length : Int) == 1) = true := beq_iff_eq.mpr c9
 have c9b1 : ((t301.length : Int) != 1) = false := bne_eq_false_iff_eq.mpr c9
 clear c9; by_cases c10 : 0 < (t301.length : Int)
 rotate_left
 ·rw [if_neg c10] at H
  exact absurd H (by simp)
 rw [if_pos c10] at H; have c10b0 : decide (0 < (t301.length : Int)) = true := decide_eq_true c10
 have c10b1 : decide (0 < t301.length) = true := decide_eq_true (by omega)
 clear c10; by_cases c11 : (((rd_T53 t301 0).f0) == 0 && (((rd_T53 t301 0).f1) == 0 && (((rd_T53 t301 0).f2) == 0 && (((rd_T53 t301 0).f3) == 2)))) = true
 rotate_left
 ·rw [if_neg c11] at H
  have c11b0 : (((rd_T53 t301 0).f0) == 0 && (((rd_T53 t301 0).f1) == 0 && (((rd_T53 t301 0).f2) == 0 && (((rd_T53 t301 0).f3) == 2)))) = false := by simpa using c11
  (try (have c11b1 : decide (((rd_T53 t301 0).f0) = 0 && (((rd_T53 t301 0).f1) == 0 && (((rd_T53 t301 0).f2) == 0 && (((rd_T53 t301 0).f3) == 2)))) = false := by simpa using c11))
  (try (have c11b2 : (((rd_T53 t301 0).f0) == 0 && (((rd_T53 t301 0).f1) == 0 && (((rd_T53 t301 0).f2) == 0 && (((rd_T53 t301 0).f3) == 2)))) = false := by simpa using c11))
  (try (have c11b3 : ¬ (((rd_T53 t301 0).f0) = 0 && (((rd_T53 t301 0).f1) == 0 && (((rd_T53 t301 0).f2) == 0 && (((rd_T53 t301 0).f3) == 2)))) := by simpa using c11))
  clear c11; exact absurd ((Option.some.inj H).trans hrt_.out) (by decide)
 rw [if_pos c11] at H; have c11b0 : (((rd_T53 t301 0).f0) == 0 && (((rd_T53 t301 0).f1) == 0 && (((rd_T53 t301 0).f2) == 0 && (((rd_T53 t301 0).f3) == 2)))) = true := c11
 (try (have c11b1 : decide (((rd_T53 t301 0).f0) = 0 && (((rd_T53 t301 0).f1) == 0 && (((rd_T53 t301 0).f2) == 0 && (((rd_T53 t301 0).f3) == 2)))) = true := by simpa using c11))
 (try (have c11b2 : (((rd_T53 t301 0).f0) == 0 && (((rd_T53 t301 0).f1) == 0 && (((rd_T53 t301 0).f2) == 0 && (((rd_T53 t301 0).f3) == 2)))) = true := by simpa using c11))
 clear c11; by_cases c12 : (t313.length : Int) = 2
 rotate_left
 ·rw [if_neg c12] at H
  have c12b0 : ((t313.length : Int) == 2) = false := beq_eq_false_iff_ne.mpr c12
  have c12b1 : ((t313.length : Int) != 2) = true := bne_iff_ne.mpr c12
  exact absurd ((Option.some.inj H).trans hrt_.out) (by decide)
 rw [if_pos c12] at H; have c12b0 : ((t313.length : Int) == 2) = true := beq_iff_eq.mpr c12
 have c12b1 : ((t313.length : Int) != 2) = false := bne_eq_false_iff_eq.mpr c12
 clear c12; by_cases c13 : 0 < (t313.length : Int)
 rotate_left
 ·rw [if_neg c13] at H
  exact absurd H (by simp)
 rw [if_pos c13] at H; have c13b0 : decide (0 < (t313.length : Int)) = true := decide_eq_true c13
 have c13b1 : decide (0 < t313.length) = true := decide_eq_true (by omega)
 clear c13; by_cases c14 : ((rd_T54 t313 0).f3) = 2
 rotate_left
 ·rw [if_neg c14] at H
  have c14b0 : (((rd_T54 t313 0).f3) == 2) = false := beq_eq_false_iff_ne.mpr c14
  have c14b1 : (((rd_T54 t313 0).f3) != 2) = true := bne_iff_ne.mpr c14
  exact absurd ((Option.some.inj H).trans hrt_.out) (by decide)
 rw [if_pos c14] at H; have c14b0 : (((rd_T54 t313 0).f3) == 2) = true := beq_iff_eq.mpr c14
 have c14b1 : (((rd_T54 t313 0).f3) != 2) = false := bne_eq_false_iff_eq.mpr c14
 clear c14; by_cases c15 : 1 < (t313.length : Int)
 rotate_left
 ·rw [if_neg c15] at H
  exact absurd H (by simp)
 rw [if_pos c15] at H; have c15b0 : decide (1 < (t313.length : Int)) = true := decide_eq_true c15
 have c15b1 : decide (1 < t313.length) = true := decide_eq_true (by omega)
 clear c15; obtain rfl := Option.some.inj H
 go_enter Try.func9, Try.ntmps9
 try go_wp2_with (first | ((with_reducible refine gate_dst (N := 1) rfl ?_); (try (refine gate_guard (by rfl) ?_; dsimp only)); refine box_event ?hg (N := 1) ?hd (cs := #[.int .i64 0, .int .i64 0, .int .u8 0, .int .i64 0, .int .i64 0, .float .f64 0]) (t := 35) ?hr ?_; (case hd => rfl); (case hg => rfl); (case hr => first | (go_simp; done) | (go_simp; rfl)); intro gb284 hg w16 hbox hb; have BK284 := zA.mk (hbox); have GW284 := zA.mk ((by rw [hg]; exact (zH (aL HB)) : w.heap.size ≤ gb284)); replace HB := zA.mk (zD (aL HB) hb); have GE284 := GW284; clear hb hbox hg; obtain ⟨hcz17_0, hcz17_1, hcz17_2, hcz17_3, hcz17_4, hcz17_5, hfz17_0, hfz17_1, hfz17_2, hfz17_3, hfz17_4, hfz17_5⟩ := aC6 BK284) | ((with_reducible refine gate_store (t := 35) (p := 1) rfl ?_); refine store_event (t := 35) (p := 1) (v := ?vo_w18) (w1 := ((((((w16.setCell ⟨gb284, 0, none⟩ (.int .i64 3)).setCell ⟨gb284, 1, none⟩ (.int .i64 8)).setCell ⟨gb284, 2, none⟩ (.int .u8 0)).setCell ⟨gb284, 3, none⟩ (.int .i64 0)).setCell ⟨gb284, 4, none⟩ (.int .i64 0)).setCell ⟨gb284, 5, none⟩ (.float .f64 0))) ?hg ?ho ?hn ?hr ?_; (case ho => rfl); (case hg => rfl); (case hn => rfl); (case hr => first | (go_simp; done) | (go_simp; rfl)); intro w18 hw; have n0_ : zA (w18.heap[gb284]? = some (.cells #[.int .i64 3, .int .i64 8, .int .u8 0, .int .i64 0, .int .i64 0, .float .f64 0] 35 (0, 0))) := ⟨(by rw [hw]; exact (by (with_reducible repeat (first | refine zI ?_ _ | refine zF ?_ | refine zE ?_ _)); refine blk_put (cs := #[.int .i64 3, .int .i64 8, .int .u8 0, .int .i64 0, .int .i64 0, .float .f64 0]) ?_ 5 _ rfl; (with_reducible repeat (first | refine zI ?_ _ | refine zF ?_ | refine zE ?_ _)); refine blk_put (cs := #[.int .i64 3, .int .i64 8, .int .u8 0, .int .i64 0, .int .i64 0, .float .f64 0]) ?_ 4 _ rfl; (with_reducible repeat (first | refine zI ?_ _ | refine zF ?_ | refine zE ?_ _)); refine blk_put (cs := #[.int .i64 3, .int .i64 8, .int .u8 0, .int .i64 0, .int .i64 0, .float .f64 0]) ?_ 3 _ rfl; (with_reducible repeat (first | refine zI ?_ _ | refine zF ?_ | refine zE ?_ _)); refine blk_put (cs := #[.int .i64 3, .int .i64 8, .int .u8 0, .int .i64 0, .int .i64 0, .float .f64 0]) ?_ 2 _ rfl; (with_reducible repeat (first | refine zI ?_ _ | refine zF ?_ | refine zE ?_ _)); refine blk_put (cs := #[.int .i64 3, .int .i64 0, .int .u8 0, .int .i64 0, .int .i64 0, .float .f64 0]) ?_ 1 _ rfl; (with_reducible repeat (first | refine zI ?_ _ | refine zF ?_ | refine zE ?_ _)); refine blk_put (cs := #[.int .i64 0, .int .i64 0, .int .u8 0, .int .i64 0, .int .i64 0, .float .f64 0]) ?_ 0 _ rfl; (with_reducible repeat (first | refine zI ?_ _ | refine zF ?_ | refine zE ?_ _)); exact BK284.out))⟩; have n1_ : zA (Below w.heap.size w w18) := ⟨(by rw [hw]; exact (aL HB))⟩; clear hw; clear BK284; clear HB; have BK284 := n0_; have HB := n1_; clear n0_ n1_))
 replace BK284 := zA.mk (zF BK284.out); replace HB := zA.mk (below_drew1 HB.out); refine start_ (n := 8) (S := fun w' => w'.cell? ⟨gb284, 0, none⟩ = some (.int .i64 3) ∧ w'.cell? ⟨gb284, 1, none⟩ = some (.int .i64 8) ∧ w'.cell? ⟨gb284, 2, none⟩ = some (.int .u8 0) ∧ w'.cell? ⟨gb284, 3, none⟩ = some (.int .i64 0) ∧ w'.cell? ⟨gb284, 4, none⟩ = some (.int .i64 0) ∧ w'.cell? ⟨gb284, 5, none⟩ = some (.float .f64 0)) (ds := []) #[false, false, false, false, false, false, false, false] (by kernel_rfl) rfl rfl ⟨(zB BK284.out 0).trans rfl, (zB BK284.out 1).trans rfl, (zB BK284.out 2).trans rfl, (zB BK284.out 3).trans rfl, (zB BK284.out 4).trans rfl, (zB BK284.out 5).trans rfl⟩ (fun hHeld => ?_); refine with_tabW l6_Awake.tab2 l6_Awake.bits2 (fun HT_ HW_ => ?_)
 generalize w18.drew = w19 at BK284 HB hHeld ⊢
 refine take_ (i := 1) (N := some 10) (v := ?_) (a' := ?_) (tb_ 2 8) rfl rfl (take_ofW HT_.out HW_.out (by kernel_rfl)) (fun _ _ _ h => h) (Or.inl ⟨by rfl, ?_⟩) hHeld ?_ ?_
 rotate_left
 ·rintro w' ⟨s0, s1, s2, s3, s4, s5⟩
  go_simp
  with_reducible rfl
 rotate_left
 ·simp only [Act.put, sA_, sB_, sC_, i64_w, i32_w]
  rfl
 refine one_ (i := 0) (N := some 9) (tb_ 3 8) rfl rfl (one_of HT_.out (by kernel_rfl)) (by decide) (fun K hK => ?_)
 refine goes_ Try.func10 (by kernel_rfl) rfl #[.slice none 0 0] (by rfl) rfl rfl aT ?_
 refine (h3_Para.calls k _ _ ([] : List (S63)) t285 t288 _ ?side1 ?side2 A1.out).mono ?_
 (case side1 => exact Kd.C_nil _ _)
 (case side2 => exact Nat.le_refl _)
 rintro e w20 ⟨v286, v289, rfl, ho0, ho1, hb⟩
 refine ⟨_, rfl, ?_⟩
 have HO287 := zA.mk (Kd.zU ho0 (zH (aL HB))); have HO290 := zA.mk (Kd.zU ho1 (zH (aL HB))); replace BK284 := zA.mk (zC (aB BK284) hb); replace HB := zA.mk (zD (aL HB) hb); (try clear hb)
 (try clear hb2)
 (try clear hk)
 (try clear hi)
 (try clear ho0)
 (try clear ho1)
 obtain ⟨Ao21, co21, eo21⟩ := Kd.zT HO287.out; (first | subst eo21 | (injection eo21 with f1_ f2_ f3_; have f4_ := f1_.symm; have f5_ := f3_.symm; clear f1_ f2_ f3_; subst f4_; subst f5_))
 obtain ⟨Ao22, co22, eo22⟩ := Kd.zT HO290.out; (first | subst eo22 | (injection eo22 with f1_ f2_ f3_; have f4_ := f1_.symm; have f5_ := f3_.symm; clear f1_ f2_ f3_; subst f4_; subst f5_))
 refine hK.out _ _ ⟨(zB BK284.out 0).trans rfl, (zB BK284.out 1).trans rfl, (zB BK284.out 2).trans rfl, (zB BK284.out 3).trans rfl, (zB BK284.out 4).trans rfl, (zB BK284.out 5).trans rfl⟩ (fun hHeld => ?_)
 clear hK K; refine norm_ (a' := ?_) ?_ ?_
 rotate_left
 ·show Act.put _ (some 9) _ = _
  simp only [Act.put, sA_, sB_, sC_, i64_w, i32_w]; rfl
 refine one_ (i := 2) (N := some 11) (tb_ 7 8) rfl rfl (one_of HT_.out (by kernel_rfl)) (by decide) (fun K hK => ?_)
 refine goes_ Try.func12 (by kernel_rfl) rfl #[.agg #[.slice Ao21 t285.length co21, .slice Ao22 t288.length co22], .agg #[.int .i64 3, .int .i64 8, .int .u8 0, .int .i64 0, .int .i64 0, .float .f64 0]] (by rfl) rfl rfl aT ?_
 with_reducible refine (lines_Break.calls k _ _ t285 _ _ t288 3 8 0 0 0 0 t291 false _ ?side1 ?side2 ?side3 ?side4 A2.out).mono ?_
 (case side1 => exact aF HO287)
 (case side2 => exact (Kd.zQ HO287.out).2.1)
 (case side3 => exact aF HO290)
 (case side4 => exact (Kd.zQ HO290.out).2.1)
 rintro e w23 ⟨v292, rfl, ho0, hb⟩
 refine ⟨_, rfl, ?_⟩
 replace HO287 := zA.mk (Kd.zR (aR HO287) hb); replace HO290 := zA.mk (Kd.zR (aR HO290) hb); have HO293 := zA.mk (Kd.zU ho0 (zH (aL HB))); replace BK284 := zA.mk (zC (aB BK284) hb); replace HB := zA.mk (zD (aL HB) hb); (try clear hb)
 (try clear hb2)
 (try clear hk)
 (try clear hi)
 (try clear ho0)
 refine hK.out _ _ ⟨(zB BK284.out 0).trans rfl, (zB BK284.out 1).trans rfl, (zB BK284.out 2).trans rfl, (zB BK284.out 3).trans rfl, (zB BK284.out 4).trans rfl, (zB BK284.out 5).trans rfl⟩ (fun hHeld => ?_)
 clear hK K; refine norm_ (a' := ?_) ?_ ?_
 rotate_left
 ·show Act.put _ (some 11) _ = _
  simp only [Act.put, sA_, sB_, sC_, i64_w, i32_w]; rfl
 refine aP 3 (some 8) (tf_ 4 8) HT_ ?_
 refine aP 4 (some 12) (tf_ 5 8) HT_ ?_
 refine aP 5 (some 13) (tf_ 6 8) HT_ ?_
 refine aP 6 (some 2) (tf_ 7 8) HT_ ?_
 refine aP 7 (some 3) (tb_ 255 8) HT_ ?_
 refine done_ (done_of HT_.out (by kernel_rfl)) ?_
 try go_wp2_with (first | ((with_reducible refine gate_callee (f := 10) rfl ?_); refine goesL_ (some 14) rfl rfl Try.func10 (by kernel_rfl) rfl #[.slice none 0 0] rfl aT ?_; (refine (h3_Para.calls k _ _ ([] : List (S63)) t295 t298 _ ?side1 ?side2 A3.out).mono ?_); (case side1 => exact Kd.C_nil _ _); (case side2 => exact Nat.le_refl _); rintro e w24 ⟨v296, v299, rfl, ho0, ho1, hb⟩; refine ⟨_, rfl, ?_⟩; replace HO293 := zA.mk (Kd.zR (aR HO293) hb); have HO297 := zA.mk (Kd.zU (Kd.R_new' ho0 (Kd.R_lt (aR HO287))) (zH (aL HB))); replace HO287 := zA.mk (Kd.R_elder' (aR HO287) (Kd.R_base ho0) hb); have HO300 := zA.mk (Kd.zU (Kd.R_new' ho1 (Kd.R_lt (aR HO290))) (zH (aL HB))); replace HO290 := zA.mk (Kd.R_elder' (aR HO290) (Kd.R_base ho1) hb); replace BK284 := zA.mk (zC (aB BK284) hb); replace HB := zA.mk (zD (aL HB) hb); (try clear hb); (try clear hb2); (try clear hk); (try clear hi); (try clear ho0); (try clear ho1); obtain ⟨Ao25, co25, eo25⟩ := Kd.zT HO297.out; subst eo25; obtain ⟨Ao26, co26, eo26⟩ := Kd.zT HO300.out; subst eo26; obtain ⟨Ao27, co27, eo27⟩ := Kd.zT HO293.out; subst eo27) | ((with_reducible refine gate_callee (f := 16) rfl ?_); refine goesL_ (some 16) rfl rfl Try.func16 (by kernel_rfl) rfl #[.agg #[.slice Ao25 t295.length co25, .slice Ao26 t298.length co26], .slice Ao27 t291.length co27] rfl aT ?_; (with_reducible refine (lines_Rows.calls k _ _ t295 _ _ t298 _ _ t291 t301 _ ?side1 ?side2 ?side3 ?side4 ?side5 ?side6 A4.out).mono ?_); (case side1 => exact aF HO297); (case side2 => exact (Kd.zQ HO297.out).2.1); (case side3 => exact aF HO300); (case side4 => exact (Kd.zQ HO300.out).2.1); (case side5 => exact aF HO293); (case side6 => exact (Kd.zQ HO293.out).2.1); rintro e w28 ⟨v302, rfl, ho0, hb⟩; refine ⟨_, rfl, ?_⟩; replace HO287 := zA.mk (Kd.zR (aR HO287) hb); replace HO290 := zA.mk (Kd.zR (aR HO290) hb); replace HO293 := zA.mk (Kd.zR (aR HO293) hb); replace HO297 := zA.mk (Kd.zR (aR HO297) hb); replace HO300 := zA.mk (Kd.zR (aR HO300) hb); have HO303 := zA.mk (Kd.zU ho0 (zH (aL HB))); replace BK284 := zA.mk (zC (aB BK284) hb); replace HB := zA.mk (zD (aL HB) hb); (try clear hb); (try clear hb2); (try clear hk); (try clear hi); (try clear ho0)))
 replace HO287 := zA.mk (Kd.zL HO287.out); replace HO290 := zA.mk (Kd.zL HO290.out); replace HO293 := zA.mk (Kd.zL HO293.out); replace HO297 := zA.mk (Kd.zL HO297.out); replace HO300 := zA.mk (Kd.zL HO300.out); replace HO303 := zA.mk (Kd.zL HO303.out); replace BK284 := zA.mk (zF BK284.out); replace HB := zA.mk (below_drew1 HB.out); refine start_ (n := 11) (S := fun w' => w'.cell? ⟨gb284, 0, none⟩ = some (.int .i64 3) ∧ w'.cell? ⟨gb284, 1, none⟩ = some (.int .i64 8) ∧ w'.cell? ⟨gb284, 2, none⟩ = some (.int .u8 0) ∧ w'.cell? ⟨gb284, 3, none⟩ = some (.int .i64 0) ∧ w'.cell? ⟨gb284, 4, none⟩ = some (.int .i64 0) ∧ w'.cell? ⟨gb284, 5, none⟩ = some (.float .f64 0)) (ds := []) #[false, false, false, false, false, false, false, false, false, false, false] (by kernel_rfl) rfl rfl ⟨(zB BK284.out 0).trans rfl, (zB BK284.out 1).trans rfl, (zB BK284.out 2).trans rfl, (zB BK284.out 3).trans rfl, (zB BK284.out 4).trans rfl, (zB BK284.out 5).trans rfl⟩ (fun hHeld => ?_); refine with_tabW l6_Awake.tab4 l6_Awake.bits4 (fun HT_ HW_ => ?_)
 generalize w28.drew = w29 at HO287 HO290 HO293 HO297 HO300 HO303 BK284 HB hHeld ⊢
 refine aP 0 (some 18) (tf_ 1 11) HT_ ?_
 refine aP 1 (some 19) (tf_ 2 11) HT_ ?_
 refine take_ (i := 4) (N := some 22) (v := ?_) (a' := ?_) (tb_ 19 11) rfl rfl (take_ofW HT_.out HW_.out (by kernel_rfl)) (fun _ _ _ h => h) (Or.inl ⟨by rfl, ?_⟩) hHeld ?_ ?_
 rotate_left
 ·rintro w' ⟨s0, s1, s2, s3, s4, s5⟩
  go_simp
  with_reducible rfl
 rotate_left
 ·simp only [Act.put, sA_, sB_, sC_, i64_w, i32_w]
  rfl
 refine one_ (i := 2) (N := some 20) (tb_ 23 11) rfl rfl (one_of HT_.out (by kernel_rfl)) (by decide) (fun K hK => ?_)
 refine Kd.R_lit_step k63 _ 63 ?hg (N := 20) ?hd (xs := ([(⟨1, 0, 0, 2⟩ : S63), (⟨1, 0, 0, 0⟩ : S63)] : List (S63))) (inner := [.int .u8 1, .int .u8 0, .int .u8 0, .int .u8 2, .int .u8 1, .int .u8 0, .int .u8 0, .int .u8 0]) (ok := fun _ => True) (okp := fun _ => True) ?hr ?hp (fun _ hk => hk) trivial (Below.refl _ _) (Nat.le_refl _) (by simp) ?_; (case hd => rfl); (case hg => rfl); (case hr => first | (go_simp; done) | (go_simp; rfl)); (case hp => exact (Reps.c4 (show Kd.M k63 _ _ _ (⟨1, 0, 0, 2⟩ : S63) [.int .u8 1, .int .u8 0, .int .u8 0, .int .u8 2] from (k63_mkM _ _ _ (⟨1, 0, 0, 2⟩ : S63) )) (Reps.c4 (show Kd.M k63 _ _ _ (⟨1, 0, 0, 0⟩ : S63) [.int .u8 1, .int .u8 0, .int .u8 0, .int .u8 0] from (k63_mkM _ _ _ (⟨1, 0, 0, 0⟩ : S63) )) (Reps.none _ _))))
 intro v305 w30 ho31 hb hg_ hnew_
 clear hg_ hnew_; (first | rw [← Ny304.out] at ho31 | (simp only [Int.reduceToNat] at ho31; rw [← Ny304.out] at ho31))
 replace HO287 := zA.mk (Kd.zR (aR HO287) hb); replace HO290 := zA.mk (Kd.zR (aR HO290) hb); replace HO293 := zA.mk (Kd.zR (aR HO293) hb); replace HO297 := zA.mk (Kd.zR (aR HO297) hb); replace HO300 := zA.mk (Kd.zR (aR HO300) hb); replace HO303 := zA.mk (Kd.zR (aR HO303) hb); have HO306 := zA.mk (Kd.zU ho31 (zH (aL HB))); replace BK284 := zA.mk (zC (aB BK284) hb); replace HB := zA.mk (zD (aL HB) hb); clear hb ho31; obtain ⟨Ao32, co32, eo32⟩ := Kd.zT HO306.out; (first | subst eo32 | (injection eo32 with f1_ f2_ f3_; have f4_ := f1_.symm; have f5_ := f3_.symm; clear f1_ f2_ f3_; subst f4_; subst f5_))
 refine hK.out _ _ ⟨(zB BK284.out 0).trans rfl, (zB BK284.out 1).trans rfl, (zB BK284.out 2).trans rfl, (zB BK284.out 3).trans rfl, (zB BK284.out 4).trans rfl, (zB BK284.out 5).trans rfl⟩ (fun hHeld => ?_)
 clear hK K; refine norm_ (a' := ?_) ?_ ?_
 rotate_left
 ·show Act.put _ (some 20) _ = _
  simp only [Act.put, sA_, sB_, sC_, i64_w, i32_w]; rfl
 refine one_ (i := 3) (N := some 21) (tb_ 31 11) rfl rfl (one_of HT_.out (by kernel_rfl)) (by decide) (fun K hK => ?_)
 refine goes_ Try.func10 (by kernel_rfl) rfl #[.slice Ao32 y304.length co32] (by rfl) rfl rfl aT ?_
 with_reducible refine (h3_Para.calls k _ _ y304 t307 t310 _ ?side1 ?side2 A5.out).mono ?_
 (case side1 => exact aF HO306)
 (case side2 => exact (Kd.zQ HO306.out).2.1)
 rintro e w33 ⟨v308, v311, rfl, ho0, ho1, hb⟩
 refine ⟨_, rfl, ?_⟩
 replace HO293 := zA.mk (Kd.zR (aR HO293) hb); replace HO303 := zA.mk (Kd.zR (aR HO303) hb); replace HO306 := zA.mk (Kd.zR (aR HO306) hb); have HO309 := zA.mk (Kd.zU (Kd.R_new' (Kd.R_new' ho0 (Kd.R_lt (aR HO287))) (Kd.R_lt (aR HO297))) (zH (aL HB))); replace HO287 := zA.mk (Kd.R_elder' (aR HO287) (Kd.R_base ho0) hb); replace HO297 := zA.mk (Kd.R_elder' (aR HO297) (Kd.R_base ho0) hb); have HO312 := zA.mk (Kd.zU (Kd.R_new' (Kd.R_new' ho1 (Kd.R_lt (aR HO290))) (Kd.R_lt (aR HO300))) (zH (aL HB))); replace HO290 := zA.mk (Kd.R_elder' (aR HO290) (Kd.R_base ho1) hb); replace HO300 := zA.mk (Kd.R_elder' (aR HO300) (Kd.R_base ho1) hb); replace BK284 := zA.mk (zC (aB BK284) hb); replace HB := zA.mk (zD (aL HB) hb); (try clear hb)
 (try clear hb2)
 (try clear hk)
 (try clear hi)
 (try clear ho0)
 (try clear ho1)
 obtain ⟨Ao34, co34, eo34⟩ := Kd.zT HO309.out; (first | subst eo34 | (injection eo34 with f1_ f2_ f3_; have f4_ := f1_.symm; have f5_ := f3_.symm; clear f1_ f2_ f3_; subst f4_; subst f5_))
 obtain ⟨Ao35, co35, eo35⟩ := Kd.zT HO312.out; (first | subst eo35 | (injection eo35 with f1_ f2_ f3_; have f4_ := f1_.symm; have f5_ := f3_.symm; clear f1_ f2_ f3_; subst f4_; subst f5_))
 refine hK.out _ _ ⟨(zB BK284.out 0).trans rfl, (zB BK284.out 1).trans rfl, (zB BK284.out 2).trans rfl, (zB BK284.out 3).trans rfl, (zB BK284.out 4).trans rfl, (zB BK284.out 5).trans rfl⟩ (fun hHeld => ?_)
 clear hK K; refine norm_ (a' := ?_) ?_ ?_
 rotate_left
 ·show Act.put _ (some 21) _ = _
  simp only [Act.put, sA_, sB_, sC_, i64_w, i32_w]; rfl
 refine one_ (i := 5) (N := some 23) (tb_ 63 11) rfl rfl (one_of HT_.out (by kernel_rfl)) (by decide) (fun K hK => ?_)
 refine goes_ Try.func12 (by kernel_rfl) rfl #[.agg #[.slice Ao34 t307.length co34, .slice Ao35 t310.length co35], .agg #[.int .i64 3, .int .i64 8, .int .u8 0, .int .i64 0, .int .i64 0, .float .f64 0]] (by rfl) rfl rfl aT ?_
 with_reducible refine (lines_Break.calls k _ _ t307 _ _ t310 3 8 0 0 0 0 t313 t316 _ ?side1 ?side2 ?side3 ?side4 A6.out).mono ?_
 (case side1 => exact aF HO309)
 (case side2 => exact (Kd.zQ HO309.out).2.1)
 (case side3 => exact aF HO312)
 (case side4 => exact (Kd.zQ HO312.out).2.1)
 rintro e w36 ⟨v314, rfl, ho0, hb⟩
 refine ⟨_, rfl, ?_⟩
 replace HO287 := zA.mk (Kd.zR (aR HO287) hb); replace HO290 := zA.mk (Kd.zR (aR HO290) hb); replace HO297 := zA.mk (Kd.zR (aR HO297) hb); replace HO300 := zA.mk (Kd.zR (aR HO300) hb); replace HO303 := zA.mk (Kd.zR (aR HO303) hb); replace HO306 := zA.mk (Kd.zR (aR HO306) hb); replace HO309 := zA.mk (Kd.zR (aR HO309) hb); replace HO312 := zA.mk (Kd.zR (aR HO312) hb); have HO315 := zA.mk (Kd.zU (Kd.R_new' ho0 (Kd.R_lt (aR HO293))) (zH (aL HB))); replace HO293 := zA.mk (Kd.R_elder' (aR HO293) (Kd.R_base ho0) hb); replace BK284 := zA.mk (zC (aB BK284) hb); replace HB := zA.mk (zD (aL HB) hb); (try clear hb)
 (try clear hb2)
 (try clear hk)
 (try clear hi)
 (try clear ho0)
 refine hK.out _ _ ⟨(zB BK284.out 0).trans rfl, (zB BK284.out 1).trans rfl, (zB BK284.out 2).trans rfl, (zB BK284.out 3).trans rfl, (zB BK284.out 4).trans rfl, (zB BK284.out 5).trans rfl⟩ (fun hHeld => ?_)
 clear hK K; refine norm_ (a' := ?_) ?_ ?_
 rotate_left
 ·show Act.put _ (some 23) _ = _
  simp only [Act.put, sA_, sB_, sC_, i64_w, i32_w]; rfl
 refine aP 6 (some 17) (tf_ 7 11) HT_ ?_
 refine aP 7 (some 24) (tf_ 8 11) HT_ ?_
 refine aP 8 (some 25) (tf_ 9 11) HT_ ?_
 refine aP 9 (some 5) (tf_ 10 11) HT_ ?_
 refine aP 10 (some 6) (tb_ 2047 11) HT_ ?_
 refine done_ (done_of HT_.out (by kernel_rfl)) ?_
 obtain ⟨Ao37, co37, eo37⟩ := Kd.zT HO303.out; subst eo37; have p317 : 0 ≤ (0 : Int) := (by omega)
 have q317 : 0 < (t301.length : Int) := aD
 obtain ⟨ad317, e317, hx317_0, hx317_1, hx317_2, hx317_3⟩ := at_T53 (Kd.zQ HO303.out).2.2 0 p317 q317; cases e317
 have qi317 : (0 < t301.length) = True := eq_true (by omega)
 (try rw [show ((0 : Int)).toNat = 0 from rfl] at hx317_0)
 (try rw [show 0 * 4 = 0 from rfl] at hx317_0)
 (try rw [Addr.add_zero'] at hx317_0)
 (try rw [show ((0 : Int)).toNat = 0 from rfl] at hx317_1)
 (try rw [show 0 * 4 = 0 from rfl] at hx317_1)
 (try rw [Addr.add_zero'] at hx317_1)
 (try rw [show ((0 : Int)).toNat = 0 from rfl] at hx317_2)
 (try rw [show 0 * 4 = 0 from rfl] at hx317_2)
 (try rw [Addr.add_zero'] at hx317_2)
 (try rw [show ((0 : Int)).toNat = 0 from rfl] at hx317_3)
 (try rw [show 0 * 4 = 0 from rfl] at hx317_3)
 (try rw [Addr.add_zero'] at hx317_3)
 replace p317 := eq_true p317; replace q317 := eq_true q317; obtain ⟨Ao38, co38, eo38⟩ := Kd.zT HO315.out; subst eo38; have p318 : 0 ≤ (0 : Int) := (by omega)
 have q318 : 0 < (t313.length : Int) := aD
 obtain ⟨ad318, e318, hx318_0, hx318_1, hx318_2, hx318_3⟩ := at_T54 (Kd.zQ HO315.out).2.2 0 p318 q318; cases e318
 have qi318 : (0 < t313.length) = True := eq_true (by omega)
 (try rw [show ((0 : Int)).toNat = 0 from rfl] at hx318_0)
 (try rw [show 0 * 4 = 0 from rfl] at hx318_0)
 (try rw [Addr.add_zero'] at hx318_0)
 (try rw [show ((0 : Int)).toNat = 0 from rfl] at hx318_1)
 (try rw [show 0 * 4 = 0 from rfl] at hx318_1)
 (try rw [Addr.add_zero'] at hx318_1)
 (try rw [show ((0 : Int)).toNat = 0 from rfl] at hx318_2)
 (try rw [show 0 * 4 = 0 from rfl] at hx318_2)
 (try rw [Addr.add_zero'] at hx318_2)
 (try rw [show ((0 : Int)).toNat = 0 from rfl] at hx318_3)
 (try rw [show 0 * 4 = 0 from rfl] at hx318_3)
 (try rw [Addr.add_zero'] at hx318_3)
 replace p318 := eq_true p318; replace q318 := eq_true q318; have p319 : 0 ≤ (1 : Int) := (by omega)
 have q319 : 1 < (t313.length : Int) := aD
 obtain ⟨ad319, e319, hx319_0, hx319_1, hx319_2, hx319_3⟩ := at_T54 (Kd.zQ HO315.out).2.2 1 p319 q319; obtain rfl : ad318 = ad319 := (by injection e319)
 (try simp only [show (1 : Int).toNat = 1 from rfl, Nat.reduceMul, Nat.reduceEqDiff, Go.Addr.add, ↓reduceIte] at hx319_0)
 (try simp only [show (1 : Int).toNat = 1 from rfl, Nat.reduceMul, Nat.reduceEqDiff, Go.Addr.add, ↓reduceIte] at hx319_1)
 (try simp only [show (1 : Int).toNat = 1 from rfl, Nat.reduceMul, Nat.reduceEqDiff, Go.Addr.add, ↓reduceIte] at hx319_2)
 (try simp only [show (1 : Int).toNat = 1 from rfl, Nat.reduceMul, Nat.reduceEqDiff, Go.Addr.add, ↓reduceIte] at hx319_3)
 have qi319 : (1 < t313.length) = True := eq_true (by omega)
 (try rw [show ((1 : Int)).toNat = 1 from rfl] at hx319_0)
 (try rw [show 1 * 4 = 4 from rfl] at hx319_0)
 (try rw [show ((1 : Int)).toNat = 1 from rfl] at hx319_1)
 (try rw [show 1 * 4 = 4 from rfl] at hx319_1)
 (try rw [show ((1 : Int)).toNat = 1 from rfl] at hx319_2)
 (try rw [show 1 * 4 = 4 from rfl] at hx319_2)
 (try rw [show ((1 : Int)).toNat = 1 from rfl] at hx319_3)
 (try rw [show 1 * 4 = 4 from rfl] at hx319_3)
 replace p319 := eq_true p319; replace q319 := eq_true q319; try go_wp2
 go_ret
 exact ⟨aX, aL HB⟩
def h3_Config.f (a0_0 : Int) (a0_1 : Int) (a0_2 : Int) (a0_3 : Int) (a0_4 : Int) (a0_5 : Nat) : Option (Int × Int × Int × Int × Int × Nat) := some (wrap64 (1 + (wrap64 (a0_0))), wrap64 (1 + (wrap64 (Int.tmod a0_1 64))), Int.tmod a0_2 2, wrap64 (a0_3), wrap64 (a0_4), a0_5)
set_option maxHeartbeats 8000000 in
set_option maxRecDepth 100000 in
theorem h3_Config.calls (a0_0 : Int) (a0_1 : Int) (a0_2 : Int) (a0_3 : Int) (a0_4 : Int) (a0_5 : Nat) (r1 : Int) (r2 : Int) (r3 : Int) (r4 : Int) (r5 : Int) (r6 : Nat) (w : World) (h : h3_Config.f a0_0 a0_1 a0_2 a0_3 a0_4 a0_5 = some (r1, r2, r3, r4, r5, r6)) :
  Calls Try.prog 11 #[.agg #[.int .u8 a0_0, .int .u8 a0_1, .int .u8 a0_2, .int .u16 a0_3, .int .u16 a0_4, .float .f64 a0_5]] w fun e w' => e = .returned (.agg #[.int .i64 r1, .int .i64 r2, .int .u8 r3, .int .i64 r4, .int .i64 r5, .float .f64 r6]) ∧ Below w.heap.size w w' := by
 have hu26 := Try.underlying26; have hu35 := Try.underlying35; have HB := zA.mk (Below.refl w.heap.size w); have H : (some (wrap64 (1 + (wrap64 (a0_0))), wrap64 (1 + (wrap64 (Int.tmod a0_1 64))), Int.tmod a0_2 2, wrap64 (a0_3), wrap64 (a0_4), a0_5)) = some (r1, r2, r3, r4, r5, r6) := h
 clear h; simp only [Option.some.injEq, Prod.mk.injEq] at H; obtain ⟨rfl, rfl, rfl, rfl, rfl, rfl⟩ := H; go_enter Try.func11, Try.ntmps11
 go_wp2_with (first | ((with_reducible refine gate_dst (N := 1) rfl ?_); refine box_event ?hg (N := 1) ?hd (cs := #[.int .u8 a0_0, .int .u8 a0_1, .int .u8 a0_2, .int .u16 a0_3, .int .u16 a0_4, .float .f64 a0_5]) (t := 26) ?hr ?_; (case hd => rfl); (case hg => rfl); (case hr => first | (go_simp; done) | (go_simp; rfl)); intro gb320 hg w2 hbox hb; have BK320 := zA.mk (hbox); have GW320 := zA.mk ((by rw [hg]; exact (zH (aL HB)) : w.heap.size ≤ gb320)); replace HB := zA.mk (zD (aL HB) hb); have GE320 := GW320; clear hb hbox hg) | ((with_reducible refine gate_dst (N := 2) rfl ?_); refine box_event ?hg (N := 2) ?hd (cs := #[.int .i64 0, .int .i64 0, .int .u8 0, .int .i64 0, .int .i64 0, .float .f64 0]) (t := 35) ?hr ?_; (case hd => rfl); (case hg => rfl); (case hr => first | (go_simp; done) | (go_simp; rfl)); intro gb321 hg w3 hbox hb; have BK321 := zA.mk (hbox); have GW321 := zA.mk ((by rw [hg]; exact (zH (aL HB)) : w.heap.size ≤ gb321)); replace HB := zA.mk (zD (aL HB) hb); have GE321 := GW321; have NB320_321 := zA.mk ((by rw [hg]; exact Nat.ne_of_lt (blk_lt (aB BK320)) : gb320 ≠ gb321)); have NB321_320 := zA.mk ((by rw [hg]; exact Nat.ne_of_gt (blk_lt (g := gb320) (o := .cells #[.int .u8 a0_0, .int .u8 a0_1, .int .u8 a0_2, .int .u16 a0_3, .int .u16 a0_4, .float .f64 a0_5] 26 (0, 0)) (aB BK320)) : gb321 ≠ gb320)); replace BK320 := zA.mk (zC (aB BK320) hb); clear hb hbox hg; have hnb4 := NB320_321.out; have hnc4 := NB321_320.out; obtain ⟨hcz5_0, hcz5_1, hcz5_2, hcz5_3, hcz5_4, hcz5_5, hfz5_0, hfz5_1, hfz5_2, hfz5_3, hfz5_4, hfz5_5⟩ := aC6 BK320; obtain ⟨hcz6_0, hcz6_1, hcz6_2, hcz6_3, hcz6_4, hcz6_5, hfz6_0, hfz6_1, hfz6_2, hfz6_3, hfz6_4, hfz6_5⟩ := aC6 BK321) | ((with_reducible refine gate_store (t := 35) (p := 2) rfl ?_); refine store_event (t := 35) (p := 2) (v := ?vo_w7) (w1 := ((((((w3.setCell ⟨gb321, 0, none⟩ (.int .i64 (wrap64 (1 + (wrap64 (a0_0)))))).setCell ⟨gb321, 1, none⟩ (.int .i64 (wrap64 (1 + (wrap64 (Int.tmod a0_1 64)))))).setCell ⟨gb321, 2, none⟩ (.int .u8 (Int.tmod a0_2 2))).setCell ⟨gb321, 3, none⟩ (.int .i64 (wrap64 (a0_3)))).setCell ⟨gb321, 4, none⟩ (.int .i64 (wrap64 (a0_4)))).setCell ⟨gb321, 5, none⟩ (.float .f64 a0_5))) ?hg ?ho ?hn ?hr ?_; (case ho => rfl); (case hg => rfl); (case hn => rfl); (case hr => first | (go_simp; done) | (go_simp; rfl)); intro w7 hw; have n0_ : zA (w7.heap[gb320]? = some (.cells #[.int .u8 a0_0, .int .u8 a0_1, .int .u8 a0_2, .int .u16 a0_3, .int .u16 a0_4, .float .f64 a0_5] 26 (0, 0))) := ⟨(by rw [hw]; exact (aB BK320))⟩; have n1_ : zA (w7.heap[gb321]? = some (.cells #[.int .i64 (wrap64 (1 + (wrap64 (a0_0)))), .int .i64 (wrap64 (1 + (wrap64 (Int.tmod a0_1 64)))), .int .u8 (Int.tmod a0_2 2), .int .i64 (wrap64 (a0_3)), .int .i64 (wrap64 (a0_4)), .float .f64 a0_5] 35 (0, 0))) := ⟨(by rw [hw]; exact (by (with_reducible repeat (first | refine zI ?_ _ | refine zF ?_ | refine zE ?_ _)); refine blk_put (cs := #[.int .i64 (wrap64 (1 + (wrap64 (a0_0)))), .int .i64 (wrap64 (1 + (wrap64 (Int.tmod a0_1 64)))), .int .u8 (Int.tmod a0_2 2), .int .i64 (wrap64 (a0_3)), .int .i64 (wrap64 (a0_4)), .float .f64 0]) ?_ 5 _ rfl; (with_reducible repeat (first | refine zI ?_ _ | refine zF ?_ | refine zE ?_ _)); refine blk_put (cs := #[.int .i64 (wrap64 (1 + (wrap64 (a0_0)))), .int .i64 (wrap64 (1 + (wrap64 (Int.tmod a0_1 64)))), .int .u8 (Int.tmod a0_2 2), .int .i64 (wrap64 (a0_3)), .int .i64 0, .float .f64 0]) ?_ 4 _ rfl; (with_reducible repeat (first | refine zI ?_ _ | refine zF ?_ | refine zE ?_ _)); refine blk_put (cs := #[.int .i64 (wrap64 (1 + (wrap64 (a0_0)))), .int .i64 (wrap64 (1 + (wrap64 (Int.tmod a0_1 64)))), .int .u8 (Int.tmod a0_2 2), .int .i64 0, .int .i64 0, .float .f64 0]) ?_ 3 _ rfl; (with_reducible repeat (first | refine zI ?_ _ | refine zF ?_ | refine zE ?_ _)); refine blk_put (cs := #[.int .i64 (wrap64 (1 + (wrap64 (a0_0)))), .int .i64 (wrap64 (1 + (wrap64 (Int.tmod a0_1 64)))), .int .u8 0, .int .i64 0, .int .i64 0, .float .f64 0]) ?_ 2 _ rfl; (with_reducible repeat (first | refine zI ?_ _ | refine zF ?_ | refine zE ?_ _)); refine blk_put (cs := #[.int .i64 (wrap64 (1 + (wrap64 (a0_0)))), .int .i64 0, .int .u8 0, .int .i64 0, .int .i64 0, .float .f64 0]) ?_ 1 _ rfl; (with_reducible repeat (first | refine zI ?_ _ | refine zF ?_ | refine zE ?_ _)); refine blk_put (cs := #[.int .i64 0, .int .i64 0, .int .u8 0, .int .i64 0, .int .i64 0, .float .f64 0]) ?_ 0 _ rfl; (with_reducible repeat (first | refine zI ?_ _ | refine zF ?_ | refine zE ?_ _)); exact BK321.out))⟩; have n2_ : zA (Below w.heap.size w w7) := ⟨(by rw [hw]; exact (aL HB))⟩; clear hw; clear BK320; clear BK321; clear HB; have BK320 := n0_; have BK321 := n1_; have HB := n2_; clear n0_ n1_ n2_))
 refine bodyPost_ret (results_cell_row rfl _ _ gb321 35 #[.int .i64 (wrap64 (1 + (wrap64 (a0_0)))), .int .i64 (wrap64 (1 + (wrap64 (Int.tmod a0_1 64)))), .int .u8 (Int.tmod a0_2 2), .int .i64 (wrap64 (a0_3)), .int .i64 (wrap64 (a0_4)), .float .f64 a0_5] (0, 0) _ rfl (aB BK321) Try.underlying35 rfl (by kernel_rfl)) rfl ?_
 exact ⟨aX, aL HB⟩
def r0_Parts.l0 : Nat → List Int → Int → List (S66) → List Int → Option (List Int)
 | 0, _, _, _, _ => none
 | k + 1, x3, x4, x323000, x323001 => if x4 < (x323001.length : Int) then (if 0 ≤ x4 then (if (rd x323001 x4) = 2 then (if x3.length < 17592186044416 then (r0_Parts.l0 k (x3 ++ [x4]) (wrap64 (x4 + 1)) x323000 x323001) else (none)) else (r0_Parts.l0 k x3 (wrap64 (x4 + 1)) x323000 x323001)) else (none)) else (some x3)
def r0_Parts.f (k : Nat) (l0_0 : List (S66)) (l0_1 : List Int) : Option (List Int) := r0_Parts.l0 k ([] : List Int) 0 l0_0 l0_1
theorem r0_Parts.mono_l : ∀ k, (∀ y0 y1 y2 y3, LeO (r0_Parts.l0 k y0 y1 y2 y3) (r0_Parts.l0 (k + 1) y0 y1 y2 y3))
 | 0 => fun _ _ _ _ r h => by simp [r0_Parts.l0] at h
 | k + 1 => by
  have ih0 := r0_Parts.mono_l k
  ·intro y0 y1 y2 y3
   unfold r0_Parts.l0
   repeat' (with_reducible first | exact ih0 _ _ _ _ | exact LeO.refl _ | exact LeO.none _ | refine LeO.ite ?_ ?_ | refine LeO.bind ?_ (fun _ => ?_))
theorem r0_Parts.mono : ∀ a0 a1 k, LeO (r0_Parts.f k a0 a1) (r0_Parts.f (k + 1) a0 a1) := by
 intro a0 a1 k
 have ih0 := r0_Parts.mono_l k; unfold r0_Parts.f
 repeat' (with_reducible first | exact ih0 _ _ _ _ | exact LeO.refl _ | exact LeO.none _ | refine LeO.ite ?_ ?_ | refine LeO.bind ?_ (fun _ => ?_))
set_option maxHeartbeats 8000000 in
set_option maxRecDepth 100000 in
theorem r0_Parts.calls (k : Nat) (A0_0 : Option Addr) (c0_0 : Nat) (l0_0 : List (S66)) (A0_1 : Option Addr) (c0_1 : Nat) (l0_1 : List Int) (r : List Int) (w : World) (hr0_0 : Kd.C k66 w A0_0 l0_0.length l0_0) (hc0_0 : l0_0.length ≤ c0_0) (hr0_1 : Kd.C (Kd.int .u8) w A0_1 l0_1.length l0_1) (hc0_1 : l0_1.length ≤ c0_1) (h : r0_Parts.f k l0_0 l0_1 = some r) :
  Calls Try.prog 26 #[.agg #[.slice A0_0 l0_0.length c0_0, .slice A0_1 l0_1.length c0_1]] w fun e w' => ∃ v0_ : Value, e = .returned (v0_) ∧ Kd.R (Kd.int .i64) 3 w' w.heap.size (fun _ => True) v0_ r ∧ Below w.heap.size w w' := by
 have hu31 := Try.underlying31; have HR0_0 := zA.mk hr0_0; have HC0_0 := zA.mk hc0_0; clear hr0_0 hc0_0; have HR0_1 := zA.mk hr0_1; have HC0_1 := zA.mk hc0_1; clear hr0_1 hc0_1; have HB := zA.mk (Below.refl w.heap.size w); have H : (r0_Parts.l0 k ([] : List Int) 0 l0_0 l0_1) = some r := h
 clear h; have H' := zA.mk H
 clear H; go_enter Try.func26, Try.ntmps26
 go_wp2_with (first | ((with_reducible refine gate_dst (N := 1) rfl ?_); refine box_event ?hg (N := 1) ?hd (cs := #[.slice A0_0 l0_0.length c0_0, .slice A0_1 l0_1.length c0_1]) (t := 31) ?hr ?_; (case hd => rfl); (case hg => rfl); (case hr => first | (go_simp; done) | (go_simp; rfl)); intro gb322 hg w2 hbox hb; have BK322 := zA.mk (hbox); have GW322 := zA.mk ((by rw [hg]; exact (zH (aL HB)) : w.heap.size ≤ gb322)); replace HB := zA.mk (zD (aL HB) hb); have GE322 := GW322; clear hb hbox hg))
 go_loopg [3, 4] k (fun kq v3 v4 w' => ∃ (x3_1 : List Int) (x4_1 : Int), v4 = .int .i64 x4_1 ∧ zA (r0_Parts.l0 kq x3_1 x4_1 l0_0 l0_1 = some r) ∧ zA (kq ≤ k) ∧ zA (Kd.R (Kd.int .i64) 3 w' w.heap.size (fun _ => True) v3 x3_1) ∧ zA (w'.heap[gb322]? = some (.cells #[(.slice A0_0 l0_0.length c0_0), (.slice A0_1 l0_1.length c0_1)] 31 (0, 0))) ∧ zA (Below w.heap.size w w'))
 case atStart => exact ⟨(([] : List Int)), (0), aZ, H', ⟨Nat.le_refl _⟩, ⟨by first | exact Kd.R_nil _ _ _ _ _ | exact Kd.N_nil _ _ _ _ _ | exact Kd.V_nil _ _ _ _ _ | exact Kd.Q_nil _ _ _ _ _ | exact Kd.S_nil _ _ _ _ _⟩, ⟨aB BK322⟩, ⟨aL HB⟩⟩
 clear H'; obtain ⟨x3_1, x4_1, rfl, HA, HK1, HO_3, BK322, HB⟩ := hrel; cases gk with
 | zero => exact absurd HA.out (by simp [r0_Parts.l0])
 | succ k1 =>
  have H := HA.out; clear HA; simp only [r0_Parts.l0] at H; by_cases c3 : x4_1 < (l0_1.length : Int)
  rotate_left
  ·rw [if_neg c3] at H
   have c3b0 : decide (x4_1 < (l0_1.length : Int)) = false := decide_eq_false c3
   clear c3; obtain rfl := Option.some.inj H
   obtain ⟨hcz10_0, hcz10_1, hfz10_0, hfz10_1⟩ := aC2 BK322; go_wp2
   go_ret
   exact ⟨_, aX, aR HO_3, aL HB⟩
  rw [if_pos c3] at H; have c3b0 : decide (x4_1 < (l0_1.length : Int)) = true := decide_eq_true c3
  clear c3; by_cases c4 : 0 ≤ x4_1
  rotate_left
  ·rw [if_neg c4] at H
   exact absurd H (by simp)
  rw [if_pos c4] at H; have c4b0 : decide (0 ≤ x4_1) = true := decide_eq_true c4
  clear c4; by_cases c5 : (rd l0_1 x4_1) = 2
  rotate_left
  ·rw [if_neg c5] at H
   have c5b0 : ((rd l0_1 x4_1) == 2) = false := beq_eq_false_iff_ne.mpr c5
   have c5b1 : ((rd l0_1 x4_1) != 2) = true := bne_iff_ne.mpr c5
   have H' := zA.mk H
   clear H; obtain ⟨hcz9_0, hcz9_1, hfz9_0, hfz9_1⟩ := aC2 BK322; have p323 : 0 ≤ (x4_1 : Int) := aD
   have q323 : x4_1 < (l0_1.length : Int) := aD
   obtain ⟨ad323, e323, hx323_0⟩ := Kd.at_int HR0_1.out x4_1 p323 q323; cases e323
   replace hx323_0 := (HB.out.cell (World.block_lt_of_cell? w _ hx323_0)).trans hx323_0; replace p323 := eq_true p323; replace q323 := eq_true q323; go_wp2
   go_roundg k1
   case measure => have := HK1.out; omega
   case rel => exact ⟨(x3_1), (wrap64 (x4_1 + 1)), aZ, H', ⟨by have := HK1.out; omega⟩, ⟨aR HO_3⟩, ⟨aB BK322⟩, ⟨aL HB⟩⟩
  rw [if_pos c5] at H; have c5b0 : ((rd l0_1 x4_1) == 2) = true := beq_iff_eq.mpr c5
  have c5b1 : ((rd l0_1 x4_1) != 2) = false := bne_eq_false_iff_eq.mpr c5
  clear c5; by_cases c6 : x3_1.length < 17592186044416
  rotate_left
  ·rw [if_neg c6] at H
   exact absurd H (by simp)
  rw [if_pos c6] at H; have LMc6 := zA.mk c6; clear c6; obtain ⟨y324, hy324⟩ : ∃ y_ : List Int, y_ = (x3_1 ++ [x4_1]) := ⟨_, rfl⟩; replace H : (r0_Parts.l0 k1 y324 (wrap64 (x4_1 + 1)) l0_0 l0_1) = some r := by first | (rw [hy324]; with_reducible exact H) | (have H2_ := (Option.bind_some _ _).symm.trans H; rw [hy324]; with_reducible exact H2_) | (have H2_ := (Option.bind_some _ _).symm.trans H; with_reducible exact H2_) | with_reducible exact H | (rw [hy324]; exact H) | exact H
  have Ny324 := zA.mk hy324; clear hy324; have H' := zA.mk H
  clear H; obtain ⟨hcz7_0, hcz7_1, hfz7_0, hfz7_1⟩ := aC2 BK322; have p323 : 0 ≤ (x4_1 : Int) := aD
  have q323 : x4_1 < (l0_1.length : Int) := aD
  obtain ⟨ad323, e323, hx323_0⟩ := Kd.at_int HR0_1.out x4_1 p323 q323; cases e323
  replace hx323_0 := (HB.out.cell (World.block_lt_of_cell? w _ hx323_0)).trans hx323_0; replace p323 := eq_true p323; replace q323 := eq_true q323; go_wp2_with (first | ((with_reducible refine gate_builtin (b := .append) (xs := #[.tmp 18, .tmp 20]) rfl ?_); at_builtin; refine Kd.R_append (Kd.int .i64) (w0 := w) w.heap.size rfl (.tmp 18) (.tmp 20) 47 3 (.int .i64 0) 8 rfl Try.underlying47 info3 rfl (by decide) (by omega) u3 x3_1 x4_1 [.int .i64 x4_1] (fun _ => True) (fun _ => False) rfl rfl ?aP (fun _ hk => hk.elim) ?aF ?aO ?aB ?aS ?aL ?_; (case aP => exact rfl); (case aB => exact (aL HB)); (case aF => exact (fun _ _ => trivial)); (case aO => exact (aR HO_3)); (case aS => exact (zH (aL HB))); (case aL => have := LMc6.out; omega); intro v325 w8 ho hb hg hat; rw [← Ny324.out] at ho; replace BK322 := zA.mk (blk_grown (g := gb322) (o := .cells #[.slice A0_0 l0_0.length c0_0, .slice (some ad323) l0_1.length c0_1] 31 (0, 0)) (aB BK322) hg (Kd.R_ne HO_3.out BK322.out (by decide))); replace HB := zA.mk (hb); have HO326 := zA.mk (ho); clear HO_3; clear ho hb hg hat))
  go_roundg k1
  case measure => have := HK1.out; omega
  case rel => exact ⟨(y324), (wrap64 (x4_1 + 1)), aZ, H', ⟨by have := HK1.out; omega⟩, ⟨aR HO326⟩, ⟨aB BK322⟩, ⟨aL HB⟩⟩
end Go.Proofs.Ytcnblneghbgjgaa.F
end
