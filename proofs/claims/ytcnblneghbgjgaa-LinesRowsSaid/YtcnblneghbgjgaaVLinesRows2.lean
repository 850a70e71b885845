/- Printed by a program: Lean functions that answer as the Go functions do, and the proofs of it. -/
import Derived.Test.YtcnblneghbgjgaaVLinesRows0
import Derived.Test.YtcnblneghbgjgaaVLinesRows1
section
namespace Go.Proofs.Ytcnblneghbgjgaa.F
open Go.RowKit Go.Proofs.YtcnblneghbgjgaaW.PrintWords Go.Proofs.YtcnblneghbgjgaaW.PrintLast Go.Proofs.YtcnblneghbgjgaaW.PrintMore
attribute [local go_sem] max2_int min2_int max_two min_two max_three min_three max_four min_four   -- for this text's walks alone
set_option linter.unusedVariables false
set_option linter.unusedSimpArgs false
mutual
def best_next.l0 : Nat → Int → Int → Int → List (S70) → Int → Int → Int → Int → Int → List (S66) → List Int → Int → Int → Int → Int → Int → Nat → Int → Int → Option (Int × Int)
  | 0, _, _, _, _, _, _, _, _, _, _, _, _, _, _, _, _, _, _, _ => none
  | k + 1, x1, x2, x3, x4, x14, x15, x16, x17, x18, x209000, x209001, x210000, x210001, x210002, x210003, x210004, x210005, x212000, x212001 => if x18 ≤ x3 then (if 0 ≤ (wrap64 (x18 - 1)) then (if (wrap64 (x18 - 1)) < (x209000.length : Int) then ((span_Next.f ((rd_T66 x209000 (wrap64 (x18 - 1))).f0) ((rd_T66 x209000 (wrap64 (x18 - 1))).f1) ((rd_T66 x209000 (wrap64 (x18 - 1))).f2) ((rd_T66 x209000 (wrap64 (x18 - 1))).f3) x14 x210001).bind fun t214 => (if ((rd_T66 x209000 (wrap64 (x18 - 1))).f3) = 1 then (best_next.j1 k x1 x2 x3 x4 t214 x15 (wrap64 (x16 + 1)) x17 x18 x209000 x209001 x210000 x210001 x210002 x210003 x210004 x210005 x212000 x212001) else (best_next.j1 k x1 x2 x3 x4 t214 x15 x16 x17 x18 x209000 x209001 x210000 x210001 x210002 x210003 x210004 x210005 x212000 x212001))) else (none)) else (none)) else (some (x212000, x212001))
def best_next.j1 : Nat → Int → Int → Int → List (S70) → Int → Int → Int → Int → Int → List (S66) → List Int → Int → Int → Int → Int → Int → Nat → Int → Int → Option (Int × Int)
  | 0, _, _, _, _, _, _, _, _, _, _, _, _, _, _, _, _, _, _, _ => none
  | k + 1, x1, x2, x3, x4, x14, x15, x16, x17, x18, x209000, x209001, x210000, x210001, x210002, x210003, x210004, x210005, x212000, x212001 => (span_Trim.f k x209000 x209001 (wrap64 (x18 - 1)) x18).bind fun t215 => (if t215 = x18 then (best_next.j2 k x1 x2 x3 x4 x14 x14 x16 x16 x18 x209000 x209001 x210000 x210001 x210002 x210003 x210004 x210005 x212000 x212001) else (best_next.j2 k x1 x2 x3 x4 x14 x15 x16 x17 x18 x209000 x209001 x210000 x210001 x210002 x210003 x210004 x210005 x212000 x212001))
def best_next.j2 : Nat → Int → Int → Int → List (S70) → Int → Int → Int → Int → Int → List (S66) → List Int → Int → Int → Int → Int → Int → Nat → Int → Int → Option (Int × Int)
  | 0, _, _, _, _, _, _, _, _, _, _, _, _, _, _, _, _, _, _, _ => none
  | k + 1, x1, x2, x3, x4, x14, x15, x16, x17, x18, x209000, x209001, x210000, x210001, x210002, x210003, x210004, x210005, x212000, x212001 => if x15 > x210000 then (some (x212000, x212001)) else ((span_Ends.f x209000 x209001 x18).bind fun bt216 => (if 0 ≤ (wrap64 (x18 - x2)) then (if (wrap64 (x18 - x2)) < (x4.length : Int) then (if bt216.2 = true then (if x18 < x3 then (best_next.j3 k x1 x2 x3 x4 x14 x15 x16 x17 x18 bt216.1 (decide (((rd_T70 x4 (wrap64 (x18 - x2))).f1) < 0)) x209000 x209001 x210000 x210001 x210002 x210003 x210004 x210005 x212000 x212001 ((rd_T70 x4 (wrap64 (x18 - x2))).f0) ((rd_T70 x4 (wrap64 (x18 - x2))).f1)) else (best_next.j3 k x1 x2 x3 x4 x14 x15 x16 x17 x18 bt216.1 false x209000 x209001 x210000 x210001 x210002 x210003 x210004 x210005 x212000 x212001 ((rd_T70 x4 (wrap64 (x18 - x2))).f0) ((rd_T70 x4 (wrap64 (x18 - x2))).f1))) else (best_next.j3 k x1 x2 x3 x4 x14 x15 x16 x17 x18 bt216.1 true x209000 x209001 x210000 x210001 x210002 x210003 x210004 x210005 x212000 x212001 ((rd_T70 x4 (wrap64 (x18 - x2))).f0) ((rd_T70 x4 (wrap64 (x18 - x2))).f1))) else (none)) else (none)))
def best_next.j3 : Nat → Int → Int → Int → List (S70) → Int → Int → Int → Int → Int → Int → Bool → List (S66) → List Int → Int → Int → Int → Int → Int → Nat → Int → Int → Int → Int → Option (Int × Int)
  | 0, _, _, _, _, _, _, _, _, _, _, _, _, _, _, _, _, _, _, _, _, _, _, _ => none
  | k + 1, x1, x2, x3, x4, x14, x15, x16, x17, x18, x20, x86, x209000, x209001, x210000, x210001, x210002, x210003, x210004, x210005, x212000, x212001, x220000, x220001 => if x86 = true then (best_next.l0 k x1 x2 x3 x4 x14 x15 x16 x17 (wrap64 (x18 + 1)) x209000 x209001 x210000 x210001 x210002 x210003 x210004 x210005 x212000 x212001) else (if x20 = 3 then ((best_price.f k x209000 x209001 x1 x20 (wrap64 (x15 + 1)) x17 (x18 == x3) x210000 x210001 x210002 x210003 x210004 x210005).bind fun bt220 => (if bt220.2 = true then (if x212001 < 0 then (best_next.l0 k x1 x2 x3 x4 x14 x15 x16 x17 (wrap64 (x18 + 1)) x209000 x209001 x210000 x210001 x210002 x210003 x210004 x210005 (wrap64 (bt220.1 + x220000)) x18) else (if (wrap64 (bt220.1 + x220000)) < x212000 then (best_next.l0 k x1 x2 x3 x4 x14 x15 x16 x17 (wrap64 (x18 + 1)) x209000 x209001 x210000 x210001 x210002 x210003 x210004 x210005 (wrap64 (bt220.1 + x220000)) x18) else (best_next.l0 k x1 x2 x3 x4 x14 x15 x16 x17 (wrap64 (x18 + 1)) x209000 x209001 x210000 x210001 x210002 x210003 x210004 x210005 x212000 x212001))) else (best_next.l0 k x1 x2 x3 x4 x14 x15 x16 x17 (wrap64 (x18 + 1)) x209000 x209001 x210000 x210001 x210002 x210003 x210004 x210005 x212000 x212001))) else ((best_price.f k x209000 x209001 x1 x20 x15 x17 (x18 == x3) x210000 x210001 x210002 x210003 x210004 x210005).bind fun bt222 => (if bt222.2 = true then (if x212001 < 0 then (best_next.l0 k x1 x2 x3 x4 x14 x15 x16 x17 (wrap64 (x18 + 1)) x209000 x209001 x210000 x210001 x210002 x210003 x210004 x210005 (wrap64 (bt222.1 + x220000)) x18) else (if (wrap64 (bt222.1 + x220000)) < x212000 then (best_next.l0 k x1 x2 x3 x4 x14 x15 x16 x17 (wrap64 (x18 + 1)) x209000 x209001 x210000 x210001 x210002 x210003 x210004 x210005 (wrap64 (bt222.1 + x220000)) x18) else (best_next.l0 k x1 x2 x3 x4 x14 x15 x16 x17 (wrap64 (x18 + 1)) x209000 x209001 x210000 x210001 x210002 x210003 x210004 x210005 x212000 x212001))) else (best_next.l0 k x1 x2 x3 x4 x14 x15 x16 x17 (wrap64 (x18 + 1)) x209000 x209001 x210000 x210001 x210002 x210003 x210004 x210005 x212000 x212001))))
end
def best_next.f (k : Nat) (l0_0 : List (S66)) (l0_1 : List Int) (a1 : Int) (a2 : Int) (a3 : Int) (l4 : List (S70)) (a5_0 : Int) (a5_1 : Int) (a5_2 : Int) (a5_3 : Int) (a5_4 : Int) (a5_5 : Nat) : Option (Int × Int) := best_next.l0 k a1 a2 a3 l4 0 0 0 0 (wrap64 (a1 + 1)) l0_0 l0_1 a5_0 a5_1 a5_2 a5_3 a5_4 a5_5 0 (-1)
theorem best_next.mono_l : ∀ k, (∀ y0 y1 y2 y3 y4 y5 y6 y7 y8 y9 y10 y11 y12 y13 y14 y15 y16 y17 y18, LeO (best_next.l0 k y0 y1 y2 y3 y4 y5 y6 y7 y8 y9 y10 y11 y12 y13 y14 y15 y16 y17 y18) (best_next.l0 (k + 1) y0 y1 y2 y3 y4 y5 y6 y7 y8 y9 y10 y11 y12 y13 y14 y15 y16 y17 y18)) ∧ (∀ y0 y1 y2 y3 y4 y5 y6 y7 y8 y9 y10 y11 y12 y13 y14 y15 y16 y17 y18, LeO (best_next.j1 k y0 y1 y2 y3 y4 y5 y6 y7 y8 y9 y10 y11 y12 y13 y14 y15 y16 y17 y18) (best_next.j1 (k + 1) y0 y1 y2 y3 y4 y5 y6 y7 y8 y9 y10 y11 y12 y13 y14 y15 y16 y17 y18)) ∧ (∀ y0 y1 y2 y3 y4 y5 y6 y7 y8 y9 y10 y11 y12 y13 y14 y15 y16 y17 y18, LeO (best_next.j2 k y0 y1 y2 y3 y4 y5 y6 y7 y8 y9 y10 y11 y12 y13 y14 y15 y16 y17 y18) (best_next.j2 (k + 1) y0 y1 y2 y3 y4 y5 y6 y7 y8 y9 y10 y11 y12 y13 y14 y15 y16 y17 y18)) ∧ (∀ y0 y1 y2 y3 y4 y5 y6 y7 y8 y9 y10 y11 y12 y13 y14 y15 y16 y17 y18 y19 y20 y21 y22, LeO (best_next.j3 k y0 y1 y2 y3 y4 y5 y6 y7 y8 y9 y10 y11 y12 y13 y14 y15 y16 y17 y18 y19 y20 y21 y22) (best_next.j3 (k + 1) y0 y1 y2 y3 y4 y5 y6 y7 y8 y9 y10 y11 y12 y13 y14 y15 y16 y17 y18 y19 y20 y21 y22))
  | 0 => ⟨fun _ _ _ _ _ _ _ _ _ _ _ _ _ _ _ _ _ _ _ r h => by simp [best_next.l0] at h, fun _ _ _ _ _ _ _ _ _ _ _ _ _ _ _ _ _ _ _ r h => by simp [best_next.j1] at h, fun _ _ _ _ _ _ _ _ _ _ _ _ _ _ _ _ _ _ _ r h => by simp [best_next.j2] at h, fun _ _ _ _ _ _ _ _ _ _ _ _ _ _ _ _ _ _ _ _ _ _ _ r h => by simp [best_next.j3] at h⟩
  | k + 1 => by
    obtain ⟨ih0, ih1, ih2, ih3⟩ := best_next.mono_l k; refine ⟨?_, ?_, ?_, ?_⟩
    · intro y0 y1 y2 y3 y4 y5 y6 y7 y8 y9 y10 y11 y12 y13 y14 y15 y16 y17 y18
      unfold best_next.l0
      repeat' first
      | (with_reducible exact ih0 _ _ _ _ _ _ _ _ _ _ _ _ _ _ _ _ _ _ _)
      | (with_reducible exact ih1 _ _ _ _ _ _ _ _ _ _ _ _ _ _ _ _ _ _ _)
      | (with_reducible exact ih2 _ _ _ _ _ _ _ _ _ _ _ _ _ _ _ _ _ _ _)
      | (with_reducible exact ih3 _ _ _ _ _ _ _ _ _ _ _ _ _ _ _ _ _ _ _ _ _ _ _)
      | (with_reducible exact best_price.mono _ _ _ _ _ _ _ _ _ _ _ _ _ _)
      | (with_reducible exact span_Trim.mono _ _ _ _ _)
      | (with_reducible exact LeO.refl _)
      | (with_reducible exact LeO.none _)
      | (with_reducible refine LeO.ite ?_ ?_)
      | (with_reducible refine LeO.bind ?_ (fun _ => ?_))
      | exact ih0 _ _ _ _ _ _ _ _ _ _ _ _ _ _ _ _ _ _ _
      | exact ih1 _ _ _ _ _ _ _ _ _ _ _ _ _ _ _ _ _ _ _
      | exact ih2 _ _ _ _ _ _ _ _ _ _ _ _ _ _ _ _ _ _ _
      | exact ih3 _ _ _ _ _ _ _ _ _ _ _ _ _ _ _ _ _ _ _ _ _ _ _
      | exact best_price.mono _ _ _ _ _ _ _ _ _ _ _ _ _ _
      | exact span_Trim.mono _ _ _ _ _
      | exact LeO.none _
      | refine LeO.ite ?_ ?_
      | refine LeO.bind ?_ (fun _ => ?_)
    · intro y0 y1 y2 y3 y4 y5 y6 y7 y8 y9 y10 y11 y12 y13 y14 y15 y16 y17 y18
      unfold best_next.j1
      repeat' first
      | (with_reducible exact ih0 _ _ _ _ _ _ _ _ _ _ _ _ _ _ _ _ _ _ _)
      | (with_reducible exact ih1 _ _ _ _ _ _ _ _ _ _ _ _ _ _ _ _ _ _ _)
      | (with_reducible exact ih2 _ _ _ _ _ _ _ _ _ _ _ _ _ _ _ _ _ _ _)
      | (with_reducible exact ih3 _ _ _ _ _ _ _ _ _ _ _ _ _ _ _ _ _ _ _ _ _ _ _)
      | (with_reducible exact best_price.mono _ _ _ _ _ _ _ _ _ _ _ _ _ _)
      | (with_reducible exact span_Trim.mono _ _ _ _ _)
      | (with_reducible exact LeO.refl _)
      | (with_reducible exact LeO.none _)
      | (with_reducible refine LeO.ite ?_ ?_)
      | (with_reducible refine LeO.bind ?_ (fun _ => ?_))
      | exact ih0 _ _ _ _ _ _ _ _ _ _ _ _ _ _ _ _ _ _ _
      | exact ih1 _ _ _ _ _ _ _ _ _ _ _ _ _ _ _ _ _ _ _
      | exact ih2 _ _ _ _ _ _ _ _ _ _ _ _ _ _ _ _ _ _ _
      | exact ih3 _ _ _ _ _ _ _ _ _ _ _ _ _ _ _ _ _ _ _ _ _ _ _
      | exact best_price.mono _ _ _ _ _ _ _ _ _ _ _ _ _ _
      | exact span_Trim.mono _ _ _ _ _
      | exact LeO.none _
      | refine LeO.ite ?_ ?_
      | refine LeO.bind ?_ (fun _ => ?_)
    · intro y0 y1 y2 y3 y4 y5 y6 y7 y8 y9 y10 y11 y12 y13 y14 y15 y16 y17 y18
      unfold best_next.j2
      repeat' first
      | (with_reducible exact ih0 _ _ _ _ _ _ _ _ _ _ _ _ _ _ _ _ _ _ _)
      | (with_reducible exact ih1 _ _ _ _ _ _ _ _ _ _ _ _ _ _ _ _ _ _ _)
      | (with_reducible exact ih2 _ _ _ _ _ _ _ _ _ _ _ _ _ _ _ _ _ _ _)
      | (with_reducible exact ih3 _ _ _ _ _ _ _ _ _ _ _ _ _ _ _ _ _ _ _ _ _ _ _)
      | (with_reducible exact best_price.mono _ _ _ _ _ _ _ _ _ _ _ _ _ _)
      | (with_reducible exact span_Trim.mono _ _ _ _ _)
      | (with_reducible exact LeO.refl _)
      | (with_reducible exact LeO.none _)
      | (with_reducible refine LeO.ite ?_ ?_)
      | (with_reducible refine LeO.bind ?_ (fun _ => ?_))
      | exact ih0 _ _ _ _ _ _ _ _ _ _ _ _ _ _ _ _ _ _ _
      | exact ih1 _ _ _ _ _ _ _ _ _ _ _ _ _ _ _ _ _ _ _
      | exact ih2 _ _ _ _ _ _ _ _ _ _ _ _ _ _ _ _ _ _ _
      | exact ih3 _ _ _ _ _ _ _ _ _ _ _ _ _ _ _ _ _ _ _ _ _ _ _
      | exact best_price.mono _ _ _ _ _ _ _ _ _ _ _ _ _ _
      | exact span_Trim.mono _ _ _ _ _
      | exact LeO.none _
      | refine LeO.ite ?_ ?_
      | refine LeO.bind ?_ (fun _ => ?_)
    · intro y0 y1 y2 y3 y4 y5 y6 y7 y8 y9 y10 y11 y12 y13 y14 y15 y16 y17 y18 y19 y20 y21 y22
      unfold best_next.j3
      repeat' first
      | (with_reducible exact ih0 _ _ _ _ _ _ _ _ _ _ _ _ _ _ _ _ _ _ _)
      | (with_reducible exact ih1 _ _ _ _ _ _ _ _ _ _ _ _ _ _ _ _ _ _ _)
      | (with_reducible exact ih2 _ _ _ _ _ _ _ _ _ _ _ _ _ _ _ _ _ _ _)
      | (with_reducible exact ih3 _ _ _ _ _ _ _ _ _ _ _ _ _ _ _ _ _ _ _ _ _ _ _)
      | (with_reducible exact best_price.mono _ _ _ _ _ _ _ _ _ _ _ _ _ _)
      | (with_reducible exact span_Trim.mono _ _ _ _ _)
      | (with_reducible exact LeO.refl _)
      | (with_reducible exact LeO.none _)
      | (with_reducible refine LeO.ite ?_ ?_)
      | (with_reducible refine LeO.bind ?_ (fun _ => ?_))
      | exact ih0 _ _ _ _ _ _ _ _ _ _ _ _ _ _ _ _ _ _ _
      | exact ih1 _ _ _ _ _ _ _ _ _ _ _ _ _ _ _ _ _ _ _
      | exact ih2 _ _ _ _ _ _ _ _ _ _ _ _ _ _ _ _ _ _ _
      | exact ih3 _ _ _ _ _ _ _ _ _ _ _ _ _ _ _ _ _ _ _ _ _ _ _
      | exact best_price.mono _ _ _ _ _ _ _ _ _ _ _ _ _ _
      | exact span_Trim.mono _ _ _ _ _
      | exact LeO.none _
      | refine LeO.ite ?_ ?_
      | refine LeO.bind ?_ (fun _ => ?_)
theorem best_next.mono : ∀ a0 a1 a2 a3 a4 a5 a6 a7 a8 a9 a10 a11 k, LeO (best_next.f k a0 a1 a2 a3 a4 a5 a6 a7 a8 a9 a10 a11) (best_next.f (k + 1) a0 a1 a2 a3 a4 a5 a6 a7 a8 a9 a10 a11) := by
  intro a0 a1 a2 a3 a4 a5 a6 a7 a8 a9 a10 a11 k
  obtain ⟨ih0, ih1, ih2, ih3⟩ := best_next.mono_l k; unfold best_next.f
  repeat' first
      | (with_reducible exact ih0 _ _ _ _ _ _ _ _ _ _ _ _ _ _ _ _ _ _ _)
      | (with_reducible exact ih1 _ _ _ _ _ _ _ _ _ _ _ _ _ _ _ _ _ _ _)
      | (with_reducible exact ih2 _ _ _ _ _ _ _ _ _ _ _ _ _ _ _ _ _ _ _)
      | (with_reducible exact ih3 _ _ _ _ _ _ _ _ _ _ _ _ _ _ _ _ _ _ _ _ _ _ _)
      | (with_reducible exact best_price.mono _ _ _ _ _ _ _ _ _ _ _ _ _ _)
      | (with_reducible exact span_Trim.mono _ _ _ _ _)
      | (with_reducible exact LeO.refl _)
      | (with_reducible exact LeO.none _)
      | (with_reducible refine LeO.ite ?_ ?_)
      | (with_reducible refine LeO.bind ?_ (fun _ => ?_))
      | exact ih0 _ _ _ _ _ _ _ _ _ _ _ _ _ _ _ _ _ _ _
      | exact ih1 _ _ _ _ _ _ _ _ _ _ _ _ _ _ _ _ _ _ _
      | exact ih2 _ _ _ _ _ _ _ _ _ _ _ _ _ _ _ _ _ _ _
      | exact ih3 _ _ _ _ _ _ _ _ _ _ _ _ _ _ _ _ _ _ _ _ _ _ _
      | exact best_price.mono _ _ _ _ _ _ _ _ _ _ _ _ _ _
      | exact span_Trim.mono _ _ _ _ _
      | exact LeO.none _
      | refine LeO.ite ?_ ?_
      | refine LeO.bind ?_ (fun _ => ?_)
set_option maxHeartbeats 8000000 in
set_option maxRecDepth 100000 in
theorem best_next.calls (k : Nat) (A0_0 : Option Addr) (c0_0 : Nat) (l0_0 : List (S66)) (A0_1 : Option Addr) (c0_1 : Nat) (l0_1 : List Int) (a1 : Int) (a2 : Int) (a3 : Int) (A4 : Option Addr) (c4 : Nat) (l4 : List (S70)) (a5_0 : Int) (a5_1 : Int) (a5_2 : Int) (a5_3 : Int) (a5_4 : Int) (a5_5 : Nat) (r1 : Int) (r2 : Int) (w : World) (hr0_0 : Kd.C k66 w A0_0 l0_0.length l0_0) (hc0_0 : l0_0.length ≤ c0_0) (hr0_1 : Kd.C (Kd.int .u8) w A0_1 l0_1.length l0_1) (hc0_1 : l0_1.length ≤ c0_1) (hr4 : Kd.C k70 w A4 l4.length l4) (hc4 : l4.length ≤ c4) (h : best_next.f k l0_0 l0_1 a1 a2 a3 l4 a5_0 a5_1 a5_2 a5_3 a5_4 a5_5 = some (r1, r2)) :
    Calls Try.prog 29 #[.agg #[.slice A0_0 l0_0.length c0_0, .slice A0_1 l0_1.length c0_1], .int .i64 a1, .int .i64 a2, .int .i64 a3, .slice A4 l4.length c4, .agg #[.int .i64 a5_0, .int .i64 a5_1, .int .u8 a5_2, .int .i64 a5_3, .int .i64 a5_4, .float .f64 a5_5]] w fun e w' => e = .returned (.agg #[.int .i64 r1, .int .i64 r2]) ∧ Below w.heap.size w w' := by
  have hu31 := Try.underlying31; have hu35 := Try.underlying35; have hu70 := Try.underlying70; have hu66 := Try.underlying66; have HR0_0 := zC.mk hr0_0; have HC0_0 := zC.mk hc0_0; clear hr0_0 hc0_0; have HR0_1 := zC.mk hr0_1; have HC0_1 := zC.mk hc0_1; clear hr0_1 hc0_1; have HR4 := zC.mk hr4; have HC4 := zC.mk hc4; clear hr4 hc4; have HB := zC.mk (Below.refl w.heap.size w); have H : (best_next.l0 k a1 a2 a3 l4 0 0 0 0 (wrap64 (a1 + 1)) l0_0 l0_1 a5_0 a5_1 a5_2 a5_3 a5_4 a5_5 0 (-1)) = some (r1, r2) := h
  clear h; have H' := zC.mk H
  clear H; go_enter Try.func29, Try.ntmps29
  go_wp2_with (first | ((with_reducible refine gate_dst (N := 6) rfl ?_); refine box_event ?hg (N := 6) ?hd (cs := #[.slice A0_0 l0_0.length c0_0, .slice A0_1 l0_1.length c0_1]) (t := 31) ?hr ?_; (case hd => rfl); (case hg => rfl); (case hr => first | (go_simp; done) | (go_simp; rfl)); intro gb208 hg w7 hbox hb; have n0_ := zC.mk (zQ (by repeat (first | (with_reducible first | exact HB.out | apply zJ | apply zG | apply zI) | exact HB.out)) hb); have n1_ := zC.mk (hbox); have n2_ := zC.mk ((by rw [hg]; exact (zP (by repeat (first | (with_reducible first | exact HB.out | apply zJ | apply zG | apply zI) | exact HB.out))) : w.heap.size ≤ gb208)); have n3_ := zC.mk ((by rw [hg]; exact (zP (by repeat (first | (with_reducible first | exact HB.out | apply zJ | apply zG | apply zI) | exact HB.out))) : w.heap.size ≤ gb208)); clear HB; have HB := n0_; have BK208 := n1_; have GW208 := n2_; have GE208 := n3_; clear n0_ n1_ n2_ n3_; clear hb hbox hg) | ((with_reducible refine gate_dst (N := 11) rfl ?_); refine box_event ?hg (N := 11) ?hd (cs := #[.int .i64 a5_0, .int .i64 a5_1, .int .u8 a5_2, .int .i64 a5_3, .int .i64 a5_4, .float .f64 a5_5]) (t := 35) ?hr ?_; (case hd => rfl); (case hg => rfl); (case hr => first | (go_simp; done) | (go_simp; rfl)); intro gb209 hg w8 hbox hb; have n0_ := zC.mk (zK (g := gb208) (o := .cells #[.slice A0_0 l0_0.length c0_0, .slice A0_1 l0_1.length c0_1] 31 (0, 0)) (by (with_reducible repeat (first | refine zB ?_ _ | refine zD ?_ | refine zA ?_ _)); exact BK208.out) hb); have n1_ := zC.mk (zQ (by repeat (first | (with_reducible first | exact HB.out | apply zJ | apply zG | apply zI | refine zE ?_ GE208.out) | exact HB.out)) hb); have n2_ := zC.mk (hbox); have n3_ := zC.mk ((by rw [hg]; exact (zP (by repeat (first | (with_reducible first | exact HB.out | apply zJ | apply zG | apply zI | refine zE ?_ GE208.out) | exact HB.out))) : w.heap.size ≤ gb209)); have n4_ := zC.mk ((by rw [hg]; exact (zP (by repeat (first | (with_reducible first | exact HB.out | apply zJ | apply zG | apply zI | refine zE ?_ GE208.out) | exact HB.out))) : w.heap.size ≤ gb209)); have n5_ := zC.mk ((by rw [hg]; exact Nat.ne_of_lt (blk_lt (g := gb208) (o := .cells #[.slice A0_0 l0_0.length c0_0, .slice A0_1 l0_1.length c0_1] 31 (0, 0)) (by (with_reducible repeat (first | refine zB ?_ _ | refine zD ?_ | refine zA ?_ _)); exact BK208.out)) : gb208 ≠ gb209)); have n6_ := zC.mk ((by rw [hg]; exact Nat.ne_of_gt (blk_lt (g := gb208) (o := .cells #[.slice A0_0 l0_0.length c0_0, .slice A0_1 l0_1.length c0_1] 31 (0, 0)) (by (with_reducible repeat (first | refine zB ?_ _ | refine zD ?_ | refine zA ?_ _)); exact BK208.out)) : gb209 ≠ gb208)); clear BK208; clear HB; have BK208 := n0_; have HB := n1_; have BK209 := n2_; have GW209 := n3_; have GE209 := n4_; have NB208_209 := n5_; have NB209_208 := n6_; clear n0_ n1_ n2_ n3_ n4_ n5_ n6_; clear hb hbox hg) | ((with_reducible refine gate_dst (N := 12) rfl ?_); refine box_event ?hg (N := 12) ?hd (cs := #[.int .i64 0, .int .i64 0]) (t := 70) ?hr ?_; (case hd => rfl); (case hg => rfl); (case hr => first | (go_simp; done) | (go_simp; rfl)); intro gb210 hg w9 hbox hb; have n0_ := zC.mk (zK (g := gb208) (o := .cells #[.slice A0_0 l0_0.length c0_0, .slice A0_1 l0_1.length c0_1] 31 (0, 0)) (by (with_reducible repeat (first | refine zB ?_ _ | refine zD ?_ | refine zA ?_ _)); exact BK208.out) hb); have n1_ := zC.mk (zK (g := gb209) (o := .cells #[.int .i64 a5_0, .int .i64 a5_1, .int .u8 a5_2, .int .i64 a5_3, .int .i64 a5_4, .float .f64 a5_5] 35 (0, 0)) (by (with_reducible repeat (first | refine zB ?_ _ | refine zD ?_ | refine zA ?_ _)); exact BK209.out) hb); have n2_ := zC.mk (zQ (by repeat (first | (with_reducible first | exact HB.out | apply zJ | apply zG | apply zI | refine zE ?_ GE208.out | refine zE ?_ GE209.out) | exact HB.out)) hb); have n3_ := zC.mk (hbox); have n4_ := zC.mk ((by rw [hg]; exact (zP (by repeat (first | (with_reducible first | exact HB.out | apply zJ | apply zG | apply zI | refine zE ?_ GE208.out | refine zE ?_ GE209.out) | exact HB.out))) : w.heap.size ≤ gb210)); have n5_ := zC.mk ((by rw [hg]; exact (zP (by repeat (first | (with_reducible first | exact HB.out | apply zJ | apply zG | apply zI | refine zE ?_ GE208.out | refine zE ?_ GE209.out) | exact HB.out))) : w.heap.size ≤ gb210)); have n6_ := zC.mk ((by rw [hg]; exact Nat.ne_of_lt (blk_lt (g := gb208) (o := .cells #[.slice A0_0 l0_0.length c0_0, .slice A0_1 l0_1.length c0_1] 31 (0, 0)) (by (with_reducible repeat (first | refine zB ?_ _ | refine zD ?_ | refine zA ?_ _)); exact BK208.out)) : gb208 ≠ gb210)); have n7_ := zC.mk ((by rw [hg]; exact Nat.ne_of_gt (blk_lt (g := gb208) (o := .cells #[.slice A0_0 l0_0.length c0_0, .slice A0_1 l0_1.length c0_1] 31 (0, 0)) (by (with_reducible repeat (first | refine zB ?_ _ | refine zD ?_ | refine zA ?_ _)); exact BK208.out)) : gb210 ≠ gb208)); have n8_ := zC.mk ((by rw [hg]; exact Nat.ne_of_lt (blk_lt (g := gb209) (o := .cells #[.int .i64 a5_0, .int .i64 a5_1, .int .u8 a5_2, .int .i64 a5_3, .int .i64 a5_4, .float .f64 a5_5] 35 (0, 0)) (by (with_reducible repeat (first | refine zB ?_ _ | refine zD ?_ | refine zA ?_ _)); exact BK209.out)) : gb209 ≠ gb210)); have n9_ := zC.mk ((by rw [hg]; exact Nat.ne_of_gt (blk_lt (g := gb209) (o := .cells #[.int .i64 a5_0, .int .i64 a5_1, .int .u8 a5_2, .int .i64 a5_3, .int .i64 a5_4, .float .f64 a5_5] 35 (0, 0)) (by (with_reducible repeat (first | refine zB ?_ _ | refine zD ?_ | refine zA ?_ _)); exact BK209.out)) : gb210 ≠ gb209)); clear BK208; clear BK209; clear HB; have BK208 := n0_; have BK209 := n1_; have HB := n2_; have BK210 := n3_; have GW210 := n4_; have GE210 := n5_; have NB208_210 := n6_; have NB210_208 := n7_; have NB209_210 := n8_; have NB210_209 := n9_; clear n0_ n1_ n2_ n3_ n4_ n5_ n6_ n7_ n8_ n9_; clear hb hbox hg) | ((with_reducible refine gate_dst (N := 13) rfl ?_); refine box_event ?hg (N := 13) ?hd (cs := #[.int .i64 0, .int .i64 0]) (t := 70) ?hr ?_; (case hd => rfl); (case hg => rfl); (case hr => first | (go_simp; done) | (go_simp; rfl)); intro gb211 hg w10 hbox hb; have n0_ := zC.mk (zK (g := gb208) (o := .cells #[.slice A0_0 l0_0.length c0_0, .slice A0_1 l0_1.length c0_1] 31 (0, 0)) (by (with_reducible repeat (first | refine zB ?_ _ | refine zD ?_ | refine zA ?_ _)); exact BK208.out) hb); have n1_ := zC.mk (zK (g := gb209) (o := .cells #[.int .i64 a5_0, .int .i64 a5_1, .int .u8 a5_2, .int .i64 a5_3, .int .i64 a5_4, .float .f64 a5_5] 35 (0, 0)) (by (with_reducible repeat (first | refine zB ?_ _ | refine zD ?_ | refine zA ?_ _)); exact BK209.out) hb); have n2_ := zC.mk (zK (g := gb210) (o := .cells #[.int .i64 0, .int .i64 0] 70 (0, 0)) (by (with_reducible repeat (first | refine zB ?_ _ | refine zD ?_ | refine zA ?_ _)); exact BK210.out) hb); have n3_ := zC.mk (zQ (by repeat (first | (with_reducible first | exact HB.out | apply zJ | apply zG | apply zI | refine zE ?_ GE208.out | refine zE ?_ GE209.out | refine zE ?_ GE210.out) | exact HB.out)) hb); have n4_ := zC.mk (hbox); have n5_ := zC.mk ((by rw [hg]; exact (zP (by repeat (first | (with_reducible first | exact HB.out | apply zJ | apply zG | apply zI | refine zE ?_ GE208.out | refine zE ?_ GE209.out | refine zE ?_ GE210.out) | exact HB.out))) : w.heap.size ≤ gb211)); have n6_ := zC.mk ((by rw [hg]; exact (zP (by repeat (first | (with_reducible first | exact HB.out | apply zJ | apply zG | apply zI | refine zE ?_ GE208.out | refine zE ?_ GE209.out | refine zE ?_ GE210.out) | exact HB.out))) : w.heap.size ≤ gb211)); have n7_ := zC.mk ((by rw [hg]; exact Nat.ne_of_lt (blk_lt (g := gb208) (o := .cells #[.slice A0_0 l0_0.length c0_0, .slice A0_1 l0_1.length c0_1] 31 (0, 0)) (by (with_reducible repeat (first | refine zB ?_ _ | refine zD ?_ | refine zA ?_ _)); exact BK208.out)) : gb208 ≠ gb211)); have n8_ := zC.mk ((by rw [hg]; exact Nat.ne_of_gt (blk_lt (g := gb208) (o := .cells #[.slice A0_0 l0_0.length c0_0, .slice A0_1 l0_1.length c0_1] 31 (0, 0)) (by (with_reducible repeat (first | refine zB ?_ _ | refine zD ?_ | refine zA ?_ _)); exact BK208.out)) : gb211 ≠ gb208)); have n9_ := zC.mk ((by rw [hg]; exact Nat.ne_of_lt (blk_lt (g := gb209) (o := .cells #[.int .i64 a5_0, .int .i64 a5_1, .int .u8 a5_2, .int .i64 a5_3, .int .i64 a5_4, .float .f64 a5_5] 35 (0, 0)) (by (with_reducible repeat (first | refine zB ?_ _ | refine zD ?_ | refine zA ?_ _)); exact BK209.out)) : gb209 ≠ gb211)); have n10_ := zC.mk ((by rw [hg]; exact Nat.ne_of_gt (blk_lt (g := gb209) (o := .cells #[.int .i64 a5_0, .int .i64 a5_1, .int .u8 a5_2, .int .i64 a5_3, .int .i64 a5_4, .float .f64 a5_5] 35 (0, 0)) (by (with_reducible repeat (first | refine zB ?_ _ | refine zD ?_ | refine zA ?_ _)); exact BK209.out)) : gb211 ≠ gb209)); have n11_ := zC.mk ((by rw [hg]; exact Nat.ne_of_lt (blk_lt (g := gb210) (o := .cells #[.int .i64 0, .int .i64 0] 70 (0, 0)) (by (with_reducible repeat (first | refine zB ?_ _ | refine zD ?_ | refine zA ?_ _)); exact BK210.out)) : gb210 ≠ gb211)); have n12_ := zC.mk ((by rw [hg]; exact Nat.ne_of_gt (blk_lt (g := gb210) (o := .cells #[.int .i64 0, .int .i64 0] 70 (0, 0)) (by (with_reducible repeat (first | refine zB ?_ _ | refine zD ?_ | refine zA ?_ _)); exact BK210.out)) : gb211 ≠ gb210)); clear BK208; clear BK209; clear BK210; clear HB; have BK208 := n0_; have BK209 := n1_; have BK210 := n2_; have HB := n3_; have BK211 := n4_; have GW211 := n5_; have GE211 := n6_; have NB208_211 := n7_; have NB211_208 := n8_; have NB209_211 := n9_; have NB211_209 := n10_; have NB210_211 := n11_; have NB211_210 := n12_; clear n0_ n1_ n2_ n3_ n4_ n5_ n6_ n7_ n8_ n9_ n10_ n11_ n12_; clear hb hbox hg; have hnb11 := NB211_208.out; have hnc11 := NB208_211.out; have hnb12 := NB211_209.out; have hnc12 := NB209_211.out; have hnb13 := NB211_210.out; have hnc13 := NB210_211.out; have hcz14_0 : w10.cell? ⟨gb211, 0, none⟩ = some (.int .i64 0) := (zF BK211.out 0).trans rfl; have hcz14_1 : w10.cell? ⟨gb211, 1, none⟩ = some (.int .i64 0) := (zF BK211.out 1).trans rfl; have hfz14_0 := zH BK211.out 0; have hfz14_1 := zH BK211.out 1) | ((with_reducible refine gate_store (t := 70) (p := 13) rfl ?_); refine store_event (t := 70) (p := 13) (v := ?vo_w15) (w1 := ((w10.setCell ⟨gb211, 0, none⟩ (.int .i64 0)).setCell ⟨gb211, 1, none⟩ (.int .i64 (-1)))) ?hg ?ho ?hn ?hr ?_; (case ho => rfl); (case hg => rfl); (case hn => rfl); (case hr => first | (go_simp; done) | (go_simp; rfl)); intro w15 hw; have n0_ : zC (w15.heap[gb208]? = some (.cells #[.slice A0_0 l0_0.length c0_0, .slice A0_1 l0_1.length c0_1] 31 (0, 0))) := ⟨(by rw [hw]; exact (by (with_reducible repeat (first | refine zB ?_ _ | refine zD ?_ | refine zA ?_ _)); refine zO ?_ NB208_211.out _; (with_reducible repeat (first | refine zB ?_ _ | refine zD ?_ | refine zA ?_ _)); refine zO ?_ NB208_211.out _; (with_reducible repeat (first | refine zB ?_ _ | refine zD ?_ | refine zA ?_ _)); exact BK208.out))⟩; have n1_ : zC (w15.heap[gb209]? = some (.cells #[.int .i64 a5_0, .int .i64 a5_1, .int .u8 a5_2, .int .i64 a5_3, .int .i64 a5_4, .float .f64 a5_5] 35 (0, 0))) := ⟨(by rw [hw]; exact (by (with_reducible repeat (first | refine zB ?_ _ | refine zD ?_ | refine zA ?_ _)); refine zO ?_ NB209_211.out _; (with_reducible repeat (first | refine zB ?_ _ | refine zD ?_ | refine zA ?_ _)); refine zO ?_ NB209_211.out _; (with_reducible repeat (first | refine zB ?_ _ | refine zD ?_ | refine zA ?_ _)); exact BK209.out))⟩; have n2_ : zC (w15.heap[gb210]? = some (.cells #[.int .i64 0, .int .i64 0] 70 (0, 0))) := ⟨(by rw [hw]; exact (by (with_reducible repeat (first | refine zB ?_ _ | refine zD ?_ | refine zA ?_ _)); refine zO ?_ NB210_211.out _; (with_reducible repeat (first | refine zB ?_ _ | refine zD ?_ | refine zA ?_ _)); refine zO ?_ NB210_211.out _; (with_reducible repeat (first | refine zB ?_ _ | refine zD ?_ | refine zA ?_ _)); exact BK210.out))⟩; have n3_ : zC (w15.heap[gb211]? = some (.cells #[.int .i64 0, .int .i64 (-1)] 70 (0, 0))) := ⟨(by rw [hw]; exact (by (with_reducible repeat (first | refine zB ?_ _ | refine zD ?_ | refine zA ?_ _)); refine blk_put (cs := #[.int .i64 0, .int .i64 0]) ?_ 1 _ rfl; (with_reducible repeat (first | refine zB ?_ _ | refine zD ?_ | refine zA ?_ _)); refine blk_put (cs := #[.int .i64 0, .int .i64 0]) ?_ 0 _ rfl; (with_reducible repeat (first | refine zB ?_ _ | refine zD ?_ | refine zA ?_ _)); exact BK211.out))⟩; have n4_ : zC (Below w.heap.size w w15) := ⟨(by rw [hw]; exact (by repeat (first | (with_reducible first | exact HB.out | apply zJ | apply zG | apply zI | refine zE ?_ GE208.out | refine zE ?_ GE209.out | refine zE ?_ GE210.out | refine zE ?_ GE211.out) | exact HB.out)))⟩; clear hw; clear BK208; clear BK209; clear BK210; clear BK211; clear HB; have BK208 := n0_; have BK209 := n1_; have BK210 := n2_; have BK211 := n3_; have HB := n4_; clear n0_ n1_ n2_ n3_ n4_))
  go_loopg [14, 15, 16, 17, 18] k (fun kq v14 v15 v16 v17 v18 w' => ∃ (x14_1 : Int) (x15_1 : Int) (x16_1 : Int) (x17_1 : Int) (x18_1 : Int) (x212000_1 : Int) (x212001_1 : Int), v14 = .int .i64 x14_1 ∧ v15 = .int .i64 x15_1 ∧ v16 = .int .i64 x16_1 ∧ v17 = .int .i64 x17_1 ∧ v18 = .int .i64 x18_1 ∧ zC (best_next.l0 kq a1 a2 a3 l4 x14_1 x15_1 x16_1 x17_1 x18_1 l0_0 l0_1 a5_0 a5_1 a5_2 a5_3 a5_4 a5_5 x212000_1 x212001_1 = some (r1, r2)) ∧ zC (kq ≤ k) ∧ zC (w'.heap[gb208]? = some (.cells #[(.slice A0_0 l0_0.length c0_0), (.slice A0_1 l0_1.length c0_1)] 31 (0, 0))) ∧ zC (w'.heap[gb209]? = some (.cells #[.int .i64 a5_0, .int .i64 a5_1, .int .u8 a5_2, .int .i64 a5_3, .int .i64 a5_4, .float .f64 a5_5] 35 (0, 0))) ∧ zC (w'.heap[gb210]? = some (.cells #[.int .i64 0, .int .i64 0] 70 (0, 0))) ∧ zC (w'.heap[gb211]? = some (.cells #[.int .i64 x212000_1, .int .i64 x212001_1] 70 (0, 0))) ∧ zC (Below w.heap.size w w'))
  case atStart => exact ⟨(0), (0), (0), (0), (wrap64 (a1 + 1)), (0), ((-1)), (by first | rfl | (simp; done) | (simp [*]; done)), (by first | rfl | (simp; done) | (simp [*]; done)), (by first | rfl | (simp; done) | (simp [*]; done)), (by first | rfl | (simp; done) | (simp [*]; done)), (by first | rfl | (simp; done) | (simp [*]; done)), H', ⟨Nat.le_refl _⟩, ⟨by (with_reducible repeat (first | refine zB ?_ _ | refine zD ?_ | refine zA ?_ _)); exact BK208.out⟩, ⟨by (with_reducible repeat (first | refine zB ?_ _ | refine zD ?_ | refine zA ?_ _)); exact BK209.out⟩, ⟨by (with_reducible repeat (first | refine zB ?_ _ | refine zD ?_ | refine zA ?_ _)); exact BK210.out⟩, ⟨by (with_reducible repeat (first | refine zB ?_ _ | refine zD ?_ | refine zA ?_ _)); exact BK211.out⟩, ⟨by repeat (first | (with_reducible first | exact HB.out | apply zJ | apply zG | apply zI | refine zE ?_ GE208.out | refine zE ?_ GE209.out | refine zE ?_ GE210.out | refine zE ?_ GE211.out) | exact HB.out)⟩⟩
  clear H'; try clear c1
  try clear c2
  try clear p2
  try clear c4
  try clear p6
  try clear c11
  try clear c12
  try clear c13
  try clear hcz14_0
  try clear hcz14_1
  try clear hfz14_0
  try clear hfz14_1
  obtain ⟨x14_1, x15_1, x16_1, x17_1, x18_1, x212000_1, x212001_1, rfl, rfl, rfl, rfl, rfl, HA, HK1, BK208, BK209, BK210, BK211, HB⟩ := hrel; cases gk with
  | zero => exact absurd HA.out (by simp [best_next.l0])
  | succ k1 =>
    have H := HA.out; clear HA; simp only [best_next.l0] at H; by_cases c16 : x18_1 ≤ a3
    rotate_left
    · rw [if_neg c16] at H
      have c16b0 : decide (x18_1 ≤ a3) = false := decide_eq_false c16
      clear c16; simp only [Option.some.injEq, Prod.mk.injEq] at H; obtain ⟨rfl, rfl⟩ := H; have hnb246 := NB211_208.out; have hnc246 := NB208_211.out; have hnb247 := NB211_209.out; have hnc247 := NB209_211.out; have hnb248 := NB211_210.out; have hnc248 := NB210_211.out; have hcz249_0 : wr.cell? ⟨gb211, 0, none⟩ = some (.int .i64 x212000_1) := (zF BK211.out 0).trans rfl
      have hcz249_1 : wr.cell? ⟨gb211, 1, none⟩ = some (.int .i64 x212001_1) := (zF BK211.out 1).trans rfl
      have hfz249_0 := zH BK211.out 0; have hfz249_1 := zH BK211.out 1; have hnb250 := NB210_208.out; have hnc250 := NB208_210.out; have hnb251 := NB210_209.out; have hnc251 := NB209_210.out; have hcz252_0 : wr.cell? ⟨gb210, 0, none⟩ = some (.int .i64 0) := (zF BK210.out 0).trans rfl
      have hcz252_1 : wr.cell? ⟨gb210, 1, none⟩ = some (.int .i64 0) := (zF BK210.out 1).trans rfl
      have hfz252_0 := zH BK210.out 0; have hfz252_1 := zH BK210.out 1; go_wp2_with (first | ((with_reducible refine gate_store (t := 70) (p := 12) rfl ?_); refine store_event (t := 70) (p := 12) (v := ?vo_w253) (w1 := ((wr.setCell ⟨gb210, 0, none⟩ (.int .i64 x212000_1)).setCell ⟨gb210, 1, none⟩ (.int .i64 x212001_1))) ?hg ?ho ?hn ?hr ?_; (case ho => rfl); (case hg => rfl); (case hn => rfl); (case hr => first | (go_simp; done) | (go_simp; rfl)); intro w253 hw; have n0_ : zC (w253.heap[gb208]? = some (.cells #[.slice A0_0 l0_0.length c0_0, .slice A0_1 l0_1.length c0_1] 31 (0, 0))) := ⟨(by rw [hw]; exact (by (with_reducible repeat (first | refine zB ?_ _ | refine zD ?_ | refine zA ?_ _)); refine zO ?_ NB208_210.out _; (with_reducible repeat (first | refine zB ?_ _ | refine zD ?_ | refine zA ?_ _)); refine zO ?_ NB208_210.out _; (with_reducible repeat (first | refine zB ?_ _ | refine zD ?_ | refine zA ?_ _)); exact BK208.out))⟩; have n1_ : zC (w253.heap[gb209]? = some (.cells #[.int .i64 a5_0, .int .i64 a5_1, .int .u8 a5_2, .int .i64 a5_3, .int .i64 a5_4, .float .f64 a5_5] 35 (0, 0))) := ⟨(by rw [hw]; exact (by (with_reducible repeat (first | refine zB ?_ _ | refine zD ?_ | refine zA ?_ _)); refine zO ?_ NB209_210.out _; (with_reducible repeat (first | refine zB ?_ _ | refine zD ?_ | refine zA ?_ _)); refine zO ?_ NB209_210.out _; (with_reducible repeat (first | refine zB ?_ _ | refine zD ?_ | refine zA ?_ _)); exact BK209.out))⟩; have n2_ : zC (w253.heap[gb210]? = some (.cells #[.int .i64 x212000_1, .int .i64 x212001_1] 70 (0, 0))) := ⟨(by rw [hw]; exact (by (with_reducible repeat (first | refine zB ?_ _ | refine zD ?_ | refine zA ?_ _)); refine blk_put (cs := #[.int .i64 x212000_1, .int .i64 0]) ?_ 1 _ rfl; (with_reducible repeat (first | refine zB ?_ _ | refine zD ?_ | refine zA ?_ _)); refine blk_put (cs := #[.int .i64 0, .int .i64 0]) ?_ 0 _ rfl; (with_reducible repeat (first | refine zB ?_ _ | refine zD ?_ | refine zA ?_ _)); exact BK210.out))⟩; have n3_ : zC (w253.heap[gb211]? = some (.cells #[.int .i64 x212000_1, .int .i64 x212001_1] 70 (0, 0))) := ⟨(by rw [hw]; exact (by (with_reducible repeat (first | refine zB ?_ _ | refine zD ?_ | refine zA ?_ _)); refine zO ?_ NB211_210.out _; (with_reducible repeat (first | refine zB ?_ _ | refine zD ?_ | refine zA ?_ _)); refine zO ?_ NB211_210.out _; (with_reducible repeat (first | refine zB ?_ _ | refine zD ?_ | refine zA ?_ _)); exact BK211.out))⟩; have n4_ : zC (Below w.heap.size w w253) := ⟨(by rw [hw]; exact (by repeat (first | (with_reducible first | exact HB.out | apply zJ | apply zG | apply zI | refine zE ?_ GE208.out | refine zE ?_ GE209.out | refine zE ?_ GE210.out | refine zE ?_ GE211.out) | exact HB.out)))⟩; clear hw; clear BK208; clear BK209; clear BK210; clear BK211; clear HB; have BK208 := n0_; have BK209 := n1_; have BK210 := n2_; have BK211 := n3_; have HB := n4_; clear n0_ n1_ n2_ n3_ n4_))
      refine bodyPost_ret (results_cell_row rfl _ _ gb210 70 #[.int .i64 x212000_1, .int .i64 x212001_1] (0, 0) _ rfl (by (with_reducible repeat (first | refine zB ?_ _ | refine zD ?_ | refine zA ?_ _)); exact BK210.out) Try.underlying70 rfl (by kernel_rfl)) rfl ?_
      exact ⟨by first | rfl | (simp [errW_none, errW_some] <;> rfl) | (simp [*, errW_none, errW_some] <;> rfl), by repeat (first | (with_reducible first | exact HB.out | apply zJ | apply zG | apply zI | refine zE ?_ GE208.out | refine zE ?_ GE209.out | refine zE ?_ GE210.out | refine zE ?_ GE211.out) | exact HB.out)⟩
    rw [if_pos c16] at H; have c16b0 : decide (x18_1 ≤ a3) = true := decide_eq_true c16
    clear c16; obtain ⟨ji17, hji17⟩ : ∃ j_ : Int, (wrap64 (x18_1 - 1)) = j_ := ⟨_, rfl⟩; replace H : (if 0 ≤ (ji17) then (if (ji17) < (l0_0.length : Int) then ((span_Next.f ((rd_T66 l0_0 (ji17)).f0) ((rd_T66 l0_0 (ji17)).f1) ((rd_T66 l0_0 (ji17)).f2) ((rd_T66 l0_0 (ji17)).f3) x14_1 a5_1).bind fun t214 => (if ((rd_T66 l0_0 (ji17)).f3) = 1 then (best_next.j1 k1 a1 a2 a3 l4 t214 x15_1 (wrap64 (x16_1 + 1)) x17_1 x18_1 l0_0 l0_1 a5_0 a5_1 a5_2 a5_3 a5_4 a5_5 x212000_1 x212001_1) else (best_next.j1 k1 a1 a2 a3 l4 t214 x15_1 x16_1 x17_1 x18_1 l0_0 l0_1 a5_0 a5_1 a5_2 a5_3 a5_4 a5_5 x212000_1 x212001_1))) else (none)) else (none)) = some (r1, r2) := by first | (rw [hji17] at H; exact H) | (simp only [hji17] at H ⊢; exact H)
    have hji17w : (IntKind.i64.wrap (x18_1 - 1)) = ji17 := (zL _).trans hji17
    by_cases c18 : 0 ≤ (ji17)
    rotate_left
    · rw [if_neg c18] at H
      exact absurd H (by simp)
    rw [if_pos c18] at H; have c18b0 : decide (0 ≤ (ji17)) = true := decide_eq_true c18
    clear c18; by_cases c19 : (ji17) < (l0_0.length : Int)
    rotate_left
    · rw [if_neg c19] at H
      exact absurd H (by simp)
    rw [if_pos c19] at H; have c19b0 : decide ((ji17) < (l0_0.length : Int)) = true := decide_eq_true c19
    clear c19; replace H := Option.bind_eq_some_iff.mp H; obtain ⟨t214, A200, H⟩ := H; replace H : (if ((rd_T66 l0_0 (ji17)).f3) = 1 then (best_next.j1 k1 a1 a2 a3 l4 t214 x15_1 (wrap64 (x16_1 + 1)) x17_1 x18_1 l0_0 l0_1 a5_0 a5_1 a5_2 a5_3 a5_4 a5_5 x212000_1 x212001_1) else (best_next.j1 k1 a1 a2 a3 l4 t214 x15_1 x16_1 x17_1 x18_1 l0_0 l0_1 a5_0 a5_1 a5_2 a5_3 a5_4 a5_5 x212000_1 x212001_1)) = some (r1, r2) := H; have A20 := zC.mk A200; clear A200; have HC21 := zC.mk H; clear H; have hnb22 := NB208_209.out; have hnc22 := NB209_208.out; have hnb23 := NB208_210.out; have hnc23 := NB210_208.out; have hnb24 := NB208_211.out; have hnc24 := NB211_208.out; have hcz25_0 : wr.cell? ⟨gb208, 0, none⟩ = some (.slice A0_0 l0_0.length c0_0) := (zF BK208.out 0).trans rfl
    have hcz25_1 : wr.cell? ⟨gb208, 1, none⟩ = some (.slice A0_1 l0_1.length c0_1) := (zF BK208.out 1).trans rfl
    have hfz25_0 := zH BK208.out 0; have hfz25_1 := zH BK208.out 1; have p212 : 0 ≤ ((ji17) : Int) := of_decide_eq_true (by first | (with_reducible assumption) | assumption)
    have q212 : (ji17) < (l0_0.length : Int) := of_decide_eq_true (by first | (with_reducible assumption) | assumption)
    obtain ⟨ad212, e212, hx212_0, hx212_1, hx212_2, hx212_3⟩ := at_T66 HR0_0.out (ji17) p212 q212; cases e212
    replace hx212_0 := (HB.out.cell (World.block_lt_of_cell? w _ hx212_0)).trans hx212_0; replace hx212_1 := (HB.out.cell (World.block_lt_of_cell? w _ hx212_1)).trans hx212_1; replace hx212_2 := (HB.out.cell (World.block_lt_of_cell? w _ hx212_2)).trans hx212_2; replace hx212_3 := (HB.out.cell (World.block_lt_of_cell? w _ hx212_3)).trans hx212_3; replace p212 := eq_true p212; replace q212 := eq_true q212; go_upto_if 47 with (first | ((with_reducible refine gate_dst (N := 19) rfl ?_); refine box_event ?hg (N := 19) ?hd (cs := #[.int .i64 0, .int .i64 0, .int .i64 0, .int .u8 0]) (t := 66) ?hr ?_; (case hd => rfl); (case hg => rfl); (case hr => first | (go_simp; done) | (go_simp; rfl)); intro gb213 hg w26 hbox hb; have n0_ := zC.mk (zK (g := gb208) (o := .cells #[.slice (some ad212) l0_0.length c0_0, .slice A0_1 l0_1.length c0_1] 31 (0, 0)) (by (with_reducible repeat (first | refine zB ?_ _ | refine zD ?_ | refine zA ?_ _)); exact BK208.out) hb); have n1_ := zC.mk (zK (g := gb209) (o := .cells #[.int .i64 a5_0, .int .i64 a5_1, .int .u8 a5_2, .int .i64 a5_3, .int .i64 a5_4, .float .f64 a5_5] 35 (0, 0)) (by (with_reducible repeat (first | refine zB ?_ _ | refine zD ?_ | refine zA ?_ _)); exact BK209.out) hb); have n2_ := zC.mk (zK (g := gb210) (o := .cells #[.int .i64 0, .int .i64 0] 70 (0, 0)) (by (with_reducible repeat (first | refine zB ?_ _ | refine zD ?_ | refine zA ?_ _)); exact BK210.out) hb); have n3_ := zC.mk (zK (g := gb211) (o := .cells #[.int .i64 x212000_1, .int .i64 x212001_1] 70 (0, 0)) (by (with_reducible repeat (first | refine zB ?_ _ | refine zD ?_ | refine zA ?_ _)); exact BK211.out) hb); have n4_ := zC.mk (zQ (by repeat (first | (with_reducible first | exact HB.out | apply zJ | apply zG | apply zI | refine zE ?_ GE208.out | refine zE ?_ GE209.out | refine zE ?_ GE210.out | refine zE ?_ GE211.out) | exact HB.out)) hb); have n5_ := zC.mk (hbox); have n6_ := zC.mk ((by rw [hg]; exact (zP (by repeat (first | (with_reducible first | exact HB.out | apply zJ | apply zG | apply zI | refine zE ?_ GE208.out | refine zE ?_ GE209.out | refine zE ?_ GE210.out | refine zE ?_ GE211.out) | exact HB.out))) : w.heap.size ≤ gb213)); have n7_ := zC.mk ((by rw [hg]; exact (zP (by repeat (first | (with_reducible first | exact HB.out | apply zJ | apply zG | apply zI | refine zE ?_ GE208.out | refine zE ?_ GE209.out | refine zE ?_ GE210.out | refine zE ?_ GE211.out) | exact HB.out))) : w.heap.size ≤ gb213)); have n8_ := zC.mk ((by rw [hg]; exact Nat.ne_of_lt (blk_lt (g := gb208) (o := .cells #[.slice (some ad212) l0_0.length c0_0, .slice A0_1 l0_1.length c0_1] 31 (0, 0)) (by (with_reducible repeat (first | refine zB ?_ _ | refine zD ?_ | refine zA ?_ _)); exact BK208.out)) : gb208 ≠ gb213)); have n9_ := zC.mk ((by rw [hg]; exact Nat.ne_of_gt (blk_lt (g := gb208) (o := .cells #[.slice (some ad212) l0_0.length c0_0, .slice A0_1 l0_1.length c0_1] 31 (0, 0)) (by (with_reducible repeat (first | refine zB ?_ _ | refine zD ?_ | refine zA ?_ _)); exact BK208.out)) : gb213 ≠ gb208)); have n10_ := zC.mk ((by rw [hg]; exact Nat.ne_of_lt (blk_lt (g := gb209) (o := .cells #[.int .i64 a5_0, .int .i64 a5_1, .int .u8 a5_2, .int .i64 a5_3, .int .i64 a5_4, .float .f64 a5_5] 35 (0, 0)) (by (with_reducible repeat (first | refine zB ?_ _ | refine zD ?_ | refine zA ?_ _)); exact BK209.out)) : gb209 ≠ gb213)); have n11_ := zC.mk ((by rw [hg]; exact Nat.ne_of_gt (blk_lt (g := gb209) (o := .cells #[.int .i64 a5_0, .int .i64 a5_1, .int .u8 a5_2, .int .i64 a5_3, .int .i64 a5_4, .float .f64 a5_5] 35 (0, 0)) (by (with_reducible repeat (first | refine zB ?_ _ | refine zD ?_ | refine zA ?_ _)); exact BK209.out)) : gb213 ≠ gb209)); have n12_ := zC.mk ((by rw [hg]; exact Nat.ne_of_lt (blk_lt (g := gb210) (o := .cells #[.int .i64 0, .int .i64 0] 70 (0, 0)) (by (with_reducible repeat (first | refine zB ?_ _ | refine zD ?_ | refine zA ?_ _)); exact BK210.out)) : gb210 ≠ gb213)); have n13_ := zC.mk ((by rw [hg]; exact Nat.ne_of_gt (blk_lt (g := gb210) (o := .cells #[.int .i64 0, .int .i64 0] 70 (0, 0)) (by (with_reducible repeat (first | refine zB ?_ _ | refine zD ?_ | refine zA ?_ _)); exact BK210.out)) : gb213 ≠ gb210)); have n14_ := zC.mk ((by rw [hg]; exact Nat.ne_of_lt (blk_lt (g := gb211) (o := .cells #[.int .i64 x212000_1, .int .i64 x212001_1] 70 (0, 0)) (by (with_reducible repeat (first | refine zB ?_ _ | refine zD ?_ | refine zA ?_ _)); exact BK211.out)) : gb211 ≠ gb213)); have n15_ := zC.mk ((by rw [hg]; exact Nat.ne_of_gt (blk_lt (g := gb211) (o := .cells #[.int .i64 x212000_1, .int .i64 x212001_1] 70 (0, 0)) (by (with_reducible repeat (first | refine zB ?_ _ | refine zD ?_ | refine zA ?_ _)); exact BK211.out)) : gb213 ≠ gb211)); clear BK208; clear BK209; clear BK210; clear BK211; clear HB; have BK208 := n0_; have BK209 := n1_; have BK210 := n2_; have BK211 := n3_; have HB := n4_; have BK213 := n5_; have GW213 := n6_; have GE213 := n7_; have NB208_213 := n8_; have NB213_208 := n9_; have NB209_213 := n10_; have NB213_209 := n11_; have NB210_213 := n12_; have NB213_210 := n13_; have NB211_213 := n14_; have NB213_211 := n15_; clear n0_ n1_ n2_ n3_ n4_ n5_ n6_ n7_ n8_ n9_ n10_ n11_ n12_ n13_ n14_ n15_; clear hb hbox hg; have hnb27 := NB213_208.out; have hnc27 := NB208_213.out; have hnb28 := NB213_209.out; have hnc28 := NB209_213.out; have hnb29 := NB213_210.out; have hnc29 := NB210_213.out; have hnb30 := NB213_211.out; have hnc30 := NB211_213.out; have hcz31_0 : w26.cell? ⟨gb213, 0, none⟩ = some (.int .i64 0) := (zF BK213.out 0).trans rfl; have hcz31_1 : w26.cell? ⟨gb213, 1, none⟩ = some (.int .i64 0) := (zF BK213.out 1).trans rfl; have hcz31_2 : w26.cell? ⟨gb213, 2, none⟩ = some (.int .i64 0) := (zF BK213.out 2).trans rfl; have hcz31_3 : w26.cell? ⟨gb213, 3, none⟩ = some (.int .u8 0) := (zF BK213.out 3).trans rfl; have hfz31_0 := zH BK213.out 0; have hfz31_1 := zH BK213.out 1; have hfz31_2 := zH BK213.out 2; have hfz31_3 := zH BK213.out 3) | ((with_reducible refine gate_store (t := 66) (p := 19) rfl ?_); refine store_event (t := 66) (p := 19) (v := ?vo_w32) (w1 := ((((w26.setCell ⟨gb213, 0, none⟩ (.int .i64 ((rd_T66 l0_0 (ji17)).f0))).setCell ⟨gb213, 1, none⟩ (.int .i64 ((rd_T66 l0_0 (ji17)).f1))).setCell ⟨gb213, 2, none⟩ (.int .i64 ((rd_T66 l0_0 (ji17)).f2))).setCell ⟨gb213, 3, none⟩ (.int .u8 ((rd_T66 l0_0 (ji17)).f3)))) ?hg ?ho ?hn ?hr ?_; (case ho => rfl); (case hg => rfl); (case hn => rfl); (case hr => first | (go_simp; done) | (go_simp; rfl)); intro w32 hw; have n0_ : zC (w32.heap[gb208]? = some (.cells #[.slice (some ad212) l0_0.length c0_0, .slice A0_1 l0_1.length c0_1] 31 (0, 0))) := ⟨(by rw [hw]; exact (by (with_reducible repeat (first | refine zB ?_ _ | refine zD ?_ | refine zA ?_ _)); refine zO ?_ NB208_213.out _; (with_reducible repeat (first | refine zB ?_ _ | refine zD ?_ | refine zA ?_ _)); refine zO ?_ NB208_213.out _; (with_reducible repeat (first | refine zB ?_ _ | refine zD ?_ | refine zA ?_ _)); refine zO ?_ NB208_213.out _; (with_reducible repeat (first | refine zB ?_ _ | refine zD ?_ | refine zA ?_ _)); refine zO ?_ NB208_213.out _; (with_reducible repeat (first | refine zB ?_ _ | refine zD ?_ | refine zA ?_ _)); exact BK208.out))⟩; have n1_ : zC (w32.heap[gb209]? = some (.cells #[.int .i64 a5_0, .int .i64 a5_1, .int .u8 a5_2, .int .i64 a5_3, .int .i64 a5_4, .float .f64 a5_5] 35 (0, 0))) := ⟨(by rw [hw]; exact (by (with_reducible repeat (first | refine zB ?_ _ | refine zD ?_ | refine zA ?_ _)); refine zO ?_ NB209_213.out _; (with_reducible repeat (first | refine zB ?_ _ | refine zD ?_ | refine zA ?_ _)); refine zO ?_ NB209_213.out _; (with_reducible repeat (first | refine zB ?_ _ | refine zD ?_ | refine zA ?_ _)); refine zO ?_ NB209_213.out _; (with_reducible repeat (first | refine zB ?_ _ | refine zD ?_ | refine zA ?_ _)); refine zO ?_ NB209_213.out _; (with_reducible repeat (first | refine zB ?_ _ | refine zD ?_ | refine zA ?_ _)); exact BK209.out))⟩; have n2_ : zC (w32.heap[gb210]? = some (.cells #[.int .i64 0, .int .i64 0] 70 (0, 0))) := ⟨(by rw [hw]; exact (by (with_reducible repeat (first | refine zB ?_ _ | refine zD ?_ | refine zA ?_ _)); refine zO ?_ NB210_213.out _; (with_reducible repeat (first | refine zB ?_ _ | refine zD ?_ | refine zA ?_ _)); refine zO ?_ NB210_213.out _; (with_reducible repeat (first | refine zB ?_ _ | refine zD ?_ | refine zA ?_ _)); refine zO ?_ NB210_213.out _; (with_reducible repeat (first | refine zB ?_ _ | refine zD ?_ | refine zA ?_ _)); refine zO ?_ NB210_213.out _; (with_reducible repeat (first | refine zB ?_ _ | refine zD ?_ | refine zA ?_ _)); exact BK210.out))⟩; have n3_ : zC (w32.heap[gb211]? = some (.cells #[.int .i64 x212000_1, .int .i64 x212001_1] 70 (0, 0))) := ⟨(by rw [hw]; exact (by (with_reducible repeat (first | refine zB ?_ _ | refine zD ?_ | refine zA ?_ _)); refine zO ?_ NB211_213.out _; (with_reducible repeat (first | refine zB ?_ _ | refine zD ?_ | refine zA ?_ _)); refine zO ?_ NB211_213.out _; (with_reducible repeat (first | refine zB ?_ _ | refine zD ?_ | refine zA ?_ _)); refine zO ?_ NB211_213.out _; (with_reducible repeat (first | refine zB ?_ _ | refine zD ?_ | refine zA ?_ _)); refine zO ?_ NB211_213.out _; (with_reducible repeat (first | refine zB ?_ _ | refine zD ?_ | refine zA ?_ _)); exact BK211.out))⟩; have n4_ : zC (w32.heap[gb213]? = some (.cells #[.int .i64 ((rd_T66 l0_0 (ji17)).f0), .int .i64 ((rd_T66 l0_0 (ji17)).f1), .int .i64 ((rd_T66 l0_0 (ji17)).f2), .int .u8 ((rd_T66 l0_0 (ji17)).f3)] 66 (0, 0))) := ⟨(by rw [hw]; exact (by (with_reducible repeat (first | refine zB ?_ _ | refine zD ?_ | refine zA ?_ _)); refine blk_put (cs := #[.int .i64 ((rd_T66 l0_0 (ji17)).f0), .int .i64 ((rd_T66 l0_0 (ji17)).f1), .int .i64 ((rd_T66 l0_0 (ji17)).f2), .int .u8 0]) ?_ 3 _ rfl; (with_reducible repeat (first | refine zB ?_ _ | refine zD ?_ | refine zA ?_ _)); refine blk_put (cs := #[.int .i64 ((rd_T66 l0_0 (ji17)).f0), .int .i64 ((rd_T66 l0_0 (ji17)).f1), .int .i64 0, .int .u8 0]) ?_ 2 _ rfl; (with_reducible repeat (first | refine zB ?_ _ | refine zD ?_ | refine zA ?_ _)); refine blk_put (cs := #[.int .i64 ((rd_T66 l0_0 (ji17)).f0), .int .i64 0, .int .i64 0, .int .u8 0]) ?_ 1 _ rfl; (with_reducible repeat (first | refine zB ?_ _ | refine zD ?_ | refine zA ?_ _)); refine blk_put (cs := #[.int .i64 0, .int .i64 0, .int .i64 0, .int .u8 0]) ?_ 0 _ rfl; (with_reducible repeat (first | refine zB ?_ _ | refine zD ?_ | refine zA ?_ _)); exact BK213.out))⟩; have n5_ : zC (Below w.heap.size w w32) := ⟨(by rw [hw]; exact (by repeat (first | (with_reducible first | exact HB.out | apply zJ | apply zG | apply zI | refine zE ?_ GE208.out | refine zE ?_ GE209.out | refine zE ?_ GE210.out | refine zE ?_ GE211.out | refine zE ?_ GE213.out) | exact HB.out)))⟩; clear hw; clear BK208; clear BK209; clear BK210; clear BK211; clear BK213; clear HB; have BK208 := n0_; have BK209 := n1_; have BK210 := n2_; have BK211 := n3_; have BK213 := n4_; have HB := n5_; clear n0_ n1_ n2_ n3_ n4_ n5_; have hcz33_0 : w32.cell? ⟨gb213, 0, none⟩ = some (.int .i64 ((rd_T66 l0_0 (ji17)).f0)) := (zF BK213.out 0).trans rfl; have hcz33_1 : w32.cell? ⟨gb213, 1, none⟩ = some (.int .i64 ((rd_T66 l0_0 (ji17)).f1)) := (zF BK213.out 1).trans rfl; have hcz33_2 : w32.cell? ⟨gb213, 2, none⟩ = some (.int .i64 ((rd_T66 l0_0 (ji17)).f2)) := (zF BK213.out 2).trans rfl; have hcz33_3 : w32.cell? ⟨gb213, 3, none⟩ = some (.int .u8 ((rd_T66 l0_0 (ji17)).f3)) := (zF BK213.out 3).trans rfl; have hfz33_0 := zH BK213.out 0; have hfz33_1 := zH BK213.out 1; have hfz33_2 := zH BK213.out 2; have hfz33_3 := zH BK213.out 3; have hnb34 := NB209_210.out; have hnc34 := NB210_209.out; have hnb35 := NB209_211.out; have hnc35 := NB211_209.out; have hcz36_0 : w32.cell? ⟨gb209, 0, none⟩ = some (.int .i64 a5_0) := (zF BK209.out 0).trans rfl; have hcz36_1 : w32.cell? ⟨gb209, 1, none⟩ = some (.int .i64 a5_1) := (zF BK209.out 1).trans rfl; have hcz36_2 : w32.cell? ⟨gb209, 2, none⟩ = some (.int .u8 a5_2) := (zF BK209.out 2).trans rfl; have hcz36_3 : w32.cell? ⟨gb209, 3, none⟩ = some (.int .i64 a5_3) := (zF BK209.out 3).trans rfl; have hcz36_4 : w32.cell? ⟨gb209, 4, none⟩ = some (.int .i64 a5_4) := (zF BK209.out 4).trans rfl; have hcz36_5 : w32.cell? ⟨gb209, 5, none⟩ = some (.float .f64 a5_5) := (zF BK209.out 5).trans rfl; have hfz36_0 := zH BK209.out 0; have hfz36_1 := zH BK209.out 1; have hfz36_2 := zH BK209.out 2; have hfz36_3 := zH BK209.out 3; have hfz36_4 := zH BK209.out 4; have hfz36_5 := zH BK209.out 5) | ((with_reducible refine gate_callee (f := 38) rfl ?_); refine goesL_ (some 44) rfl rfl Try.func38 (by kernel_rfl) rfl #[.agg #[.int .i64 ((rd_T66 l0_0 (ji17)).f0), .int .i64 ((rd_T66 l0_0 (ji17)).f1), .int .i64 ((rd_T66 l0_0 (ji17)).f2), .int .u8 ((rd_T66 l0_0 (ji17)).f3)], .int .i64 x14_1, .int .i64 a5_1] rfl (by (try simp only [List.map_toArray, List.map_cons, List.map_nil]); first | done | (simp only [hji17]; rfl) | rfl | (simp only [List.length_drop, List.length_take]; rfl)) ?_; (with_reducible refine (span_Next.calls ((rd_T66 l0_0 (ji17)).f0) ((rd_T66 l0_0 (ji17)).f1) ((rd_T66 l0_0 (ji17)).f2) ((rd_T66 l0_0 (ji17)).f3) x14_1 a5_1 t214 _ A20.out).mono ?_); rintro e w37 ⟨rfl, hb⟩; refine ⟨_, rfl, ?_⟩; have n0_ := zC.mk (zK (g := gb208) (o := .cells #[.slice (some ad212) l0_0.length c0_0, .slice A0_1 l0_1.length c0_1] 31 (0, 0)) (by (with_reducible repeat (first | refine zB ?_ _ | refine zD ?_ | refine zA ?_ _)); exact BK208.out) hb); have n1_ := zC.mk (zK (g := gb209) (o := .cells #[.int .i64 a5_0, .int .i64 a5_1, .int .u8 a5_2, .int .i64 a5_3, .int .i64 a5_4, .float .f64 a5_5] 35 (0, 0)) (by (with_reducible repeat (first | refine zB ?_ _ | refine zD ?_ | refine zA ?_ _)); exact BK209.out) hb); have n2_ := zC.mk (zK (g := gb210) (o := .cells #[.int .i64 0, .int .i64 0] 70 (0, 0)) (by (with_reducible repeat (first | refine zB ?_ _ | refine zD ?_ | refine zA ?_ _)); exact BK210.out) hb); have n3_ := zC.mk (zK (g := gb211) (o := .cells #[.int .i64 x212000_1, .int .i64 x212001_1] 70 (0, 0)) (by (with_reducible repeat (first | refine zB ?_ _ | refine zD ?_ | refine zA ?_ _)); exact BK211.out) hb); have n4_ := zC.mk (zK (g := gb213) (o := .cells #[.int .i64 ((rd_T66 l0_0 (ji17)).f0), .int .i64 ((rd_T66 l0_0 (ji17)).f1), .int .i64 ((rd_T66 l0_0 (ji17)).f2), .int .u8 ((rd_T66 l0_0 (ji17)).f3)] 66 (0, 0)) (by (with_reducible repeat (first | refine zB ?_ _ | refine zD ?_ | refine zA ?_ _)); exact BK213.out) hb); have n5_ := zC.mk (zQ (by repeat (first | (with_reducible first | exact HB.out | apply zJ | apply zG | apply zI | refine zE ?_ GE208.out | refine zE ?_ GE209.out | refine zE ?_ GE210.out | refine zE ?_ GE211.out | refine zE ?_ GE213.out) | exact HB.out)) hb); clear BK208; clear BK209; clear BK210; clear BK211; clear BK213; clear HB; have BK208 := n0_; have BK209 := n1_; have BK210 := n2_; have BK211 := n3_; have BK213 := n4_; have HB := n5_; clear n0_ n1_ n2_ n3_ n4_ n5_; (try clear hb); (try clear hb2); (try clear hk); (try clear hi); have hcz38_0 : w37.cell? ⟨gb213, 0, none⟩ = some (.int .i64 ((rd_T66 l0_0 (ji17)).f0)) := (zF BK213.out 0).trans rfl; have hcz38_1 : w37.cell? ⟨gb213, 1, none⟩ = some (.int .i64 ((rd_T66 l0_0 (ji17)).f1)) := (zF BK213.out 1).trans rfl; have hcz38_2 : w37.cell? ⟨gb213, 2, none⟩ = some (.int .i64 ((rd_T66 l0_0 (ji17)).f2)) := (zF BK213.out 2).trans rfl; have hcz38_3 : w37.cell? ⟨gb213, 3, none⟩ = some (.int .u8 ((rd_T66 l0_0 (ji17)).f3)) := (zF BK213.out 3).trans rfl; have hfz38_0 := zH BK213.out 0; have hfz38_1 := zH BK213.out 1; have hfz38_2 := zH BK213.out 2; have hfz38_3 := zH BK213.out 3))
    (try simp only [Act.put, sA_, sB_, sC_])
    go_cut [16] (fun v16 wc => ∃ (kq : Nat) (x16_20 : Int), v16 = .int .i64 x16_20 ∧ zC (best_next.j1 kq a1 a2 a3 l4 t214 x15_1 x16_20 x17_1 x18_1 l0_0 l0_1 a5_0 a5_1 a5_2 a5_3 a5_4 a5_5 x212000_1 x212001_1 = some (r1, r2)) ∧ zC (kq ≤ k1) ∧ zC (wc.heap[gb208]? = some (.cells #[(.slice (some ad212) l0_0.length c0_0), (.slice A0_1 l0_1.length c0_1)] 31 (0, 0))) ∧ zC (wc.heap[gb209]? = some (.cells #[.int .i64 a5_0, .int .i64 a5_1, .int .u8 a5_2, .int .i64 a5_3, .int .i64 a5_4, .float .f64 a5_5] 35 (0, 0))) ∧ zC (wc.heap[gb210]? = some (.cells #[.int .i64 0, .int .i64 0] 70 (0, 0))) ∧ zC (wc.heap[gb211]? = some (.cells #[.int .i64 x212000_1, .int .i64 x212001_1] 70 (0, 0))) ∧ zC (wc.heap[gb213]? = some (.cells #[.int .i64 ((rd_T66 l0_0 (ji17)).f0), .int .i64 ((rd_T66 l0_0 (ji17)).f1), .int .i64 ((rd_T66 l0_0 (ji17)).f2), .int .u8 ((rd_T66 l0_0 (ji17)).f3)] 66 (0, 0))) ∧ zC (Below w.heap.size w wc))
    case first =>
      have H := HC21.out; clear HC21; by_cases c39 : ((rd_T66 l0_0 (ji17)).f3) = 1
      · rw [if_pos c39] at H
        have c39b0 : (((rd_T66 l0_0 (ji17)).f3) == 1) = true := beq_iff_eq.mpr c39
        have c39b1 : (((rd_T66 l0_0 (ji17)).f3) != 1) = false := bne_eq_false_iff_eq.mpr c39
        clear c39; (first | rw [c39b0] | (simp only [zL, zM]; rw [c39b0]) | skip)
        have H' := zC.mk H
        clear H; go_wp2
        go_meet
        case rel => exact ⟨_, (wrap64 (x16_1 + 1)), (by first | rfl | (simp; done) | (simp [*]; done)), H', ⟨by have := HK1.out; first | omega | exact Nat.le_refl _⟩, ⟨by (with_reducible repeat (first | refine zB ?_ _ | refine zD ?_ | refine zA ?_ _)); exact BK208.out⟩, ⟨by (with_reducible repeat (first | refine zB ?_ _ | refine zD ?_ | refine zA ?_ _)); exact BK209.out⟩, ⟨by (with_reducible repeat (first | refine zB ?_ _ | refine zD ?_ | refine zA ?_ _)); exact BK210.out⟩, ⟨by (with_reducible repeat (first | refine zB ?_ _ | refine zD ?_ | refine zA ?_ _)); exact BK211.out⟩, ⟨by (with_reducible repeat (first | refine zB ?_ _ | refine zD ?_ | refine zA ?_ _)); exact BK213.out⟩, ⟨by repeat (first | (with_reducible first | exact HB.out | apply zJ | apply zG | apply zI | refine zE ?_ GE208.out | refine zE ?_ GE209.out | refine zE ?_ GE210.out | refine zE ?_ GE211.out | refine zE ?_ GE213.out) | exact HB.out)⟩⟩
      rw [if_neg c39] at H; have c39b0 : (((rd_T66 l0_0 (ji17)).f3) == 1) = false := beq_eq_false_iff_ne.mpr c39
      have c39b1 : (((rd_T66 l0_0 (ji17)).f3) != 1) = true := bne_iff_ne.mpr c39
      (first | rw [c39b0] | (simp only [zL, zM]; rw [c39b0]) | skip)
      have H' := zC.mk H
      clear H; go_wp2
      go_meet
      case rel => exact ⟨_, (x16_1), (by first | rfl | (simp; done) | (simp [*]; done)), H', ⟨by have := HK1.out; first | omega | exact Nat.le_refl _⟩, ⟨by (with_reducible repeat (first | refine zB ?_ _ | refine zD ?_ | refine zA ?_ _)); exact BK208.out⟩, ⟨by (with_reducible repeat (first | refine zB ?_ _ | refine zD ?_ | refine zA ?_ _)); exact BK209.out⟩, ⟨by (with_reducible repeat (first | refine zB ?_ _ | refine zD ?_ | refine zA ?_ _)); exact BK210.out⟩, ⟨by (with_reducible repeat (first | refine zB ?_ _ | refine zD ?_ | refine zA ?_ _)); exact BK211.out⟩, ⟨by (with_reducible repeat (first | refine zB ?_ _ | refine zD ?_ | refine zA ?_ _)); exact BK213.out⟩, ⟨by repeat (first | (with_reducible first | exact HB.out | apply zJ | apply zG | apply zI | refine zE ?_ GE208.out | refine zE ?_ GE209.out | refine zE ?_ GE210.out | refine zE ?_ GE211.out | refine zE ?_ GE213.out) | exact HB.out)⟩⟩
    clear HC21; try clear c1
    try clear c2
    try clear p2
    try clear q2
    try clear hx2
    try clear c3
    try clear c4
    try clear p6
    try clear c11
    try clear c12
    try clear c13
    try clear c16
    try clear c16b0
    try clear c18
    try clear c18b0
    try clear c19
    try clear c19b0
    try clear p21
    try clear q21
    try clear hx21
    try clear c22
    try clear c23
    try clear c24
    try clear c27
    try clear c28
    try clear c29
    try clear c30
    try clear c34
    try clear c35
    try clear c38
    try clear c39
    try clear c39b0
    try clear c39b1
    try clear hcz14_0
    try clear hcz14_1
    try clear hcz25_0
    try clear hcz25_1
    try clear hcz31_0
    try clear hcz31_1
    try clear hcz31_2
    try clear hcz31_3
    try clear hcz33_0
    try clear hcz33_1
    try clear hcz33_2
    try clear hcz33_3
    try clear hcz36_0
    try clear hcz36_1
    try clear hcz36_2
    try clear hcz36_3
    try clear hcz36_4
    try clear hcz36_5
    try clear hcz38_0
    try clear hcz38_1
    try clear hcz38_2
    try clear hcz38_3
    try clear hfz14_0
    try clear hfz14_1
    try clear hfz25_0
    try clear hfz25_1
    try clear hfz31_0
    try clear hfz31_1
    try clear hfz31_2
    try clear hfz31_3
    try clear hfz33_0
    try clear hfz33_1
    try clear hfz33_2
    try clear hfz33_3
    try clear hfz36_0
    try clear hfz36_1
    try clear hfz36_2
    try clear hfz36_3
    try clear hfz36_4
    try clear hfz36_5
    try clear hfz38_0
    try clear hfz38_1
    try clear hfz38_2
    try clear hfz38_3
    try clear hx212_0
    try clear hx212_1
    try clear hx212_2
    try clear hx212_3
    try clear p2
    try clear p212
    try clear p6
    try clear q212
    obtain ⟨kq, x16_20, rfl, HA, HJ20, BK208, BK209, BK210, BK211, BK213, HB⟩ := hcut; cases kq with
    | zero => exact absurd HA.out (by simp [best_next.j1])
    | succ kj20 =>
      have H := HA.out; clear HA; simp only [best_next.j1] at H; replace H := Option.bind_eq_some_iff.mp H; obtain ⟨t215, A400, H⟩ := H; replace H : (if t215 = x18_1 then (best_next.j2 kj20 a1 a2 a3 l4 t214 t214 x16_20 x16_20 x18_1 l0_0 l0_1 a5_0 a5_1 a5_2 a5_3 a5_4 a5_5 x212000_1 x212001_1) else (best_next.j2 kj20 a1 a2 a3 l4 t214 x15_1 x16_20 x17_1 x18_1 l0_0 l0_1 a5_0 a5_1 a5_2 a5_3 a5_4 a5_5 x212000_1 x212001_1)) = some (r1, r2) := H; have A40 := zC.mk A400; clear A400; have HC41 := zC.mk H; clear H; have hnb42 := NB208_209.out; have hnc42 := NB209_208.out; have hnb43 := NB208_210.out; have hnc43 := NB210_208.out; have hnb44 := NB208_211.out; have hnc44 := NB211_208.out; have hnb45 := NB208_213.out; have hnc45 := NB213_208.out; have hcz46_0 : wc.cell? ⟨gb208, 0, none⟩ = some (.slice (some ad212) l0_0.length c0_0) := (zF BK208.out 0).trans rfl
      have hcz46_1 : wc.cell? ⟨gb208, 1, none⟩ = some (.slice A0_1 l0_1.length c0_1) := (zF BK208.out 1).trans rfl
      have hfz46_0 := zH BK208.out 0; have hfz46_1 := zH BK208.out 1; go_upto_if 56 with (first | ((with_reducible refine gate_callee (f := 39) rfl ?_); refine goesL_ (some 54) rfl rfl Try.func39 (by kernel_rfl) rfl #[.agg #[.slice (some ad212) l0_0.length c0_0, .slice A0_1 l0_1.length c0_1], .int .i64 (wrap64 (x18_1 - 1)), .int .i64 x18_1] rfl (by (try simp only [List.map_toArray, List.map_cons, List.map_nil]); first | done | (rw [hji17] <;> rfl) | rfl | (simp only [List.length_drop, List.length_take]; rfl)) ?_; (with_reducible refine (span_Trim.calls kj20 _ _ l0_0 _ _ l0_1 (wrap64 (x18_1 - 1)) x18_1 t215 _ ?side1 ?side2 ?side3 ?side4 A40.out).mono ?_); (case side1 => repeat (first | exact (Kd.C_below HR0_0.out HB.out) | (with_reducible refine Kd.C_alloc ?_ _) | (with_reducible refine Kd.C_drewN ?_ _) | (with_reducible refine Kd.C_drew ?_))); (case side2 => exact HC0_0.out); (case side3 => repeat (first | exact (Kd.C_below HR0_1.out HB.out) | (with_reducible refine Kd.C_alloc ?_ _) | (with_reducible refine Kd.C_drewN ?_ _) | (with_reducible refine Kd.C_drew ?_))); (case side4 => exact HC0_1.out); rintro e w47 ⟨rfl, hb⟩; refine ⟨_, rfl, ?_⟩; have n0_ := zC.mk (zK (g := gb208) (o := .cells #[.slice (some ad212) l0_0.length c0_0, .slice A0_1 l0_1.length c0_1] 31 (0, 0)) (by (with_reducible repeat (first | refine zB ?_ _ | refine zD ?_ | refine zA ?_ _)); exact BK208.out) hb); have n1_ := zC.mk (zK (g := gb209) (o := .cells #[.int .i64 a5_0, .int .i64 a5_1, .int .u8 a5_2, .int .i64 a5_3, .int .i64 a5_4, .float .f64 a5_5] 35 (0, 0)) (by (with_reducible repeat (first | refine zB ?_ _ | refine zD ?_ | refine zA ?_ _)); exact BK209.out) hb); have n2_ := zC.mk (zK (g := gb210) (o := .cells #[.int .i64 0, .int .i64 0] 70 (0, 0)) (by (with_reducible repeat (first | refine zB ?_ _ | refine zD ?_ | refine zA ?_ _)); exact BK210.out) hb); have n3_ := zC.mk (zK (g := gb211) (o := .cells #[.int .i64 x212000_1, .int .i64 x212001_1] 70 (0, 0)) (by (with_reducible repeat (first | refine zB ?_ _ | refine zD ?_ | refine zA ?_ _)); exact BK211.out) hb); have n4_ := zC.mk (zK (g := gb213) (o := .cells #[.int .i64 ((rd_T66 l0_0 (ji17)).f0), .int .i64 ((rd_T66 l0_0 (ji17)).f1), .int .i64 ((rd_T66 l0_0 (ji17)).f2), .int .u8 ((rd_T66 l0_0 (ji17)).f3)] 66 (0, 0)) (by (with_reducible repeat (first | refine zB ?_ _ | refine zD ?_ | refine zA ?_ _)); exact BK213.out) hb); have n5_ := zC.mk (zQ (by repeat (first | (with_reducible first | exact HB.out | apply zJ | apply zG | apply zI | refine zE ?_ GE208.out | refine zE ?_ GE209.out | refine zE ?_ GE210.out | refine zE ?_ GE211.out | refine zE ?_ GE213.out) | exact HB.out)) hb); clear BK208; clear BK209; clear BK210; clear BK211; clear BK213; clear HB; have BK208 := n0_; have BK209 := n1_; have BK210 := n2_; have BK211 := n3_; have BK213 := n4_; have HB := n5_; clear n0_ n1_ n2_ n3_ n4_ n5_; (try clear hb); (try clear hb2); (try clear hk); (try clear hi)))
      (try simp only [Act.put, sA_, sB_, sC_])
      go_cut [15, 17] (fun v15 v17 wc => ∃ (kq : Nat) (x15_40 : Int) (x17_40 : Int), v15 = .int .i64 x15_40 ∧ v17 = .int .i64 x17_40 ∧ zC (best_next.j2 kq a1 a2 a3 l4 t214 x15_40 x16_20 x17_40 x18_1 l0_0 l0_1 a5_0 a5_1 a5_2 a5_3 a5_4 a5_5 x212000_1 x212001_1 = some (r1, r2)) ∧ zC (kq ≤ kj20) ∧ zC (wc.heap[gb208]? = some (.cells #[(.slice (some ad212) l0_0.length c0_0), (.slice A0_1 l0_1.length c0_1)] 31 (0, 0))) ∧ zC (wc.heap[gb209]? = some (.cells #[.int .i64 a5_0, .int .i64 a5_1, .int .u8 a5_2, .int .i64 a5_3, .int .i64 a5_4, .float .f64 a5_5] 35 (0, 0))) ∧ zC (wc.heap[gb210]? = some (.cells #[.int .i64 0, .int .i64 0] 70 (0, 0))) ∧ zC (wc.heap[gb211]? = some (.cells #[.int .i64 x212000_1, .int .i64 x212001_1] 70 (0, 0))) ∧ zC (wc.heap[gb213]? = some (.cells #[.int .i64 ((rd_T66 l0_0 (ji17)).f0), .int .i64 ((rd_T66 l0_0 (ji17)).f1), .int .i64 ((rd_T66 l0_0 (ji17)).f2), .int .u8 ((rd_T66 l0_0 (ji17)).f3)] 66 (0, 0))) ∧ zC (Below w.heap.size w wc))
      case first =>
        have H := HC41.out; clear HC41; by_cases c48 : t215 = x18_1
        · rw [if_pos c48] at H
          have c48b0 : (t215 == x18_1) = true := beq_iff_eq.mpr c48
          have c48b1 : (t215 != x18_1) = false := bne_eq_false_iff_eq.mpr c48
          clear c48; (first | rw [c48b0] | (simp only [zL, zM]; rw [c48b0]) | skip)
          have H' := zC.mk H
          clear H; go_wp2
          go_meet
          case rel => exact ⟨_, (t214), (x16_20), (by first | rfl | (simp; done) | (simp [*]; done)), (by first | rfl | (simp; done) | (simp [*]; done)), H', ⟨by have := HK1.out; have := HJ20.out; first | omega | exact Nat.le_refl _⟩, ⟨by (with_reducible repeat (first | refine zB ?_ _ | refine zD ?_ | refine zA ?_ _)); exact BK208.out⟩, ⟨by (with_reducible repeat (first | refine zB ?_ _ | refine zD ?_ | refine zA ?_ _)); exact BK209.out⟩, ⟨by (with_reducible repeat (first | refine zB ?_ _ | refine zD ?_ | refine zA ?_ _)); exact BK210.out⟩, ⟨by (with_reducible repeat (first | refine zB ?_ _ | refine zD ?_ | refine zA ?_ _)); exact BK211.out⟩, ⟨by (with_reducible repeat (first | refine zB ?_ _ | refine zD ?_ | refine zA ?_ _)); exact BK213.out⟩, ⟨by repeat (first | (with_reducible first | exact HB.out | apply zJ | apply zG | apply zI | refine zE ?_ GE208.out | refine zE ?_ GE209.out | refine zE ?_ GE210.out | refine zE ?_ GE211.out | refine zE ?_ GE213.out) | exact HB.out)⟩⟩
        rw [if_neg c48] at H; have c48b0 : (t215 == x18_1) = false := beq_eq_false_iff_ne.mpr c48
        have c48b1 : (t215 != x18_1) = true := bne_iff_ne.mpr c48
        (first | rw [c48b0] | (simp only [zL, zM]; rw [c48b0]) | skip)
        have H' := zC.mk H
        clear H; go_wp2
        go_meet
        case rel => exact ⟨_, (x15_1), (x17_1), (by first | rfl | (simp; done) | (simp [*]; done)), (by first | rfl | (simp; done) | (simp [*]; done)), H', ⟨by have := HK1.out; have := HJ20.out; first | omega | exact Nat.le_refl _⟩, ⟨by (with_reducible repeat (first | refine zB ?_ _ | refine zD ?_ | refine zA ?_ _)); exact BK208.out⟩, ⟨by (with_reducible repeat (first | refine zB ?_ _ | refine zD ?_ | refine zA ?_ _)); exact BK209.out⟩, ⟨by (with_reducible repeat (first | refine zB ?_ _ | refine zD ?_ | refine zA ?_ _)); exact BK210.out⟩, ⟨by (with_reducible repeat (first | refine zB ?_ _ | refine zD ?_ | refine zA ?_ _)); exact BK211.out⟩, ⟨by (with_reducible repeat (first | refine zB ?_ _ | refine zD ?_ | refine zA ?_ _)); exact BK213.out⟩, ⟨by repeat (first | (with_reducible first | exact HB.out | apply zJ | apply zG | apply zI | refine zE ?_ GE208.out | refine zE ?_ GE209.out | refine zE ?_ GE210.out | refine zE ?_ GE211.out | refine zE ?_ GE213.out) | exact HB.out)⟩⟩
      clear HC41; try clear c1
      try clear c2
      try clear p2
      try clear q2
      try clear hx2
      try clear c3
      try clear c4
      try clear p6
      try clear c11
      try clear c12
      try clear c13
      try clear c16
      try clear c16b0
      try clear c18
      try clear c18b0
      try clear c19
      try clear c19b0
      try clear p21
      try clear q21
      try clear hx21
      try clear c22
      try clear c23
      try clear c24
      try clear c27
      try clear c28
      try clear c29
      try clear c30
      try clear c34
      try clear c35
      try clear c38
      try clear c39
      try clear c39b0
      try clear c39b1
      try clear c42
      try clear c43
      try clear c44
      try clear c45
      try clear c48
      try clear c48b0
      try clear c48b1
      try clear hcz14_0
      try clear hcz14_1
      try clear hcz25_0
      try clear hcz25_1
      try clear hcz31_0
      try clear hcz31_1
      try clear hcz31_2
      try clear hcz31_3
      try clear hcz33_0
      try clear hcz33_1
      try clear hcz33_2
      try clear hcz33_3
      try clear hcz36_0
      try clear hcz36_1
      try clear hcz36_2
      try clear hcz36_3
      try clear hcz36_4
      try clear hcz36_5
      try clear hcz38_0
      try clear hcz38_1
      try clear hcz38_2
      try clear hcz38_3
      try clear hcz46_0
      try clear hcz46_1
      try clear hfz14_0
      try clear hfz14_1
      try clear hfz25_0
      try clear hfz25_1
      try clear hfz31_0
      try clear hfz31_1
      try clear hfz31_2
      try clear hfz31_3
      try clear hfz33_0
      try clear hfz33_1
      try clear hfz33_2
      try clear hfz33_3
      try clear hfz36_0
      try clear hfz36_1
      try clear hfz36_2
      try clear hfz36_3
      try clear hfz36_4
      try clear hfz36_5
      try clear hfz38_0
      try clear hfz38_1
      try clear hfz38_2
      try clear hfz38_3
      try clear hfz46_0
      try clear hfz46_1
      try clear hx212_0
      try clear hx212_1
      try clear hx212_2
      try clear hx212_3
      try clear p2
      try clear p21
      try clear p212
      try clear p6
      try clear q2
      try clear q21
      try clear q212
      obtain ⟨kq, x15_40, x17_40, rfl, rfl, HA, HJ40, BK208, BK209, BK210, BK211, BK213, HB⟩ := hcut; cases kq with
      | zero => exact absurd HA.out (by simp [best_next.j2])
      | succ kj40 =>
        have H := HA.out; clear HA; simp only [best_next.j2] at H; by_cases c49 : x15_40 > a5_0
        · rw [if_pos c49] at H
          have c49b0 : decide (a5_0 < x15_40) = true := decide_eq_true c49
          clear c49; simp only [Option.some.injEq, Prod.mk.injEq] at H; obtain ⟨rfl, rfl⟩ := H; have hnb50 := NB209_208.out; have hnc50 := NB208_209.out; have hnb51 := NB209_210.out; have hnc51 := NB210_209.out; have hnb52 := NB209_211.out; have hnc52 := NB211_209.out; have hnb53 := NB209_213.out; have hnc53 := NB213_209.out; have hcz54_0 : wc.cell? ⟨gb209, 0, none⟩ = some (.int .i64 a5_0) := (zF BK209.out 0).trans rfl
          have hcz54_1 : wc.cell? ⟨gb209, 1, none⟩ = some (.int .i64 a5_1) := (zF BK209.out 1).trans rfl
          have hcz54_2 : wc.cell? ⟨gb209, 2, none⟩ = some (.int .u8 a5_2) := (zF BK209.out 2).trans rfl
          have hcz54_3 : wc.cell? ⟨gb209, 3, none⟩ = some (.int .i64 a5_3) := (zF BK209.out 3).trans rfl
          have hcz54_4 : wc.cell? ⟨gb209, 4, none⟩ = some (.int .i64 a5_4) := (zF BK209.out 4).trans rfl
          have hcz54_5 : wc.cell? ⟨gb209, 5, none⟩ = some (.float .f64 a5_5) := (zF BK209.out 5).trans rfl
          have hfz54_0 := zH BK209.out 0; have hfz54_1 := zH BK209.out 1; have hfz54_2 := zH BK209.out 2; have hfz54_3 := zH BK209.out 3; have hfz54_4 := zH BK209.out 4; have hfz54_5 := zH BK209.out 5; have hnb55 := NB211_208.out; have hnc55 := NB208_211.out; have hnb56 := NB211_210.out; have hnc56 := NB210_211.out; have hnb57 := NB211_213.out; have hnc57 := NB213_211.out; have hcz58_0 : wc.cell? ⟨gb211, 0, none⟩ = some (.int .i64 x212000_1) := (zF BK211.out 0).trans rfl
          have hcz58_1 : wc.cell? ⟨gb211, 1, none⟩ = some (.int .i64 x212001_1) := (zF BK211.out 1).trans rfl
          have hfz58_0 := zH BK211.out 0; have hfz58_1 := zH BK211.out 1; have hnb59 := NB210_208.out; have hnc59 := NB208_210.out; have hnb60 := NB210_213.out; have hnc60 := NB213_210.out; have hcz61_0 : wc.cell? ⟨gb210, 0, none⟩ = some (.int .i64 0) := (zF BK210.out 0).trans rfl
          have hcz61_1 : wc.cell? ⟨gb210, 1, none⟩ = some (.int .i64 0) := (zF BK210.out 1).trans rfl
          have hfz61_0 := zH BK210.out 0; have hfz61_1 := zH BK210.out 1; go_wp2_with (first | ((with_reducible refine gate_store (t := 70) (p := 12) rfl ?_); refine store_event (t := 70) (p := 12) (v := ?vo_w62) (w1 := ((wc.setCell ⟨gb210, 0, none⟩ (.int .i64 x212000_1)).setCell ⟨gb210, 1, none⟩ (.int .i64 x212001_1))) ?hg ?ho ?hn ?hr ?_; (case ho => rfl); (case hg => rfl); (case hn => rfl); (case hr => first | (go_simp; done) | (go_simp; rfl)); intro w62 hw; have n0_ : zC (w62.heap[gb208]? = some (.cells #[.slice (some ad212) l0_0.length c0_0, .slice A0_1 l0_1.length c0_1] 31 (0, 0))) := ⟨(by rw [hw]; exact (by (with_reducible repeat (first | refine zB ?_ _ | refine zD ?_ | refine zA ?_ _)); refine zO ?_ NB208_210.out _; (with_reducible repeat (first | refine zB ?_ _ | refine zD ?_ | refine zA ?_ _)); refine zO ?_ NB208_210.out _; (with_reducible repeat (first | refine zB ?_ _ | refine zD ?_ | refine zA ?_ _)); exact BK208.out))⟩; have n1_ : zC (w62.heap[gb209]? = some (.cells #[.int .i64 a5_0, .int .i64 a5_1, .int .u8 a5_2, .int .i64 a5_3, .int .i64 a5_4, .float .f64 a5_5] 35 (0, 0))) := ⟨(by rw [hw]; exact (by (with_reducible repeat (first | refine zB ?_ _ | refine zD ?_ | refine zA ?_ _)); refine zO ?_ NB209_210.out _; (with_reducible repeat (first | refine zB ?_ _ | refine zD ?_ | refine zA ?_ _)); refine zO ?_ NB209_210.out _; (with_reducible repeat (first | refine zB ?_ _ | refine zD ?_ | refine zA ?_ _)); exact BK209.out))⟩; have n2_ : zC (w62.heap[gb210]? = some (.cells #[.int .i64 x212000_1, .int .i64 x212001_1] 70 (0, 0))) := ⟨(by rw [hw]; exact (by (with_reducible repeat (first | refine zB ?_ _ | refine zD ?_ | refine zA ?_ _)); refine blk_put (cs := #[.int .i64 x212000_1, .int .i64 0]) ?_ 1 _ rfl; (with_reducible repeat (first | refine zB ?_ _ | refine zD ?_ | refine zA ?_ _)); refine blk_put (cs := #[.int .i64 0, .int .i64 0]) ?_ 0 _ rfl; (with_reducible repeat (first | refine zB ?_ _ | refine zD ?_ | refine zA ?_ _)); exact BK210.out))⟩; have n3_ : zC (w62.heap[gb211]? = some (.cells #[.int .i64 x212000_1, .int .i64 x212001_1] 70 (0, 0))) := ⟨(by rw [hw]; exact (by (with_reducible repeat (first | refine zB ?_ _ | refine zD ?_ | refine zA ?_ _)); refine zO ?_ NB211_210.out _; (with_reducible repeat (first | refine zB ?_ _ | refine zD ?_ | refine zA ?_ _)); refine zO ?_ NB211_210.out _; (with_reducible repeat (first | refine zB ?_ _ | refine zD ?_ | refine zA ?_ _)); exact BK211.out))⟩; have n4_ : zC (w62.heap[gb213]? = some (.cells #[.int .i64 ((rd_T66 l0_0 (ji17)).f0), .int .i64 ((rd_T66 l0_0 (ji17)).f1), .int .i64 ((rd_T66 l0_0 (ji17)).f2), .int .u8 ((rd_T66 l0_0 (ji17)).f3)] 66 (0, 0))) := ⟨(by rw [hw]; exact (by (with_reducible repeat (first | refine zB ?_ _ | refine zD ?_ | refine zA ?_ _)); refine zO ?_ NB213_210.out _; (with_reducible repeat (first | refine zB ?_ _ | refine zD ?_ | refine zA ?_ _)); refine zO ?_ NB213_210.out _; (with_reducible repeat (first | refine zB ?_ _ | refine zD ?_ | refine zA ?_ _)); exact BK213.out))⟩; have n5_ : zC (Below w.heap.size w w62) := ⟨(by rw [hw]; exact (by repeat (first | (with_reducible first | exact HB.out | apply zJ | apply zG | apply zI | refine zE ?_ GE208.out | refine zE ?_ GE209.out | refine zE ?_ GE210.out | refine zE ?_ GE211.out | refine zE ?_ GE213.out) | exact HB.out)))⟩; clear hw; clear BK208; clear BK209; clear BK210; clear BK211; clear BK213; clear HB; have BK208 := n0_; have BK209 := n1_; have BK210 := n2_; have BK211 := n3_; have BK213 := n4_; have HB := n5_; clear n0_ n1_ n2_ n3_ n4_ n5_))
          refine bodyPost_ret (results_cell_row rfl _ _ gb210 70 #[.int .i64 x212000_1, .int .i64 x212001_1] (0, 0) _ rfl (by (with_reducible repeat (first | refine zB ?_ _ | refine zD ?_ | refine zA ?_ _)); exact BK210.out) Try.underlying70 rfl (by kernel_rfl)) rfl ?_
          exact ⟨by first | rfl | (simp [errW_none, errW_some] <;> rfl) | (simp only [← hji17]; first | rfl | (simp [errW_none, errW_some] <;> rfl)) | (simp [*, errW_none, errW_some] <;> rfl), by repeat (first | (with_reducible first | exact HB.out | apply zJ | apply zG | apply zI | refine zE ?_ GE208.out | refine zE ?_ GE209.out | refine zE ?_ GE210.out | refine zE ?_ GE211.out | refine zE ?_ GE213.out) | exact HB.out)⟩
        rw [if_neg c49] at H; have c49b0 : decide (a5_0 < x15_40) = false := decide_eq_false c49
        clear c49; replace H := Option.bind_eq_some_iff.mp H; obtain ⟨⟨t216, t217⟩, A630, H⟩ := H; replace H : (if 0 ≤ (wrap64 (x18_1 - a2)) then (if (wrap64 (x18_1 - a2)) < (l4.length : Int) then (if t217 = true then (if x18_1 < a3 then (best_next.j3 kj40 a1 a2 a3 l4 t214 x15_40 x16_20 x17_40 x18_1 t216 (decide (((rd_T70 l4 (wrap64 (x18_1 - a2))).f1) < 0)) l0_0 l0_1 a5_0 a5_1 a5_2 a5_3 a5_4 a5_5 x212000_1 x212001_1 ((rd_T70 l4 (wrap64 (x18_1 - a2))).f0) ((rd_T70 l4 (wrap64 (x18_1 - a2))).f1)) else (best_next.j3 kj40 a1 a2 a3 l4 t214 x15_40 x16_20 x17_40 x18_1 t216 false l0_0 l0_1 a5_0 a5_1 a5_2 a5_3 a5_4 a5_5 x212000_1 x212001_1 ((rd_T70 l4 (wrap64 (x18_1 - a2))).f0) ((rd_T70 l4 (wrap64 (x18_1 - a2))).f1))) else (best_next.j3 kj40 a1 a2 a3 l4 t214 x15_40 x16_20 x17_40 x18_1 t216 true l0_0 l0_1 a5_0 a5_1 a5_2 a5_3 a5_4 a5_5 x212000_1 x212001_1 ((rd_T70 l4 (wrap64 (x18_1 - a2))).f0) ((rd_T70 l4 (wrap64 (x18_1 - a2))).f1))) else (none)) else (none)) = some (r1, r2) := H; have A63 := zC.mk A630; clear A630; obtain ⟨ji64, hji64⟩ : ∃ j_ : Int, (wrap64 (x18_1 - a2)) = j_ := ⟨_, rfl⟩; replace H : (if 0 ≤ (ji64) then (if (ji64) < (l4.length : Int) then (if t217 = true then (if x18_1 < a3 then (best_next.j3 kj40 a1 a2 a3 l4 t214 x15_40 x16_20 x17_40 x18_1 t216 (decide (((rd_T70 l4 (ji64)).f1) < 0)) l0_0 l0_1 a5_0 a5_1 a5_2 a5_3 a5_4 a5_5 x212000_1 x212001_1 ((rd_T70 l4 (ji64)).f0) ((rd_T70 l4 (ji64)).f1)) else (best_next.j3 kj40 a1 a2 a3 l4 t214 x15_40 x16_20 x17_40 x18_1 t216 false l0_0 l0_1 a5_0 a5_1 a5_2 a5_3 a5_4 a5_5 x212000_1 x212001_1 ((rd_T70 l4 (ji64)).f0) ((rd_T70 l4 (ji64)).f1))) else (best_next.j3 kj40 a1 a2 a3 l4 t214 x15_40 x16_20 x17_40 x18_1 t216 true l0_0 l0_1 a5_0 a5_1 a5_2 a5_3 a5_4 a5_5 x212000_1 x212001_1 ((rd_T70 l4 (ji64)).f0) ((rd_T70 l4 (ji64)).f1))) else (none)) else (none)) = some (r1, r2) := by first | (rw [hji64] at H; exact H) | (simp only [hji64] at H ⊢; exact H)
        (try rw [hji64] at A63)
        have hji64w : (IntKind.i64.wrap (x18_1 - a2)) = ji64 := (zL _).trans hji64
        by_cases c65 : 0 ≤ (ji64)
        rotate_left
        · rw [if_neg c65] at H
          exact absurd H (by simp)
        rw [if_pos c65] at H; have c65b0 : decide (0 ≤ (ji64)) = true := decide_eq_true c65
        clear c65; by_cases c66 : (ji64) < (l4.length : Int)
        rotate_left
        · rw [if_neg c66] at H
          exact absurd H (by simp)
        rw [if_pos c66] at H; have c66b0 : decide ((ji64) < (l4.length : Int)) = true := decide_eq_true c66
        clear c66; have HC67 := zC.mk H; clear H; have hnb68 := NB209_208.out; have hnc68 := NB208_209.out; have hnb69 := NB209_210.out; have hnc69 := NB210_209.out; have hnb70 := NB209_211.out; have hnc70 := NB211_209.out; have hnb71 := NB209_213.out; have hnc71 := NB213_209.out; have hcz72_0 : wc.cell? ⟨gb209, 0, none⟩ = some (.int .i64 a5_0) := (zF BK209.out 0).trans rfl
        have hcz72_1 : wc.cell? ⟨gb209, 1, none⟩ = some (.int .i64 a5_1) := (zF BK209.out 1).trans rfl
        have hcz72_2 : wc.cell? ⟨gb209, 2, none⟩ = some (.int .u8 a5_2) := (zF BK209.out 2).trans rfl
        have hcz72_3 : wc.cell? ⟨gb209, 3, none⟩ = some (.int .i64 a5_3) := (zF BK209.out 3).trans rfl
        have hcz72_4 : wc.cell? ⟨gb209, 4, none⟩ = some (.int .i64 a5_4) := (zF BK209.out 4).trans rfl
        have hcz72_5 : wc.cell? ⟨gb209, 5, none⟩ = some (.float .f64 a5_5) := (zF BK209.out 5).trans rfl
        have hfz72_0 := zH BK209.out 0; have hfz72_1 := zH BK209.out 1; have hfz72_2 := zH BK209.out 2; have hfz72_3 := zH BK209.out 3; have hfz72_4 := zH BK209.out 4; have hfz72_5 := zH BK209.out 5; have hnb73 := NB208_210.out; have hnc73 := NB210_208.out; have hnb74 := NB208_211.out; have hnc74 := NB211_208.out; have hnb75 := NB208_213.out; have hnc75 := NB213_208.out; have hcz76_0 : wc.cell? ⟨gb208, 0, none⟩ = some (.slice (some ad212) l0_0.length c0_0) := (zF BK208.out 0).trans rfl
        have hcz76_1 : wc.cell? ⟨gb208, 1, none⟩ = some (.slice A0_1 l0_1.length c0_1) := (zF BK208.out 1).trans rfl
        have hfz76_0 := zH BK208.out 0; have hfz76_1 := zH BK208.out 1; go_upto_region 15 with (first | ((with_reducible refine gate_callee (f := 40) rfl ?_); refine goesL_ (some 66) rfl rfl Try.func40 (by kernel_rfl) rfl #[.agg #[.slice (some ad212) l0_0.length c0_0, .slice A0_1 l0_1.length c0_1], .int .i64 x18_1] rfl (by (try simp only [List.map_toArray, List.map_cons, List.map_nil]); first | done | rfl | (simp only [List.length_drop, List.length_take]; rfl)) ?_; (with_reducible refine (span_Ends.calls _ _ l0_0 _ _ l0_1 x18_1 t216 t217 _ ?side1 ?side2 ?side3 ?side4 A63.out).mono ?_); (case side1 => repeat (first | exact (Kd.C_below HR0_0.out HB.out) | (with_reducible refine Kd.C_alloc ?_ _) | (with_reducible refine Kd.C_drewN ?_ _) | (with_reducible refine Kd.C_drew ?_))); (case side2 => exact HC0_0.out); (case side3 => repeat (first | exact (Kd.C_below HR0_1.out HB.out) | (with_reducible refine Kd.C_alloc ?_ _) | (with_reducible refine Kd.C_drewN ?_ _) | (with_reducible refine Kd.C_drew ?_))); (case side4 => exact HC0_1.out); rintro e w77 ⟨rfl, hb⟩; refine ⟨_, rfl, ?_⟩; have n0_ := zC.mk (zK (g := gb208) (o := .cells #[.slice (some ad212) l0_0.length c0_0, .slice A0_1 l0_1.length c0_1] 31 (0, 0)) (by (with_reducible repeat (first | refine zB ?_ _ | refine zD ?_ | refine zA ?_ _)); exact BK208.out) hb); have n1_ := zC.mk (zK (g := gb209) (o := .cells #[.int .i64 a5_0, .int .i64 a5_1, .int .u8 a5_2, .int .i64 a5_3, .int .i64 a5_4, .float .f64 a5_5] 35 (0, 0)) (by (with_reducible repeat (first | refine zB ?_ _ | refine zD ?_ | refine zA ?_ _)); exact BK209.out) hb); have n2_ := zC.mk (zK (g := gb210) (o := .cells #[.int .i64 0, .int .i64 0] 70 (0, 0)) (by (with_reducible repeat (first | refine zB ?_ _ | refine zD ?_ | refine zA ?_ _)); exact BK210.out) hb); have n3_ := zC.mk (zK (g := gb211) (o := .cells #[.int .i64 x212000_1, .int .i64 x212001_1] 70 (0, 0)) (by (with_reducible repeat (first | refine zB ?_ _ | refine zD ?_ | refine zA ?_ _)); exact BK211.out) hb); have n4_ := zC.mk (zK (g := gb213) (o := .cells #[.int .i64 ((rd_T66 l0_0 (ji17)).f0), .int .i64 ((rd_T66 l0_0 (ji17)).f1), .int .i64 ((rd_T66 l0_0 (ji17)).f2), .int .u8 ((rd_T66 l0_0 (ji17)).f3)] 66 (0, 0)) (by (with_reducible repeat (first | refine zB ?_ _ | refine zD ?_ | refine zA ?_ _)); exact BK213.out) hb); have n5_ := zC.mk (zQ (by repeat (first | (with_reducible first | exact HB.out | apply zJ | apply zG | apply zI | refine zE ?_ GE208.out | refine zE ?_ GE209.out | refine zE ?_ GE210.out | refine zE ?_ GE211.out | refine zE ?_ GE213.out) | exact HB.out)) hb); clear BK208; clear BK209; clear BK210; clear BK211; clear BK213; clear HB; have BK208 := n0_; have BK209 := n1_; have BK210 := n2_; have BK211 := n3_; have BK213 := n4_; have HB := n5_; clear n0_ n1_ n2_ n3_ n4_ n5_; (try clear hb); (try clear hb2); (try clear hk); (try clear hi); have p218 : 0 ≤ ((ji64) : Int) := of_decide_eq_true (by first | (with_reducible assumption) | assumption); have q218 : (ji64) < (l4.length : Int) := of_decide_eq_true (by first | (with_reducible assumption) | assumption); obtain ⟨ad218, e218, hx218_0, hx218_1⟩ := at_T70 HR4.out (ji64) p218 q218; cases e218; replace hx218_0 := (HB.out.cell (World.block_lt_of_cell? w _ hx218_0)).trans hx218_0; replace hx218_1 := (HB.out.cell (World.block_lt_of_cell? w _ hx218_1)).trans hx218_1; replace p218 := eq_true p218; replace q218 := eq_true q218) | ((with_reducible refine gate_dst (N := 22) rfl ?_); refine box_event ?hg (N := 22) ?hd (cs := #[.int .i64 0, .int .i64 0]) (t := 70) ?hr ?_; (case hd => rfl); (case hg => rfl); (case hr => first | (go_simp; done) | (go_simp; rfl)); intro gb219 hg w78 hbox hb; have n0_ := zC.mk (zK (g := gb208) (o := .cells #[.slice (some ad212) l0_0.length c0_0, .slice A0_1 l0_1.length c0_1] 31 (0, 0)) (by (with_reducible repeat (first | refine zB ?_ _ | refine zD ?_ | refine zA ?_ _)); exact BK208.out) hb); have n1_ := zC.mk (zK (g := gb209) (o := .cells #[.int .i64 a5_0, .int .i64 a5_1, .int .u8 a5_2, .int .i64 a5_3, .int .i64 a5_4, .float .f64 a5_5] 35 (0, 0)) (by (with_reducible repeat (first | refine zB ?_ _ | refine zD ?_ | refine zA ?_ _)); exact BK209.out) hb); have n2_ := zC.mk (zK (g := gb210) (o := .cells #[.int .i64 0, .int .i64 0] 70 (0, 0)) (by (with_reducible repeat (first | refine zB ?_ _ | refine zD ?_ | refine zA ?_ _)); exact BK210.out) hb); have n3_ := zC.mk (zK (g := gb211) (o := .cells #[.int .i64 x212000_1, .int .i64 x212001_1] 70 (0, 0)) (by (with_reducible repeat (first | refine zB ?_ _ | refine zD ?_ | refine zA ?_ _)); exact BK211.out) hb); have n4_ := zC.mk (zK (g := gb213) (o := .cells #[.int .i64 ((rd_T66 l0_0 (ji17)).f0), .int .i64 ((rd_T66 l0_0 (ji17)).f1), .int .i64 ((rd_T66 l0_0 (ji17)).f2), .int .u8 ((rd_T66 l0_0 (ji17)).f3)] 66 (0, 0)) (by (with_reducible repeat (first | refine zB ?_ _ | refine zD ?_ | refine zA ?_ _)); exact BK213.out) hb); have n5_ := zC.mk (zQ (by repeat (first | (with_reducible first | exact HB.out | apply zJ | apply zG | apply zI | refine zE ?_ GE208.out | refine zE ?_ GE209.out | refine zE ?_ GE210.out | refine zE ?_ GE211.out | refine zE ?_ GE213.out) | exact HB.out)) hb); have n6_ := zC.mk (hbox); have n7_ := zC.mk ((by rw [hg]; exact (zP (by repeat (first | (with_reducible first | exact HB.out | apply zJ | apply zG | apply zI | refine zE ?_ GE208.out | refine zE ?_ GE209.out | refine zE ?_ GE210.out | refine zE ?_ GE211.out | refine zE ?_ GE213.out) | exact HB.out))) : w.heap.size ≤ gb219)); have n8_ := zC.mk ((by rw [hg]; exact (zP (by repeat (first | (with_reducible first | exact HB.out | apply zJ | apply zG | apply zI | refine zE ?_ GE208.out | refine zE ?_ GE209.out | refine zE ?_ GE210.out | refine zE ?_ GE211.out | refine zE ?_ GE213.out) | exact HB.out))) : w.heap.size ≤ gb219)); have n9_ := zC.mk ((by rw [hg]; exact Nat.ne_of_lt (blk_lt (g := gb208) (o := .cells #[.slice (some ad212) l0_0.length c0_0, .slice A0_1 l0_1.length c0_1] 31 (0, 0)) (by (with_reducible repeat (first | refine zB ?_ _ | refine zD ?_ | refine zA ?_ _)); exact BK208.out)) : gb208 ≠ gb219)); have n10_ := zC.mk ((by rw [hg]; exact Nat.ne_of_gt (blk_lt (g := gb208) (o := .cells #[.slice (some ad212) l0_0.length c0_0, .slice A0_1 l0_1.length c0_1] 31 (0, 0)) (by (with_reducible repeat (first | refine zB ?_ _ | refine zD ?_ | refine zA ?_ _)); exact BK208.out)) : gb219 ≠ gb208)); have n11_ := zC.mk ((by rw [hg]; exact Nat.ne_of_lt (blk_lt (g := gb209) (o := .cells #[.int .i64 a5_0, .int .i64 a5_1, .int .u8 a5_2, .int .i64 a5_3, .int .i64 a5_4, .float .f64 a5_5] 35 (0, 0)) (by (with_reducible repeat (first | refine zB ?_ _ | refine zD ?_ | refine zA ?_ _)); exact BK209.out)) : gb209 ≠ gb219)); have n12_ := zC.mk ((by rw [hg]; exact Nat.ne_of_gt (blk_lt (g := gb209) (o := .cells #[.int .i64 a5_0, .int .i64 a5_1, .int .u8 a5_2, .int .i64 a5_3, .int .i64 a5_4, .float .f64 a5_5] 35 (0, 0)) (by (with_reducible repeat (first | refine zB ?_ _ | refine zD ?_ | refine zA ?_ _)); exact BK209.out)) : gb219 ≠ gb209)); have n13_ := zC.mk ((by rw [hg]; exact Nat.ne_of_lt (blk_lt (g := gb210) (o := .cells #[.int .i64 0, .int .i64 0] 70 (0, 0)) (by (with_reducible repeat (first | refine zB ?_ _ | refine zD ?_ | refine zA ?_ _)); exact BK210.out)) : gb210 ≠ gb219)); have n14_ := zC.mk ((by rw [hg]; exact Nat.ne_of_gt (blk_lt (g := gb210) (o := .cells #[.int .i64 0, .int .i64 0] 70 (0, 0)) (by (with_reducible repeat (first | refine zB ?_ _ | refine zD ?_ | refine zA ?_ _)); exact BK210.out)) : gb219 ≠ gb210)); have n15_ := zC.mk ((by rw [hg]; exact Nat.ne_of_lt (blk_lt (g := gb211) (o := .cells #[.int .i64 x212000_1, .int .i64 x212001_1] 70 (0, 0)) (by (with_reducible repeat (first | refine zB ?_ _ | refine zD ?_ | refine zA ?_ _)); exact BK211.out)) : gb211 ≠ gb219)); have n16_ := zC.mk ((by rw [hg]; exact Nat.ne_of_gt (blk_lt (g := gb211) (o := .cells #[.int .i64 x212000_1, .int .i64 x212001_1] 70 (0, 0)) (by (with_reducible repeat (first | refine zB ?_ _ | refine zD ?_ | refine zA ?_ _)); exact BK211.out)) : gb219 ≠ gb211)); have n17_ := zC.mk ((by rw [hg]; exact Nat.ne_of_lt (blk_lt (g := gb213) (o := .cells #[.int .i64 ((rd_T66 l0_0 (ji17)).f0), .int .i64 ((rd_T66 l0_0 (ji17)).f1), .int .i64 ((rd_T66 l0_0 (ji17)).f2), .int .u8 ((rd_T66 l0_0 (ji17)).f3)] 66 (0, 0)) (by (with_reducible repeat (first | refine zB ?_ _ | refine zD ?_ | refine zA ?_ _)); exact BK213.out)) : gb213 ≠ gb219)); have n18_ := zC.mk ((by rw [hg]; exact Nat.ne_of_gt (blk_lt (g := gb213) (o := .cells #[.int .i64 ((rd_T66 l0_0 (ji17)).f0), .int .i64 ((rd_T66 l0_0 (ji17)).f1), .int .i64 ((rd_T66 l0_0 (ji17)).f2), .int .u8 ((rd_T66 l0_0 (ji17)).f3)] 66 (0, 0)) (by (with_reducible repeat (first | refine zB ?_ _ | refine zD ?_ | refine zA ?_ _)); exact BK213.out)) : gb219 ≠ gb213)); clear BK208; clear BK209; clear BK210; clear BK211; clear BK213; clear HB; have BK208 := n0_; have BK209 := n1_; have BK210 := n2_; have BK211 := n3_; have BK213 := n4_; have HB := n5_; have BK219 := n6_; have GW219 := n7_; have GE219 := n8_; have NB208_219 := n9_; have NB219_208 := n10_; have NB209_219 := n11_; have NB219_209 := n12_; have NB210_219 := n13_; have NB219_210 := n14_; have NB211_219 := n15_; have NB219_211 := n16_; have NB213_219 := n17_; have NB219_213 := n18_; clear n0_ n1_ n2_ n3_ n4_ n5_ n6_ n7_ n8_ n9_ n10_ n11_ n12_ n13_ n14_ n15_ n16_ n17_ n18_; clear hb hbox hg; have hnb79 := NB219_208.out; have hnc79 := NB208_219.out; have hnb80 := NB219_209.out; have hnc80 := NB209_219.out; have hnb81 := NB219_210.out; have hnc81 := NB210_219.out; have hnb82 := NB219_211.out; have hnc82 := NB211_219.out; have hnb83 := NB219_213.out; have hnc83 := NB213_219.out; have hcz84_0 : w78.cell? ⟨gb219, 0, none⟩ = some (.int .i64 0) := (zF BK219.out 0).trans rfl; have hcz84_1 : w78.cell? ⟨gb219, 1, none⟩ = some (.int .i64 0) := (zF BK219.out 1).trans rfl; have hfz84_0 := zH BK219.out 0; have hfz84_1 := zH BK219.out 1) | ((with_reducible refine gate_store (t := 70) (p := 22) rfl ?_); refine store_event (t := 70) (p := 22) (v := ?vo_w85) (w1 := ((w78.setCell ⟨gb219, 0, none⟩ (.int .i64 ((rd_T70 l4 (ji64)).f0))).setCell ⟨gb219, 1, none⟩ (.int .i64 ((rd_T70 l4 (ji64)).f1)))) ?hg ?ho ?hn ?hr ?_; (case ho => rfl); (case hg => rfl); (case hn => rfl); (case hr => first | (go_simp; done) | (go_simp; rfl)); intro w85 hw; have n0_ : zC (w85.heap[gb208]? = some (.cells #[.slice (some ad212) l0_0.length c0_0, .slice A0_1 l0_1.length c0_1] 31 (0, 0))) := ⟨(by rw [hw]; exact (by (with_reducible repeat (first | refine zB ?_ _ | refine zD ?_ | refine zA ?_ _)); refine zO ?_ NB208_219.out _; (with_reducible repeat (first | refine zB ?_ _ | refine zD ?_ | refine zA ?_ _)); refine zO ?_ NB208_219.out _; (with_reducible repeat (first | refine zB ?_ _ | refine zD ?_ | refine zA ?_ _)); exact BK208.out))⟩; have n1_ : zC (w85.heap[gb209]? = some (.cells #[.int .i64 a5_0, .int .i64 a5_1, .int .u8 a5_2, .int .i64 a5_3, .int .i64 a5_4, .float .f64 a5_5] 35 (0, 0))) := ⟨(by rw [hw]; exact (by (with_reducible repeat (first | refine zB ?_ _ | refine zD ?_ | refine zA ?_ _)); refine zO ?_ NB209_219.out _; (with_reducible repeat (first | refine zB ?_ _ | refine zD ?_ | refine zA ?_ _)); refine zO ?_ NB209_219.out _; (with_reducible repeat (first | refine zB ?_ _ | refine zD ?_ | refine zA ?_ _)); exact BK209.out))⟩; have n2_ : zC (w85.heap[gb210]? = some (.cells #[.int .i64 0, .int .i64 0] 70 (0, 0))) := ⟨(by rw [hw]; exact (by (with_reducible repeat (first | refine zB ?_ _ | refine zD ?_ | refine zA ?_ _)); refine zO ?_ NB210_219.out _; (with_reducible repeat (first | refine zB ?_ _ | refine zD ?_ | refine zA ?_ _)); refine zO ?_ NB210_219.out _; (with_reducible repeat (first | refine zB ?_ _ | refine zD ?_ | refine zA ?_ _)); exact BK210.out))⟩; have n3_ : zC (w85.heap[gb211]? = some (.cells #[.int .i64 x212000_1, .int .i64 x212001_1] 70 (0, 0))) := ⟨(by rw [hw]; exact (by (with_reducible repeat (first | refine zB ?_ _ | refine zD ?_ | refine zA ?_ _)); refine zO ?_ NB211_219.out _; (with_reducible repeat (first | refine zB ?_ _ | refine zD ?_ | refine zA ?_ _)); refine zO ?_ NB211_219.out _; (with_reducible repeat (first | refine zB ?_ _ | refine zD ?_ | refine zA ?_ _)); exact BK211.out))⟩; have n4_ : zC (w85.heap[gb213]? = some (.cells #[.int .i64 ((rd_T66 l0_0 (ji17)).f0), .int .i64 ((rd_T66 l0_0 (ji17)).f1), .int .i64 ((rd_T66 l0_0 (ji17)).f2), .int .u8 ((rd_T66 l0_0 (ji17)).f3)] 66 (0, 0))) := ⟨(by rw [hw]; exact (by (with_reducible repeat (first | refine zB ?_ _ | refine zD ?_ | refine zA ?_ _)); refine zO ?_ NB213_219.out _; (with_reducible repeat (first | refine zB ?_ _ | refine zD ?_ | refine zA ?_ _)); refine zO ?_ NB213_219.out _; (with_reducible repeat (first | refine zB ?_ _ | refine zD ?_ | refine zA ?_ _)); exact BK213.out))⟩; have n5_ : zC (w85.heap[gb219]? = some (.cells #[.int .i64 ((rd_T70 l4 (ji64)).f0), .int .i64 ((rd_T70 l4 (ji64)).f1)] 70 (0, 0))) := ⟨(by rw [hw]; exact (by (with_reducible repeat (first | refine zB ?_ _ | refine zD ?_ | refine zA ?_ _)); refine blk_put (cs := #[.int .i64 ((rd_T70 l4 (ji64)).f0), .int .i64 0]) ?_ 1 _ rfl; (with_reducible repeat (first | refine zB ?_ _ | refine zD ?_ | refine zA ?_ _)); refine blk_put (cs := #[.int .i64 0, .int .i64 0]) ?_ 0 _ rfl; (with_reducible repeat (first | refine zB ?_ _ | refine zD ?_ | refine zA ?_ _)); exact BK219.out))⟩; have n6_ : zC (Below w.heap.size w w85) := ⟨(by rw [hw]; exact (by repeat (first | (with_reducible first | exact HB.out | apply zJ | apply zG | apply zI | refine zE ?_ GE208.out | refine zE ?_ GE209.out | refine zE ?_ GE210.out | refine zE ?_ GE211.out | refine zE ?_ GE213.out | refine zE ?_ GE219.out) | exact HB.out)))⟩; clear hw; clear BK208; clear BK209; clear BK210; clear BK211; clear BK213; clear BK219; clear HB; have BK208 := n0_; have BK209 := n1_; have BK210 := n2_; have BK211 := n3_; have BK213 := n4_; have BK219 := n5_; have HB := n6_; clear n0_ n1_ n2_ n3_ n4_ n5_ n6_))
        (try simp only [Act.put, sA_, sB_, sC_])
        go_cut [86] (fun v86 wc => ∃ (kq : Nat) (x86_66 : Bool), v86 = .bool x86_66 ∧ zC (best_next.j3 kq a1 a2 a3 l4 t214 x15_40 x16_20 x17_40 x18_1 t216 x86_66 l0_0 l0_1 a5_0 a5_1 a5_2 a5_3 a5_4 a5_5 x212000_1 x212001_1 ((rd_T70 l4 (ji64)).f0) ((rd_T70 l4 (ji64)).f1) = some (r1, r2)) ∧ zC (kq ≤ kj40) ∧ zC (wc.heap[gb208]? = some (.cells #[(.slice (some ad212) l0_0.length c0_0), (.slice A0_1 l0_1.length c0_1)] 31 (0, 0))) ∧ zC (wc.heap[gb209]? = some (.cells #[.int .i64 a5_0, .int .i64 a5_1, .int .u8 a5_2, .int .i64 a5_3, .int .i64 a5_4, .float .f64 a5_5] 35 (0, 0))) ∧ zC (wc.heap[gb210]? = some (.cells #[.int .i64 0, .int .i64 0] 70 (0, 0))) ∧ zC (wc.heap[gb211]? = some (.cells #[.int .i64 x212000_1, .int .i64 x212001_1] 70 (0, 0))) ∧ zC (wc.heap[gb213]? = some (.cells #[.int .i64 ((rd_T66 l0_0 (ji17)).f0), .int .i64 ((rd_T66 l0_0 (ji17)).f1), .int .i64 ((rd_T66 l0_0 (ji17)).f2), .int .u8 ((rd_T66 l0_0 (ji17)).f3)] 66 (0, 0))) ∧ zC (wc.heap[gb219]? = some (.cells #[.int .i64 ((rd_T70 l4 (ji64)).f0), .int .i64 ((rd_T70 l4 (ji64)).f1)] 70 (0, 0))) ∧ zC (Below w.heap.size w wc))
        case first =>
          have H := HC67.out; clear HC67; by_cases c86 : t217 = true
          rotate_left
          · replace c86 := Bool.eq_false_iff.mpr c86
            subst c86; have H1 : (best_next.j3 kj40 a1 a2 a3 l4 t214 x15_40 x16_20 x17_40 x18_1 t216 true l0_0 l0_1 a5_0 a5_1 a5_2 a5_3 a5_4 a5_5 x212000_1 x212001_1 ((rd_T70 l4 (ji64)).f0) ((rd_T70 l4 (ji64)).f1)) = some (r1, r2) := by rw [if_neg (show ¬ (false = true) by decide)] at H; exact H
            clear H; have H := H1; clear H1; have H' := zC.mk H
            clear H; go_wp2
            go_meet
            case rel => exact ⟨_, (true), (by first | rfl | (simp; done) | (simp [*]; done)), H', ⟨by have := HK1.out; have := HJ20.out; have := HJ40.out; first | omega | exact Nat.le_refl _⟩, ⟨by (with_reducible repeat (first | refine zB ?_ _ | refine zD ?_ | refine zA ?_ _)); exact BK208.out⟩, ⟨by (with_reducible repeat (first | refine zB ?_ _ | refine zD ?_ | refine zA ?_ _)); exact BK209.out⟩, ⟨by (with_reducible repeat (first | refine zB ?_ _ | refine zD ?_ | refine zA ?_ _)); exact BK210.out⟩, ⟨by (with_reducible repeat (first | refine zB ?_ _ | refine zD ?_ | refine zA ?_ _)); exact BK211.out⟩, ⟨by (with_reducible repeat (first | refine zB ?_ _ | refine zD ?_ | refine zA ?_ _)); exact BK213.out⟩, ⟨by (with_reducible repeat (first | refine zB ?_ _ | refine zD ?_ | refine zA ?_ _)); exact BK219.out⟩, ⟨by repeat (first | (with_reducible first | exact HB.out | apply zJ | apply zG | apply zI | refine zE ?_ GE208.out | refine zE ?_ GE209.out | refine zE ?_ GE210.out | refine zE ?_ GE211.out | refine zE ?_ GE213.out | refine zE ?_ GE219.out) | exact HB.out)⟩⟩
          subst c86; have H1 : (if x18_1 < a3 then (best_next.j3 kj40 a1 a2 a3 l4 t214 x15_40 x16_20 x17_40 x18_1 t216 (decide (((rd_T70 l4 (ji64)).f1) < 0)) l0_0 l0_1 a5_0 a5_1 a5_2 a5_3 a5_4 a5_5 x212000_1 x212001_1 ((rd_T70 l4 (ji64)).f0) ((rd_T70 l4 (ji64)).f1)) else (best_next.j3 kj40 a1 a2 a3 l4 t214 x15_40 x16_20 x17_40 x18_1 t216 false l0_0 l0_1 a5_0 a5_1 a5_2 a5_3 a5_4 a5_5 x212000_1 x212001_1 ((rd_T70 l4 (ji64)).f0) ((rd_T70 l4 (ji64)).f1))) = some (r1, r2) := by rw [if_pos rfl] at H; exact H
          clear H; have H := H1; clear H1; by_cases c87 : x18_1 < a3
          rotate_left
          · rw [if_neg c87] at H
            have c87b0 : decide (x18_1 < a3) = false := decide_eq_false c87
            clear c87; (first | rw [c87b0] | (simp only [zL, zM]; rw [c87b0]) | skip)
            have H' := zC.mk H
            clear H; go_wp2
            go_meet
            case rel => exact ⟨_, (false), (by first | rfl | (simp; done) | (simp [*]; done)), H', ⟨by have := HK1.out; have := HJ20.out; have := HJ40.out; first | omega | exact Nat.le_refl _⟩, ⟨by (with_reducible repeat (first | refine zB ?_ _ | refine zD ?_ | refine zA ?_ _)); exact BK208.out⟩, ⟨by (with_reducible repeat (first | refine zB ?_ _ | refine zD ?_ | refine zA ?_ _)); exact BK209.out⟩, ⟨by (with_reducible repeat (first | refine zB ?_ _ | refine zD ?_ | refine zA ?_ _)); exact BK210.out⟩, ⟨by (with_reducible repeat (first | refine zB ?_ _ | refine zD ?_ | refine zA ?_ _)); exact BK211.out⟩, ⟨by (with_reducible repeat (first | refine zB ?_ _ | refine zD ?_ | refine zA ?_ _)); exact BK213.out⟩, ⟨by (with_reducible repeat (first | refine zB ?_ _ | refine zD ?_ | refine zA ?_ _)); exact BK219.out⟩, ⟨by repeat (first | (with_reducible first | exact HB.out | apply zJ | apply zG | apply zI | refine zE ?_ GE208.out | refine zE ?_ GE209.out | refine zE ?_ GE210.out | refine zE ?_ GE211.out | refine zE ?_ GE213.out | refine zE ?_ GE219.out) | exact HB.out)⟩⟩
          rw [if_pos c87] at H; have c87b0 : decide (x18_1 < a3) = true := decide_eq_true c87
          clear c87; (first | rw [c87b0] | (simp only [zL, zM]; rw [c87b0]) | skip)
          have H' := zC.mk H
          clear H; have hnb88 := NB219_208.out; have hnc88 := NB208_219.out; have hnb89 := NB219_209.out; have hnc89 := NB209_219.out; have hnb90 := NB219_210.out; have hnc90 := NB210_219.out; have hnb91 := NB219_211.out; have hnc91 := NB211_219.out; have hnb92 := NB219_213.out; have hnc92 := NB213_219.out; have hcz93_0 : w85.cell? ⟨gb219, 0, none⟩ = some (.int .i64 ((rd_T70 l4 (ji64)).f0)) := (zF BK219.out 0).trans rfl
          have hcz93_1 : w85.cell? ⟨gb219, 1, none⟩ = some (.int .i64 ((rd_T70 l4 (ji64)).f1)) := (zF BK219.out 1).trans rfl
          have hfz93_0 := zH BK219.out 0; have hfz93_1 := zH BK219.out 1; go_wp2
          go_meet
          case rel => exact ⟨_, (decide (((rd_T70 l4 (ji64)).f1) < 0)), (by first | rfl | (simp; done) | (simp only [← hji64] <;> (first | rfl | simp)) | (simp [*]; done)), H', ⟨by have := HK1.out; have := HJ20.out; have := HJ40.out; first | omega | exact Nat.le_refl _⟩, ⟨by (with_reducible repeat (first | refine zB ?_ _ | refine zD ?_ | refine zA ?_ _)); exact BK208.out⟩, ⟨by (with_reducible repeat (first | refine zB ?_ _ | refine zD ?_ | refine zA ?_ _)); exact BK209.out⟩, ⟨by (with_reducible repeat (first | refine zB ?_ _ | refine zD ?_ | refine zA ?_ _)); exact BK210.out⟩, ⟨by (with_reducible repeat (first | refine zB ?_ _ | refine zD ?_ | refine zA ?_ _)); exact BK211.out⟩, ⟨by (with_reducible repeat (first | refine zB ?_ _ | refine zD ?_ | refine zA ?_ _)); exact BK213.out⟩, ⟨by (with_reducible repeat (first | refine zB ?_ _ | refine zD ?_ | refine zA ?_ _)); exact BK219.out⟩, ⟨by repeat (first | (with_reducible first | exact HB.out | apply zJ | apply zG | apply zI | refine zE ?_ GE208.out | refine zE ?_ GE209.out | refine zE ?_ GE210.out | refine zE ?_ GE211.out | refine zE ?_ GE213.out | refine zE ?_ GE219.out) | exact HB.out)⟩⟩
        clear HC67; try clear c1
        try clear c2
        try clear p2
        try clear q2
        try clear hx2
        try clear c3
        try clear c4
        try clear c5
        try clear c6
        try clear p6
        try clear c7
        try clear c8
        try clear c9
        try clear c11
        try clear c12
        try clear c13
        try clear c16
        try clear c16b0
        try clear c18
        try clear c18b0
        try clear c19
        try clear c19b0
        try clear p21
        try clear q21
        try clear hx21
        try clear c22
        try clear c23
        try clear c24
        try clear c27
        try clear c28
        try clear c29
        try clear c30
        try clear c34
        try clear c35
        try clear c38
        try clear c39
        try clear c39b0
        try clear c39b1
        try clear c40
        try clear c42
        try clear c43
        try clear c44
        try clear c45
        try clear c48
        try clear c48b0
        try clear c48b1
        try clear c49
        try clear c49b0
        try clear c50
        try clear c51
        try clear c52
        try clear c53
        try clear c55
        try clear c56
        try clear c57
        try clear c59
        try clear c60
        try clear p64
        try clear c65
        try clear c65b0
        try clear c66
        try clear c66b0
        try clear c68
        try clear c69
        try clear c70
        try clear c71
        try clear c73
        try clear c74
        try clear c75
        try clear c79
        try clear c80
        try clear c81
        try clear c82
        try clear c83
        try clear c86
        try clear c87
        try clear c87b0
        try clear c88
        try clear c89
        try clear c90
        try clear c91
        try clear c92
        try clear hcz14_0
        try clear hcz14_1
        try clear hcz25_0
        try clear hcz25_1
        try clear hcz31_0
        try clear hcz31_1
        try clear hcz31_2
        try clear hcz31_3
        try clear hcz33_0
        try clear hcz33_1
        try clear hcz33_2
        try clear hcz33_3
        try clear hcz36_0
        try clear hcz36_1
        try clear hcz36_2
        try clear hcz36_3
        try clear hcz36_4
        try clear hcz36_5
        try clear hcz38_0
        try clear hcz38_1
        try clear hcz38_2
        try clear hcz38_3
        try clear hcz46_0
        try clear hcz46_1
        try clear hcz54_0
        try clear hcz54_1
        try clear hcz54_2
        try clear hcz54_3
        try clear hcz54_4
        try clear hcz54_5
        try clear hcz58_0
        try clear hcz58_1
        try clear hcz61_0
        try clear hcz61_1
        try clear hcz72_0
        try clear hcz72_1
        try clear hcz72_2
        try clear hcz72_3
        try clear hcz72_4
        try clear hcz72_5
        try clear hcz76_0
        try clear hcz76_1
        try clear hcz84_0
        try clear hcz84_1
        try clear hcz93_0
        try clear hcz93_1
        try clear hfz14_0
        try clear hfz14_1
        try clear hfz25_0
        try clear hfz25_1
        try clear hfz31_0
        try clear hfz31_1
        try clear hfz31_2
        try clear hfz31_3
        try clear hfz33_0
        try clear hfz33_1
        try clear hfz33_2
        try clear hfz33_3
        try clear hfz36_0
        try clear hfz36_1
        try clear hfz36_2
        try clear hfz36_3
        try clear hfz36_4
        try clear hfz36_5
        try clear hfz38_0
        try clear hfz38_1
        try clear hfz38_2
        try clear hfz38_3
        try clear hfz46_0
        try clear hfz46_1
        try clear hfz54_0
        try clear hfz54_1
        try clear hfz54_2
        try clear hfz54_3
        try clear hfz54_4
        try clear hfz54_5
        try clear hfz58_0
        try clear hfz58_1
        try clear hfz61_0
        try clear hfz61_1
        try clear hfz72_0
        try clear hfz72_1
        try clear hfz72_2
        try clear hfz72_3
        try clear hfz72_4
        try clear hfz72_5
        try clear hfz76_0
        try clear hfz76_1
        try clear hfz84_0
        try clear hfz84_1
        try clear hfz93_0
        try clear hfz93_1
        try clear hx212_0
        try clear hx212_1
        try clear hx212_2
        try clear hx212_3
        try clear hx218_0
        try clear hx218_1
        try clear p2
        try clear p21
        try clear p212
        try clear p218
        try clear p6
        try clear q2
        try clear q21
        try clear q212
        try clear q218
        obtain ⟨kq, x86_66, rfl, HA, HJ66, BK208, BK209, BK210, BK211, BK213, BK219, HB⟩ := hcut; cases kq with
        | zero => exact absurd HA.out (by simp [best_next.j3])
        | succ kj66 =>
          have H := HA.out; clear HA; simp only [best_next.j3] at H; by_cases c94 : x86_66 = true
          · subst c94
            have H1 : (best_next.l0 kj66 a1 a2 a3 l4 t214 x15_40 x16_20 x17_40 (wrap64 (x18_1 + 1)) l0_0 l0_1 a5_0 a5_1 a5_2 a5_3 a5_4 a5_5 x212000_1 x212001_1) = some (r1, r2) := by rw [if_pos rfl] at H; exact H
            clear H; have H := H1; clear H1; have H' := zC.mk H
            clear H; go_wp2
            go_roundg kj66
            case measure => have := HK1.out; have := HJ20.out; have := HJ40.out; have := HJ66.out; omega
            case rel => exact ⟨(t214), (x15_40), (x16_20), (x17_40), (wrap64 (x18_1 + 1)), (x212000_1), (x212001_1), (by first | rfl | (simp; done) | (simp [*]; done)), (by first | rfl | (simp; done) | (simp [*]; done)), (by first | rfl | (simp; done) | (simp [*]; done)), (by first | rfl | (simp; done) | (simp [*]; done)), (by first | rfl | (simp; done) | (simp [*]; done)), H', ⟨by have := HK1.out; have := HJ20.out; have := HJ40.out; have := HJ66.out; omega⟩, ⟨by (with_reducible repeat (first | refine zB ?_ _ | refine zD ?_ | refine zA ?_ _)); exact BK208.out⟩, ⟨by (with_reducible repeat (first | refine zB ?_ _ | refine zD ?_ | refine zA ?_ _)); exact BK209.out⟩, ⟨by (with_reducible repeat (first | refine zB ?_ _ | refine zD ?_ | refine zA ?_ _)); exact BK210.out⟩, ⟨by (with_reducible repeat (first | refine zB ?_ _ | refine zD ?_ | refine zA ?_ _)); exact BK211.out⟩, ⟨by repeat (first | (with_reducible first | exact HB.out | apply zJ | apply zG | apply zI | refine zE ?_ GE208.out | refine zE ?_ GE209.out | refine zE ?_ GE210.out | refine zE ?_ GE211.out | refine zE ?_ GE213.out | refine zE ?_ GE219.out) | exact HB.out)⟩⟩
          replace c94 := Bool.eq_false_iff.mpr c94; subst c94; have H1 : (if t216 = 3 then ((best_price.f kj66 l0_0 l0_1 a1 t216 (wrap64 (x15_40 + 1)) x17_40 (x18_1 == a3) a5_0 a5_1 a5_2 a5_3 a5_4 a5_5).bind fun bt220 => (if bt220.2 = true then (if x212001_1 < 0 then (best_next.l0 kj66 a1 a2 a3 l4 t214 x15_40 x16_20 x17_40 (wrap64 (x18_1 + 1)) l0_0 l0_1 a5_0 a5_1 a5_2 a5_3 a5_4 a5_5 (wrap64 (bt220.1 + ((rd_T70 l4 (ji64)).f0))) x18_1) else (if (wrap64 (bt220.1 + ((rd_T70 l4 (ji64)).f0))) < x212000_1 then (best_next.l0 kj66 a1 a2 a3 l4 t214 x15_40 x16_20 x17_40 (wrap64 (x18_1 + 1)) l0_0 l0_1 a5_0 a5_1 a5_2 a5_3 a5_4 a5_5 (wrap64 (bt220.1 + ((rd_T70 l4 (ji64)).f0))) x18_1) else (best_next.l0 kj66 a1 a2 a3 l4 t214 x15_40 x16_20 x17_40 (wrap64 (x18_1 + 1)) l0_0 l0_1 a5_0 a5_1 a5_2 a5_3 a5_4 a5_5 x212000_1 x212001_1))) else (best_next.l0 kj66 a1 a2 a3 l4 t214 x15_40 x16_20 x17_40 (wrap64 (x18_1 + 1)) l0_0 l0_1 a5_0 a5_1 a5_2 a5_3 a5_4 a5_5 x212000_1 x212001_1))) else ((best_price.f kj66 l0_0 l0_1 a1 t216 x15_40 x17_40 (x18_1 == a3) a5_0 a5_1 a5_2 a5_3 a5_4 a5_5).bind fun bt222 => (if bt222.2 = true then (if x212001_1 < 0 then (best_next.l0 kj66 a1 a2 a3 l4 t214 x15_40 x16_20 x17_40 (wrap64 (x18_1 + 1)) l0_0 l0_1 a5_0 a5_1 a5_2 a5_3 a5_4 a5_5 (wrap64 (bt222.1 + ((rd_T70 l4 (ji64)).f0))) x18_1) else (if (wrap64 (bt222.1 + ((rd_T70 l4 (ji64)).f0))) < x212000_1 then (best_next.l0 kj66 a1 a2 a3 l4 t214 x15_40 x16_20 x17_40 (wrap64 (x18_1 + 1)) l0_0 l0_1 a5_0 a5_1 a5_2 a5_3 a5_4 a5_5 (wrap64 (bt222.1 + ((rd_T70 l4 (ji64)).f0))) x18_1) else (best_next.l0 kj66 a1 a2 a3 l4 t214 x15_40 x16_20 x17_40 (wrap64 (x18_1 + 1)) l0_0 l0_1 a5_0 a5_1 a5_2 a5_3 a5_4 a5_5 x212000_1 x212001_1))) else (best_next.l0 kj66 a1 a2 a3 l4 t214 x15_40 x16_20 x17_40 (wrap64 (x18_1 + 1)) l0_0 l0_1 a5_0 a5_1 a5_2 a5_3 a5_4 a5_5 x212000_1 x212001_1)))) = some (r1, r2) := by rw [if_neg (show ¬ (false = true) by decide)] at H; exact H
          clear H; have H := H1; clear H1; by_cases c95 : t216 = 3
          rotate_left
          · rw [if_neg c95] at H
            have c95b0 : (t216 == 3) = false := beq_eq_false_iff_ne.mpr c95
            have c95b1 : (t216 != 3) = true := bne_iff_ne.mpr c95
            replace H := Option.bind_eq_some_iff.mp H; obtain ⟨⟨t222, t223⟩, A1710, H⟩ := H; replace H : (if t223 = true then (if x212001_1 < 0 then (best_next.l0 kj66 a1 a2 a3 l4 t214 x15_40 x16_20 x17_40 (wrap64 (x18_1 + 1)) l0_0 l0_1 a5_0 a5_1 a5_2 a5_3 a5_4 a5_5 (wrap64 (t222 + ((rd_T70 l4 (ji64)).f0))) x18_1) else (if (wrap64 (t222 + ((rd_T70 l4 (ji64)).f0))) < x212000_1 then (best_next.l0 kj66 a1 a2 a3 l4 t214 x15_40 x16_20 x17_40 (wrap64 (x18_1 + 1)) l0_0 l0_1 a5_0 a5_1 a5_2 a5_3 a5_4 a5_5 (wrap64 (t222 + ((rd_T70 l4 (ji64)).f0))) x18_1) else (best_next.l0 kj66 a1 a2 a3 l4 t214 x15_40 x16_20 x17_40 (wrap64 (x18_1 + 1)) l0_0 l0_1 a5_0 a5_1 a5_2 a5_3 a5_4 a5_5 x212000_1 x212001_1))) else (best_next.l0 kj66 a1 a2 a3 l4 t214 x15_40 x16_20 x17_40 (wrap64 (x18_1 + 1)) l0_0 l0_1 a5_0 a5_1 a5_2 a5_3 a5_4 a5_5 x212000_1 x212001_1)) = some (r1, r2) := H; have A171 := zC.mk A1710; clear A1710; by_cases c172 : t223 = true
            rotate_left
            · replace c172 := Bool.eq_false_iff.mpr c172
              subst c172; have H1 : (best_next.l0 kj66 a1 a2 a3 l4 t214 x15_40 x16_20 x17_40 (wrap64 (x18_1 + 1)) l0_0 l0_1 a5_0 a5_1 a5_2 a5_3 a5_4 a5_5 x212000_1 x212001_1) = some (r1, r2) := by rw [if_neg (show ¬ (false = true) by decide)] at H; exact H
              clear H; have H := H1; clear H1; have H' := zC.mk H
              clear H; have hnb234 := NB208_209.out; have hnc234 := NB209_208.out; have hnb235 := NB208_210.out; have hnc235 := NB210_208.out; have hnb236 := NB208_211.out; have hnc236 := NB211_208.out; have hnb237 := NB208_213.out; have hnc237 := NB213_208.out; have hnb238 := NB208_219.out; have hnc238 := NB219_208.out; have hcz239_0 : wc.cell? ⟨gb208, 0, none⟩ = some (.slice (some ad212) l0_0.length c0_0) := (zF BK208.out 0).trans rfl
              have hcz239_1 : wc.cell? ⟨gb208, 1, none⟩ = some (.slice A0_1 l0_1.length c0_1) := (zF BK208.out 1).trans rfl
              have hfz239_0 := zH BK208.out 0; have hfz239_1 := zH BK208.out 1; have hnb240 := NB209_210.out; have hnc240 := NB210_209.out; have hnb241 := NB209_211.out; have hnc241 := NB211_209.out; have hnb242 := NB209_213.out; have hnc242 := NB213_209.out; have hnb243 := NB209_219.out; have hnc243 := NB219_209.out; have hcz244_0 : wc.cell? ⟨gb209, 0, none⟩ = some (.int .i64 a5_0) := (zF BK209.out 0).trans rfl
              have hcz244_1 : wc.cell? ⟨gb209, 1, none⟩ = some (.int .i64 a5_1) := (zF BK209.out 1).trans rfl
              have hcz244_2 : wc.cell? ⟨gb209, 2, none⟩ = some (.int .u8 a5_2) := (zF BK209.out 2).trans rfl
              have hcz244_3 : wc.cell? ⟨gb209, 3, none⟩ = some (.int .i64 a5_3) := (zF BK209.out 3).trans rfl
              have hcz244_4 : wc.cell? ⟨gb209, 4, none⟩ = some (.int .i64 a5_4) := (zF BK209.out 4).trans rfl
              have hcz244_5 : wc.cell? ⟨gb209, 5, none⟩ = some (.float .f64 a5_5) := (zF BK209.out 5).trans rfl
              have hfz244_0 := zH BK209.out 0; have hfz244_1 := zH BK209.out 1; have hfz244_2 := zH BK209.out 2; have hfz244_3 := zH BK209.out 3; have hfz244_4 := zH BK209.out 4; have hfz244_5 := zH BK209.out 5; go_wp2_with (first | ((with_reducible refine gate_callee (f := 41) rfl ?_); refine goesL_ (some 102) rfl rfl Try.func41 (by kernel_rfl) rfl #[.agg #[.slice (some ad212) l0_0.length c0_0, .slice A0_1 l0_1.length c0_1], .int .i64 a1, .int .u8 t216, .int .i64 x15_40, .int .i64 x17_40, .bool (x18_1 == a3), .agg #[.int .i64 a5_0, .int .i64 a5_1, .int .u8 a5_2, .int .i64 a5_3, .int .i64 a5_4, .float .f64 a5_5]] rfl (by (try simp only [List.map_toArray, List.map_cons, List.map_nil]); first | done | rfl | (simp only [List.length_drop, List.length_take]; rfl)) ?_; (with_reducible refine (best_price.calls kj66 _ _ l0_0 _ _ l0_1 a1 t216 x15_40 x17_40 (x18_1 == a3) a5_0 a5_1 a5_2 a5_3 a5_4 a5_5 t222 false _ ?side1 ?side2 ?side3 ?side4 A171.out).mono ?_); (case side1 => repeat (first | exact (Kd.C_below HR0_0.out HB.out) | (with_reducible refine Kd.C_alloc ?_ _) | (with_reducible refine Kd.C_drewN ?_ _) | (with_reducible refine Kd.C_drew ?_))); (case side2 => exact HC0_0.out); (case side3 => repeat (first | exact (Kd.C_below HR0_1.out HB.out) | (with_reducible refine Kd.C_alloc ?_ _) | (with_reducible refine Kd.C_drewN ?_ _) | (with_reducible refine Kd.C_drew ?_))); (case side4 => exact HC0_1.out); rintro e w245 ⟨rfl, hb⟩; refine ⟨_, rfl, ?_⟩; have n0_ := zC.mk (zK (g := gb208) (o := .cells #[.slice (some ad212) l0_0.length c0_0, .slice A0_1 l0_1.length c0_1] 31 (0, 0)) (by (with_reducible repeat (first | refine zB ?_ _ | refine zD ?_ | refine zA ?_ _)); exact BK208.out) hb); have n1_ := zC.mk (zK (g := gb209) (o := .cells #[.int .i64 a5_0, .int .i64 a5_1, .int .u8 a5_2, .int .i64 a5_3, .int .i64 a5_4, .float .f64 a5_5] 35 (0, 0)) (by (with_reducible repeat (first | refine zB ?_ _ | refine zD ?_ | refine zA ?_ _)); exact BK209.out) hb); have n2_ := zC.mk (zK (g := gb210) (o := .cells #[.int .i64 0, .int .i64 0] 70 (0, 0)) (by (with_reducible repeat (first | refine zB ?_ _ | refine zD ?_ | refine zA ?_ _)); exact BK210.out) hb); have n3_ := zC.mk (zK (g := gb211) (o := .cells #[.int .i64 x212000_1, .int .i64 x212001_1] 70 (0, 0)) (by (with_reducible repeat (first | refine zB ?_ _ | refine zD ?_ | refine zA ?_ _)); exact BK211.out) hb); have n4_ := zC.mk (zK (g := gb213) (o := .cells #[.int .i64 ((rd_T66 l0_0 (ji17)).f0), .int .i64 ((rd_T66 l0_0 (ji17)).f1), .int .i64 ((rd_T66 l0_0 (ji17)).f2), .int .u8 ((rd_T66 l0_0 (ji17)).f3)] 66 (0, 0)) (by (with_reducible repeat (first | refine zB ?_ _ | refine zD ?_ | refine zA ?_ _)); exact BK213.out) hb); have n5_ := zC.mk (zK (g := gb219) (o := .cells #[.int .i64 ((rd_T70 l4 (ji64)).f0), .int .i64 ((rd_T70 l4 (ji64)).f1)] 70 (0, 0)) (by (with_reducible repeat (first | refine zB ?_ _ | refine zD ?_ | refine zA ?_ _)); exact BK219.out) hb); have n6_ := zC.mk (zQ (by repeat (first | (with_reducible first | exact HB.out | apply zJ | apply zG | apply zI | refine zE ?_ GE208.out | refine zE ?_ GE209.out | refine zE ?_ GE210.out | refine zE ?_ GE211.out | refine zE ?_ GE213.out | refine zE ?_ GE219.out) | exact HB.out)) hb); clear BK208; clear BK209; clear BK210; clear BK211; clear BK213; clear BK219; clear HB; have BK208 := n0_; have BK209 := n1_; have BK210 := n2_; have BK211 := n3_; have BK213 := n4_; have BK219 := n5_; have HB := n6_; clear n0_ n1_ n2_ n3_ n4_ n5_ n6_; (try clear hb); (try clear hb2); (try clear hk); (try clear hi)))
              go_roundg kj66
              case measure => have := HK1.out; have := HJ20.out; have := HJ40.out; have := HJ66.out; omega
              case rel => exact ⟨(t214), (x15_40), (x16_20), (x17_40), (wrap64 (x18_1 + 1)), (x212000_1), (x212001_1), (by first | rfl | (simp; done) | (simp [*]; done)), (by first | rfl | (simp; done) | (simp [*]; done)), (by first | rfl | (simp; done) | (simp [*]; done)), (by first | rfl | (simp; done) | (simp [*]; done)), (by first | rfl | (simp; done) | (simp [*]; done)), H', ⟨by have := HK1.out; have := HJ20.out; have := HJ40.out; have := HJ66.out; omega⟩, ⟨by (with_reducible repeat (first | refine zB ?_ _ | refine zD ?_ | refine zA ?_ _)); exact BK208.out⟩, ⟨by (with_reducible repeat (first | refine zB ?_ _ | refine zD ?_ | refine zA ?_ _)); exact BK209.out⟩, ⟨by (with_reducible repeat (first | refine zB ?_ _ | refine zD ?_ | refine zA ?_ _)); exact BK210.out⟩, ⟨by (with_reducible repeat (first | refine zB ?_ _ | refine zD ?_ | refine zA ?_ _)); exact BK211.out⟩, ⟨by repeat (first | (with_reducible first | exact HB.out | apply zJ | apply zG | apply zI | refine zE ?_ GE208.out | refine zE ?_ GE209.out | refine zE ?_ GE210.out | refine zE ?_ GE211.out | refine zE ?_ GE213.out | refine zE ?_ GE219.out) | exact HB.out)⟩⟩
            subst c172; have H1 : (if x212001_1 < 0 then (best_next.l0 kj66 a1 a2 a3 l4 t214 x15_40 x16_20 x17_40 (wrap64 (x18_1 + 1)) l0_0 l0_1 a5_0 a5_1 a5_2 a5_3 a5_4 a5_5 (wrap64 (t222 + ((rd_T70 l4 (ji64)).f0))) x18_1) else (if (wrap64 (t222 + ((rd_T70 l4 (ji64)).f0))) < x212000_1 then (best_next.l0 kj66 a1 a2 a3 l4 t214 x15_40 x16_20 x17_40 (wrap64 (x18_1 + 1)) l0_0 l0_1 a5_0 a5_1 a5_2 a5_3 a5_4 a5_5 (wrap64 (t222 + ((rd_T70 l4 (ji64)).f0))) x18_1) else (best_next.l0 kj66 a1 a2 a3 l4 t214 x15_40 x16_20 x17_40 (wrap64 (x18_1 + 1)) l0_0 l0_1 a5_0 a5_1 a5_2 a5_3 a5_4 a5_5 x212000_1 x212001_1))) = some (r1, r2) := by rw [if_pos rfl] at H; exact H
            clear H; have H := H1; clear H1; by_cases c173 : x212001_1 < 0
            · rw [if_pos c173] at H
              have c173b0 : decide (x212001_1 < 0) = true := decide_eq_true c173
              clear c173; have H' := zC.mk H
              clear H; have hnb174 := NB208_209.out; have hnc174 := NB209_208.out; have hnb175 := NB208_210.out; have hnc175 := NB210_208.out; have hnb176 := NB208_211.out; have hnc176 := NB211_208.out; have hnb177 := NB208_213.out; have hnc177 := NB213_208.out; have hnb178 := NB208_219.out; have hnc178 := NB219_208.out; have hcz179_0 : wc.cell? ⟨gb208, 0, none⟩ = some (.slice (some ad212) l0_0.length c0_0) := (zF BK208.out 0).trans rfl
              have hcz179_1 : wc.cell? ⟨gb208, 1, none⟩ = some (.slice A0_1 l0_1.length c0_1) := (zF BK208.out 1).trans rfl
              have hfz179_0 := zH BK208.out 0; have hfz179_1 := zH BK208.out 1; have hnb180 := NB209_210.out; have hnc180 := NB210_209.out; have hnb181 := NB209_211.out; have hnc181 := NB211_209.out; have hnb182 := NB209_213.out; have hnc182 := NB213_209.out; have hnb183 := NB209_219.out; have hnc183 := NB219_209.out; have hcz184_0 : wc.cell? ⟨gb209, 0, none⟩ = some (.int .i64 a5_0) := (zF BK209.out 0).trans rfl
              have hcz184_1 : wc.cell? ⟨gb209, 1, none⟩ = some (.int .i64 a5_1) := (zF BK209.out 1).trans rfl
              have hcz184_2 : wc.cell? ⟨gb209, 2, none⟩ = some (.int .u8 a5_2) := (zF BK209.out 2).trans rfl
              have hcz184_3 : wc.cell? ⟨gb209, 3, none⟩ = some (.int .i64 a5_3) := (zF BK209.out 3).trans rfl
              have hcz184_4 : wc.cell? ⟨gb209, 4, none⟩ = some (.int .i64 a5_4) := (zF BK209.out 4).trans rfl
              have hcz184_5 : wc.cell? ⟨gb209, 5, none⟩ = some (.float .f64 a5_5) := (zF BK209.out 5).trans rfl
              have hfz184_0 := zH BK209.out 0; have hfz184_1 := zH BK209.out 1; have hfz184_2 := zH BK209.out 2; have hfz184_3 := zH BK209.out 3; have hfz184_4 := zH BK209.out 4; have hfz184_5 := zH BK209.out 5; go_wp2_with (first | ((with_reducible refine gate_callee (f := 41) rfl ?_); refine goesL_ (some 102) rfl rfl Try.func41 (by kernel_rfl) rfl #[.agg #[.slice (some ad212) l0_0.length c0_0, .slice A0_1 l0_1.length c0_1], .int .i64 a1, .int .u8 t216, .int .i64 x15_40, .int .i64 x17_40, .bool (x18_1 == a3), .agg #[.int .i64 a5_0, .int .i64 a5_1, .int .u8 a5_2, .int .i64 a5_3, .int .i64 a5_4, .float .f64 a5_5]] rfl (by (try simp only [List.map_toArray, List.map_cons, List.map_nil]); first | done | rfl | (simp only [List.length_drop, List.length_take]; rfl)) ?_; (with_reducible refine (best_price.calls kj66 _ _ l0_0 _ _ l0_1 a1 t216 x15_40 x17_40 (x18_1 == a3) a5_0 a5_1 a5_2 a5_3 a5_4 a5_5 t222 true _ ?side1 ?side2 ?side3 ?side4 A171.out).mono ?_); (case side1 => repeat (first | exact (Kd.C_below HR0_0.out HB.out) | (with_reducible refine Kd.C_alloc ?_ _) | (with_reducible refine Kd.C_drewN ?_ _) | (with_reducible refine Kd.C_drew ?_))); (case side2 => exact HC0_0.out); (case side3 => repeat (first | exact (Kd.C_below HR0_1.out HB.out) | (with_reducible refine Kd.C_alloc ?_ _) | (with_reducible refine Kd.C_drewN ?_ _) | (with_reducible refine Kd.C_drew ?_))); (case side4 => exact HC0_1.out); rintro e w185 ⟨rfl, hb⟩; refine ⟨_, rfl, ?_⟩; have n0_ := zC.mk (zK (g := gb208) (o := .cells #[.slice (some ad212) l0_0.length c0_0, .slice A0_1 l0_1.length c0_1] 31 (0, 0)) (by (with_reducible repeat (first | refine zB ?_ _ | refine zD ?_ | refine zA ?_ _)); exact BK208.out) hb); have n1_ := zC.mk (zK (g := gb209) (o := .cells #[.int .i64 a5_0, .int .i64 a5_1, .int .u8 a5_2, .int .i64 a5_3, .int .i64 a5_4, .float .f64 a5_5] 35 (0, 0)) (by (with_reducible repeat (first | refine zB ?_ _ | refine zD ?_ | refine zA ?_ _)); exact BK209.out) hb); have n2_ := zC.mk (zK (g := gb210) (o := .cells #[.int .i64 0, .int .i64 0] 70 (0, 0)) (by (with_reducible repeat (first | refine zB ?_ _ | refine zD ?_ | refine zA ?_ _)); exact BK210.out) hb); have n3_ := zC.mk (zK (g := gb211) (o := .cells #[.int .i64 x212000_1, .int .i64 x212001_1] 70 (0, 0)) (by (with_reducible repeat (first | refine zB ?_ _ | refine zD ?_ | refine zA ?_ _)); exact BK211.out) hb); have n4_ := zC.mk (zK (g := gb213) (o := .cells #[.int .i64 ((rd_T66 l0_0 (ji17)).f0), .int .i64 ((rd_T66 l0_0 (ji17)).f1), .int .i64 ((rd_T66 l0_0 (ji17)).f2), .int .u8 ((rd_T66 l0_0 (ji17)).f3)] 66 (0, 0)) (by (with_reducible repeat (first | refine zB ?_ _ | refine zD ?_ | refine zA ?_ _)); exact BK213.out) hb); have n5_ := zC.mk (zK (g := gb219) (o := .cells #[.int .i64 ((rd_T70 l4 (ji64)).f0), .int .i64 ((rd_T70 l4 (ji64)).f1)] 70 (0, 0)) (by (with_reducible repeat (first | refine zB ?_ _ | refine zD ?_ | refine zA ?_ _)); exact BK219.out) hb); have n6_ := zC.mk (zQ (by repeat (first | (with_reducible first | exact HB.out | apply zJ | apply zG | apply zI | refine zE ?_ GE208.out | refine zE ?_ GE209.out | refine zE ?_ GE210.out | refine zE ?_ GE211.out | refine zE ?_ GE213.out | refine zE ?_ GE219.out) | exact HB.out)) hb); clear BK208; clear BK209; clear BK210; clear BK211; clear BK213; clear BK219; clear HB; have BK208 := n0_; have BK209 := n1_; have BK210 := n2_; have BK211 := n3_; have BK213 := n4_; have BK219 := n5_; have HB := n6_; clear n0_ n1_ n2_ n3_ n4_ n5_ n6_; (try clear hb); (try clear hb2); (try clear hk); (try clear hi); have hnb186 := NB211_210.out; have hnc186 := NB210_211.out; have hnb187 := NB211_213.out; have hnc187 := NB213_211.out; have hnb188 := NB211_219.out; have hnc188 := NB219_211.out; have hcz189_0 : w185.cell? ⟨gb211, 0, none⟩ = some (.int .i64 x212000_1) := (zF BK211.out 0).trans rfl; have hcz189_1 : w185.cell? ⟨gb211, 1, none⟩ = some (.int .i64 x212001_1) := (zF BK211.out 1).trans rfl; have hfz189_0 := zH BK211.out 0; have hfz189_1 := zH BK211.out 1; have hnb190 := NB219_210.out; have hnc190 := NB210_219.out; have hnb191 := NB219_213.out; have hnc191 := NB213_219.out; have hcz192_0 : w185.cell? ⟨gb219, 0, none⟩ = some (.int .i64 ((rd_T70 l4 (ji64)).f0)) := (zF BK219.out 0).trans rfl; have hcz192_1 : w185.cell? ⟨gb219, 1, none⟩ = some (.int .i64 ((rd_T70 l4 (ji64)).f1)) := (zF BK219.out 1).trans rfl; have hfz192_0 := zH BK219.out 0; have hfz192_1 := zH BK219.out 1) | ((with_reducible refine gate_store (t := 70) (p := 13) rfl ?_); refine store_event (t := 70) (p := 13) (v := ?vo_w193) (w1 := ((w185.setCell ⟨gb211, 0, none⟩ (.int .i64 (wrap64 (t222 + ((rd_T70 l4 (ji64)).f0))))).setCell ⟨gb211, 1, none⟩ (.int .i64 x18_1))) ?hg ?ho ?hn ?hr ?_; (case ho => rfl); (case hg => rfl); (case hn => rfl); (case hr => first | (go_simp; done) | (go_simp; rfl)); intro w193 hw; have n0_ : zC (w193.heap[gb208]? = some (.cells #[.slice (some ad212) l0_0.length c0_0, .slice A0_1 l0_1.length c0_1] 31 (0, 0))) := ⟨(by rw [hw]; exact (by (with_reducible repeat (first | refine zB ?_ _ | refine zD ?_ | refine zA ?_ _)); refine zO ?_ NB208_211.out _; (with_reducible repeat (first | refine zB ?_ _ | refine zD ?_ | refine zA ?_ _)); refine zO ?_ NB208_211.out _; (with_reducible repeat (first | refine zB ?_ _ | refine zD ?_ | refine zA ?_ _)); exact BK208.out))⟩; have n1_ : zC (w193.heap[gb209]? = some (.cells #[.int .i64 a5_0, .int .i64 a5_1, .int .u8 a5_2, .int .i64 a5_3, .int .i64 a5_4, .float .f64 a5_5] 35 (0, 0))) := ⟨(by rw [hw]; exact (by (with_reducible repeat (first | refine zB ?_ _ | refine zD ?_ | refine zA ?_ _)); refine zO ?_ NB209_211.out _; (with_reducible repeat (first | refine zB ?_ _ | refine zD ?_ | refine zA ?_ _)); refine zO ?_ NB209_211.out _; (with_reducible repeat (first | refine zB ?_ _ | refine zD ?_ | refine zA ?_ _)); exact BK209.out))⟩; have n2_ : zC (w193.heap[gb210]? = some (.cells #[.int .i64 0, .int .i64 0] 70 (0, 0))) := ⟨(by rw [hw]; exact (by (with_reducible repeat (first | refine zB ?_ _ | refine zD ?_ | refine zA ?_ _)); refine zO ?_ NB210_211.out _; (with_reducible repeat (first | refine zB ?_ _ | refine zD ?_ | refine zA ?_ _)); refine zO ?_ NB210_211.out _; (with_reducible repeat (first | refine zB ?_ _ | refine zD ?_ | refine zA ?_ _)); exact BK210.out))⟩; have n3_ : zC (w193.heap[gb211]? = some (.cells #[.int .i64 (wrap64 (t222 + ((rd_T70 l4 (ji64)).f0))), .int .i64 x18_1] 70 (0, 0))) := ⟨(by rw [hw]; exact (by (with_reducible repeat (first | refine zB ?_ _ | refine zD ?_ | refine zA ?_ _)); refine blk_put (cs := #[.int .i64 (wrap64 (t222 + ((rd_T70 l4 (ji64)).f0))), .int .i64 x212001_1]) ?_ 1 _ rfl; (with_reducible repeat (first | refine zB ?_ _ | refine zD ?_ | refine zA ?_ _)); refine blk_put (cs := #[.int .i64 x212000_1, .int .i64 x212001_1]) ?_ 0 _ rfl; (with_reducible repeat (first | refine zB ?_ _ | refine zD ?_ | refine zA ?_ _)); exact BK211.out))⟩; have n4_ : zC (w193.heap[gb213]? = some (.cells #[.int .i64 ((rd_T66 l0_0 (ji17)).f0), .int .i64 ((rd_T66 l0_0 (ji17)).f1), .int .i64 ((rd_T66 l0_0 (ji17)).f2), .int .u8 ((rd_T66 l0_0 (ji17)).f3)] 66 (0, 0))) := ⟨(by rw [hw]; exact (by (with_reducible repeat (first | refine zB ?_ _ | refine zD ?_ | refine zA ?_ _)); refine zO ?_ NB213_211.out _; (with_reducible repeat (first | refine zB ?_ _ | refine zD ?_ | refine zA ?_ _)); refine zO ?_ NB213_211.out _; (with_reducible repeat (first | refine zB ?_ _ | refine zD ?_ | refine zA ?_ _)); exact BK213.out))⟩; have n5_ : zC (w193.heap[gb219]? = some (.cells #[.int .i64 ((rd_T70 l4 (ji64)).f0), .int .i64 ((rd_T70 l4 (ji64)).f1)] 70 (0, 0))) := ⟨(by rw [hw]; exact (by (with_reducible repeat (first | refine zB ?_ _ | refine zD ?_ | refine zA ?_ _)); refine zO ?_ NB219_211.out _; (with_reducible repeat (first | refine zB ?_ _ | refine zD ?_ | refine zA ?_ _)); refine zO ?_ NB219_211.out _; (with_reducible repeat (first | refine zB ?_ _ | refine zD ?_ | refine zA ?_ _)); exact BK219.out))⟩; have n6_ : zC (Below w.heap.size w w193) := ⟨(by rw [hw]; exact (by repeat (first | (with_reducible first | exact HB.out | apply zJ | apply zG | apply zI | refine zE ?_ GE208.out | refine zE ?_ GE209.out | refine zE ?_ GE210.out | refine zE ?_ GE211.out | refine zE ?_ GE213.out | refine zE ?_ GE219.out) | exact HB.out)))⟩; clear hw; clear BK208; clear BK209; clear BK210; clear BK211; clear BK213; clear BK219; clear HB; have BK208 := n0_; have BK209 := n1_; have BK210 := n2_; have BK211 := n3_; have BK213 := n4_; have BK219 := n5_; have HB := n6_; clear n0_ n1_ n2_ n3_ n4_ n5_ n6_))
              go_roundg kj66
              case measure => have := HK1.out; have := HJ20.out; have := HJ40.out; have := HJ66.out; omega
              case rel => exact ⟨(t214), (x15_40), (x16_20), (x17_40), (wrap64 (x18_1 + 1)), (wrap64 (t222 + ((rd_T70 l4 (ji64)).f0))), (x18_1), (by first | rfl | (simp; done) | (simp [*]; done)), (by first | rfl | (simp; done) | (simp [*]; done)), (by first | rfl | (simp; done) | (simp [*]; done)), (by first | rfl | (simp; done) | (simp [*]; done)), (by first | rfl | (simp; done) | (simp [*]; done)), H', ⟨by have := HK1.out; have := HJ20.out; have := HJ40.out; have := HJ66.out; omega⟩, ⟨by (with_reducible repeat (first | refine zB ?_ _ | refine zD ?_ | refine zA ?_ _)); exact BK208.out⟩, ⟨by (with_reducible repeat (first | refine zB ?_ _ | refine zD ?_ | refine zA ?_ _)); exact BK209.out⟩, ⟨by (with_reducible repeat (first | refine zB ?_ _ | refine zD ?_ | refine zA ?_ _)); exact BK210.out⟩, ⟨by (with_reducible repeat (first | refine zB ?_ _ | refine zD ?_ | refine zA ?_ _)); exact BK211.out⟩, ⟨by repeat (first | (with_reducible first | exact HB.out | apply zJ | apply zG | apply zI | refine zE ?_ GE208.out | refine zE ?_ GE209.out | refine zE ?_ GE210.out | refine zE ?_ GE211.out | refine zE ?_ GE213.out | refine zE ?_ GE219.out) | exact HB.out)⟩⟩
            rw [if_neg c173] at H; have c173b0 : decide (x212001_1 < 0) = false := decide_eq_false c173
            clear c173; by_cases c194 : (wrap64 (t222 + ((rd_T70 l4 (ji64)).f0))) < x212000_1
            rotate_left
            · rw [if_neg c194] at H
              have c194b0 : decide ((wrap64 (t222 + ((rd_T70 l4 (ji64)).f0))) < x212000_1) = false := decide_eq_false c194
              clear c194; have H' := zC.mk H
              clear H; have hnb215 := NB208_209.out; have hnc215 := NB209_208.out; have hnb216 := NB208_210.out; have hnc216 := NB210_208.out; have hnb217 := NB208_211.out; have hnc217 := NB211_208.out; have hnb218 := NB208_213.out; have hnc218 := NB213_208.out; have hnb219 := NB208_219.out; have hnc219 := NB219_208.out; have hcz220_0 : wc.cell? ⟨gb208, 0, none⟩ = some (.slice (some ad212) l0_0.length c0_0) := (zF BK208.out 0).trans rfl
              have hcz220_1 : wc.cell? ⟨gb208, 1, none⟩ = some (.slice A0_1 l0_1.length c0_1) := (zF BK208.out 1).trans rfl
              have hfz220_0 := zH BK208.out 0; have hfz220_1 := zH BK208.out 1; have hnb221 := NB209_210.out; have hnc221 := NB210_209.out; have hnb222 := NB209_211.out; have hnc222 := NB211_209.out; have hnb223 := NB209_213.out; have hnc223 := NB213_209.out; have hnb224 := NB209_219.out; have hnc224 := NB219_209.out; have hcz225_0 : wc.cell? ⟨gb209, 0, none⟩ = some (.int .i64 a5_0) := (zF BK209.out 0).trans rfl
              have hcz225_1 : wc.cell? ⟨gb209, 1, none⟩ = some (.int .i64 a5_1) := (zF BK209.out 1).trans rfl
              have hcz225_2 : wc.cell? ⟨gb209, 2, none⟩ = some (.int .u8 a5_2) := (zF BK209.out 2).trans rfl
              have hcz225_3 : wc.cell? ⟨gb209, 3, none⟩ = some (.int .i64 a5_3) := (zF BK209.out 3).trans rfl
              have hcz225_4 : wc.cell? ⟨gb209, 4, none⟩ = some (.int .i64 a5_4) := (zF BK209.out 4).trans rfl
              have hcz225_5 : wc.cell? ⟨gb209, 5, none⟩ = some (.float .f64 a5_5) := (zF BK209.out 5).trans rfl
              have hfz225_0 := zH BK209.out 0; have hfz225_1 := zH BK209.out 1; have hfz225_2 := zH BK209.out 2; have hfz225_3 := zH BK209.out 3; have hfz225_4 := zH BK209.out 4; have hfz225_5 := zH BK209.out 5; go_wp2_with (first | ((with_reducible refine gate_callee (f := 41) rfl ?_); refine goesL_ (some 102) rfl rfl Try.func41 (by kernel_rfl) rfl #[.agg #[.slice (some ad212) l0_0.length c0_0, .slice A0_1 l0_1.length c0_1], .int .i64 a1, .int .u8 t216, .int .i64 x15_40, .int .i64 x17_40, .bool (x18_1 == a3), .agg #[.int .i64 a5_0, .int .i64 a5_1, .int .u8 a5_2, .int .i64 a5_3, .int .i64 a5_4, .float .f64 a5_5]] rfl (by (try simp only [List.map_toArray, List.map_cons, List.map_nil]); first | done | rfl | (simp only [List.length_drop, List.length_take]; rfl)) ?_; (with_reducible refine (best_price.calls kj66 _ _ l0_0 _ _ l0_1 a1 t216 x15_40 x17_40 (x18_1 == a3) a5_0 a5_1 a5_2 a5_3 a5_4 a5_5 t222 true _ ?side1 ?side2 ?side3 ?side4 A171.out).mono ?_); (case side1 => repeat (first | exact (Kd.C_below HR0_0.out HB.out) | (with_reducible refine Kd.C_alloc ?_ _) | (with_reducible refine Kd.C_drewN ?_ _) | (with_reducible refine Kd.C_drew ?_))); (case side2 => exact HC0_0.out); (case side3 => repeat (first | exact (Kd.C_below HR0_1.out HB.out) | (with_reducible refine Kd.C_alloc ?_ _) | (with_reducible refine Kd.C_drewN ?_ _) | (with_reducible refine Kd.C_drew ?_))); (case side4 => exact HC0_1.out); rintro e w226 ⟨rfl, hb⟩; refine ⟨_, rfl, ?_⟩; have n0_ := zC.mk (zK (g := gb208) (o := .cells #[.slice (some ad212) l0_0.length c0_0, .slice A0_1 l0_1.length c0_1] 31 (0, 0)) (by (with_reducible repeat (first | refine zB ?_ _ | refine zD ?_ | refine zA ?_ _)); exact BK208.out) hb); have n1_ := zC.mk (zK (g := gb209) (o := .cells #[.int .i64 a5_0, .int .i64 a5_1, .int .u8 a5_2, .int .i64 a5_3, .int .i64 a5_4, .float .f64 a5_5] 35 (0, 0)) (by (with_reducible repeat (first | refine zB ?_ _ | refine zD ?_ | refine zA ?_ _)); exact BK209.out) hb); have n2_ := zC.mk (zK (g := gb210) (o := .cells #[.int .i64 0, .int .i64 0] 70 (0, 0)) (by (with_reducible repeat (first | refine zB ?_ _ | refine zD ?_ | refine zA ?_ _)); exact BK210.out) hb); have n3_ := zC.mk (zK (g := gb211) (o := .cells #[.int .i64 x212000_1, .int .i64 x212001_1] 70 (0, 0)) (by (with_reducible repeat (first | refine zB ?_ _ | refine zD ?_ | refine zA ?_ _)); exact BK211.out) hb); have n4_ := zC.mk (zK (g := gb213) (o := .cells #[.int .i64 ((rd_T66 l0_0 (ji17)).f0), .int .i64 ((rd_T66 l0_0 (ji17)).f1), .int .i64 ((rd_T66 l0_0 (ji17)).f2), .int .u8 ((rd_T66 l0_0 (ji17)).f3)] 66 (0, 0)) (by (with_reducible repeat (first | refine zB ?_ _ | refine zD ?_ | refine zA ?_ _)); exact BK213.out) hb); have n5_ := zC.mk (zK (g := gb219) (o := .cells #[.int .i64 ((rd_T70 l4 (ji64)).f0), .int .i64 ((rd_T70 l4 (ji64)).f1)] 70 (0, 0)) (by (with_reducible repeat (first | refine zB ?_ _ | refine zD ?_ | refine zA ?_ _)); exact BK219.out) hb); have n6_ := zC.mk (zQ (by repeat (first | (with_reducible first | exact HB.out | apply zJ | apply zG | apply zI | refine zE ?_ GE208.out | refine zE ?_ GE209.out | refine zE ?_ GE210.out | refine zE ?_ GE211.out | refine zE ?_ GE213.out | refine zE ?_ GE219.out) | exact HB.out)) hb); clear BK208; clear BK209; clear BK210; clear BK211; clear BK213; clear BK219; clear HB; have BK208 := n0_; have BK209 := n1_; have BK210 := n2_; have BK211 := n3_; have BK213 := n4_; have BK219 := n5_; have HB := n6_; clear n0_ n1_ n2_ n3_ n4_ n5_ n6_; (try clear hb); (try clear hb2); (try clear hk); (try clear hi); have hnb227 := NB211_210.out; have hnc227 := NB210_211.out; have hnb228 := NB211_213.out; have hnc228 := NB213_211.out; have hnb229 := NB211_219.out; have hnc229 := NB219_211.out; have hcz230_0 : w226.cell? ⟨gb211, 0, none⟩ = some (.int .i64 x212000_1) := (zF BK211.out 0).trans rfl; have hcz230_1 : w226.cell? ⟨gb211, 1, none⟩ = some (.int .i64 x212001_1) := (zF BK211.out 1).trans rfl; have hfz230_0 := zH BK211.out 0; have hfz230_1 := zH BK211.out 1; have hnb231 := NB219_210.out; have hnc231 := NB210_219.out; have hnb232 := NB219_213.out; have hnc232 := NB213_219.out; have hcz233_0 : w226.cell? ⟨gb219, 0, none⟩ = some (.int .i64 ((rd_T70 l4 (ji64)).f0)) := (zF BK219.out 0).trans rfl; have hcz233_1 : w226.cell? ⟨gb219, 1, none⟩ = some (.int .i64 ((rd_T70 l4 (ji64)).f1)) := (zF BK219.out 1).trans rfl; have hfz233_0 := zH BK219.out 0; have hfz233_1 := zH BK219.out 1))
              go_roundg kj66
              case measure => have := HK1.out; have := HJ20.out; have := HJ40.out; have := HJ66.out; omega
              case rel => exact ⟨(t214), (x15_40), (x16_20), (x17_40), (wrap64 (x18_1 + 1)), (x212000_1), (x212001_1), (by first | rfl | (simp; done) | (simp [*]; done)), (by first | rfl | (simp; done) | (simp [*]; done)), (by first | rfl | (simp; done) | (simp [*]; done)), (by first | rfl | (simp; done) | (simp [*]; done)), (by first | rfl | (simp; done) | (simp [*]; done)), H', ⟨by have := HK1.out; have := HJ20.out; have := HJ40.out; have := HJ66.out; omega⟩, ⟨by (with_reducible repeat (first | refine zB ?_ _ | refine zD ?_ | refine zA ?_ _)); exact BK208.out⟩, ⟨by (with_reducible repeat (first | refine zB ?_ _ | refine zD ?_ | refine zA ?_ _)); exact BK209.out⟩, ⟨by (with_reducible repeat (first | refine zB ?_ _ | refine zD ?_ | refine zA ?_ _)); exact BK210.out⟩, ⟨by (with_reducible repeat (first | refine zB ?_ _ | refine zD ?_ | refine zA ?_ _)); exact BK211.out⟩, ⟨by repeat (first | (with_reducible first | exact HB.out | apply zJ | apply zG | apply zI | refine zE ?_ GE208.out | refine zE ?_ GE209.out | refine zE ?_ GE210.out | refine zE ?_ GE211.out | refine zE ?_ GE213.out | refine zE ?_ GE219.out) | exact HB.out)⟩⟩
            rw [if_pos c194] at H; have c194b0 : decide ((wrap64 (t222 + ((rd_T70 l4 (ji64)).f0))) < x212000_1) = true := decide_eq_true c194
            clear c194; have H' := zC.mk H
            clear H; have hnb195 := NB208_209.out; have hnc195 := NB209_208.out; have hnb196 := NB208_210.out; have hnc196 := NB210_208.out; have hnb197 := NB208_211.out; have hnc197 := NB211_208.out; have hnb198 := NB208_213.out; have hnc198 := NB213_208.out; have hnb199 := NB208_219.out; have hnc199 := NB219_208.out; have hcz200_0 : wc.cell? ⟨gb208, 0, none⟩ = some (.slice (some ad212) l0_0.length c0_0) := (zF BK208.out 0).trans rfl
            have hcz200_1 : wc.cell? ⟨gb208, 1, none⟩ = some (.slice A0_1 l0_1.length c0_1) := (zF BK208.out 1).trans rfl
            have hfz200_0 := zH BK208.out 0; have hfz200_1 := zH BK208.out 1; have hnb201 := NB209_210.out; have hnc201 := NB210_209.out; have hnb202 := NB209_211.out; have hnc202 := NB211_209.out; have hnb203 := NB209_213.out; have hnc203 := NB213_209.out; have hnb204 := NB209_219.out; have hnc204 := NB219_209.out; have hcz205_0 : wc.cell? ⟨gb209, 0, none⟩ = some (.int .i64 a5_0) := (zF BK209.out 0).trans rfl
            have hcz205_1 : wc.cell? ⟨gb209, 1, none⟩ = some (.int .i64 a5_1) := (zF BK209.out 1).trans rfl
            have hcz205_2 : wc.cell? ⟨gb209, 2, none⟩ = some (.int .u8 a5_2) := (zF BK209.out 2).trans rfl
            have hcz205_3 : wc.cell? ⟨gb209, 3, none⟩ = some (.int .i64 a5_3) := (zF BK209.out 3).trans rfl
            have hcz205_4 : wc.cell? ⟨gb209, 4, none⟩ = some (.int .i64 a5_4) := (zF BK209.out 4).trans rfl
            have hcz205_5 : wc.cell? ⟨gb209, 5, none⟩ = some (.float .f64 a5_5) := (zF BK209.out 5).trans rfl
            have hfz205_0 := zH BK209.out 0; have hfz205_1 := zH BK209.out 1; have hfz205_2 := zH BK209.out 2; have hfz205_3 := zH BK209.out 3; have hfz205_4 := zH BK209.out 4; have hfz205_5 := zH BK209.out 5; go_wp2_with (first | ((with_reducible refine gate_callee (f := 41) rfl ?_); refine goesL_ (some 102) rfl rfl Try.func41 (by kernel_rfl) rfl #[.agg #[.slice (some ad212) l0_0.length c0_0, .slice A0_1 l0_1.length c0_1], .int .i64 a1, .int .u8 t216, .int .i64 x15_40, .int .i64 x17_40, .bool (x18_1 == a3), .agg #[.int .i64 a5_0, .int .i64 a5_1, .int .u8 a5_2, .int .i64 a5_3, .int .i64 a5_4, .float .f64 a5_5]] rfl (by (try simp only [List.map_toArray, List.map_cons, List.map_nil]); first | done | rfl | (simp only [List.length_drop, List.length_take]; rfl)) ?_; (with_reducible refine (best_price.calls kj66 _ _ l0_0 _ _ l0_1 a1 t216 x15_40 x17_40 (x18_1 == a3) a5_0 a5_1 a5_2 a5_3 a5_4 a5_5 t222 true _ ?side1 ?side2 ?side3 ?side4 A171.out).mono ?_); (case side1 => repeat (first | exact (Kd.C_below HR0_0.out HB.out) | (with_reducible refine Kd.C_alloc ?_ _) | (with_reducible refine Kd.C_drewN ?_ _) | (with_reducible refine Kd.C_drew ?_))); (case side2 => exact HC0_0.out); (case side3 => repeat (first | exact (Kd.C_below HR0_1.out HB.out) | (with_reducible refine Kd.C_alloc ?_ _) | (with_reducible refine Kd.C_drewN ?_ _) | (with_reducible refine Kd.C_drew ?_))); (case side4 => exact HC0_1.out); rintro e w206 ⟨rfl, hb⟩; refine ⟨_, rfl, ?_⟩; have n0_ := zC.mk (zK (g := gb208) (o := .cells #[.slice (some ad212) l0_0.length c0_0, .slice A0_1 l0_1.length c0_1] 31 (0, 0)) (by (with_reducible repeat (first | refine zB ?_ _ | refine zD ?_ | refine zA ?_ _)); exact BK208.out) hb); have n1_ := zC.mk (zK (g := gb209) (o := .cells #[.int .i64 a5_0, .int .i64 a5_1, .int .u8 a5_2, .int .i64 a5_3, .int .i64 a5_4, .float .f64 a5_5] 35 (0, 0)) (by (with_reducible repeat (first | refine zB ?_ _ | refine zD ?_ | refine zA ?_ _)); exact BK209.out) hb); have n2_ := zC.mk (zK (g := gb210) (o := .cells #[.int .i64 0, .int .i64 0] 70 (0, 0)) (by (with_reducible repeat (first | refine zB ?_ _ | refine zD ?_ | refine zA ?_ _)); exact BK210.out) hb); have n3_ := zC.mk (zK (g := gb211) (o := .cells #[.int .i64 x212000_1, .int .i64 x212001_1] 70 (0, 0)) (by (with_reducible repeat (first | refine zB ?_ _ | refine zD ?_ | refine zA ?_ _)); exact BK211.out) hb); have n4_ := zC.mk (zK (g := gb213) (o := .cells #[.int .i64 ((rd_T66 l0_0 (ji17)).f0), .int .i64 ((rd_T66 l0_0 (ji17)).f1), .int .i64 ((rd_T66 l0_0 (ji17)).f2), .int .u8 ((rd_T66 l0_0 (ji17)).f3)] 66 (0, 0)) (by (with_reducible repeat (first | refine zB ?_ _ | refine zD ?_ | refine zA ?_ _)); exact BK213.out) hb); have n5_ := zC.mk (zK (g := gb219) (o := .cells #[.int .i64 ((rd_T70 l4 (ji64)).f0), .int .i64 ((rd_T70 l4 (ji64)).f1)] 70 (0, 0)) (by (with_reducible repeat (first | refine zB ?_ _ | refine zD ?_ | refine zA ?_ _)); exact BK219.out) hb); have n6_ := zC.mk (zQ (by repeat (first | (with_reducible first | exact HB.out | apply zJ | apply zG | apply zI | refine zE ?_ GE208.out | refine zE ?_ GE209.out | refine zE ?_ GE210.out | refine zE ?_ GE211.out | refine zE ?_ GE213.out | refine zE ?_ GE219.out) | exact HB.out)) hb); clear BK208; clear BK209; clear BK210; clear BK211; clear BK213; clear BK219; clear HB; have BK208 := n0_; have BK209 := n1_; have BK210 := n2_; have BK211 := n3_; have BK213 := n4_; have BK219 := n5_; have HB := n6_; clear n0_ n1_ n2_ n3_ n4_ n5_ n6_; (try clear hb); (try clear hb2); (try clear hk); (try clear hi); have hnb207 := NB211_210.out; have hnc207 := NB210_211.out; have hnb208 := NB211_213.out; have hnc208 := NB213_211.out; have hnb209 := NB211_219.out; have hnc209 := NB219_211.out; have hcz210_0 : w206.cell? ⟨gb211, 0, none⟩ = some (.int .i64 x212000_1) := (zF BK211.out 0).trans rfl; have hcz210_1 : w206.cell? ⟨gb211, 1, none⟩ = some (.int .i64 x212001_1) := (zF BK211.out 1).trans rfl; have hfz210_0 := zH BK211.out 0; have hfz210_1 := zH BK211.out 1; have hnb211 := NB219_210.out; have hnc211 := NB210_219.out; have hnb212 := NB219_213.out; have hnc212 := NB213_219.out; have hcz213_0 : w206.cell? ⟨gb219, 0, none⟩ = some (.int .i64 ((rd_T70 l4 (ji64)).f0)) := (zF BK219.out 0).trans rfl; have hcz213_1 : w206.cell? ⟨gb219, 1, none⟩ = some (.int .i64 ((rd_T70 l4 (ji64)).f1)) := (zF BK219.out 1).trans rfl; have hfz213_0 := zH BK219.out 0; have hfz213_1 := zH BK219.out 1) | ((with_reducible refine gate_store (t := 70) (p := 13) rfl ?_); refine store_event (t := 70) (p := 13) (v := ?vo_w214) (w1 := ((w206.setCell ⟨gb211, 0, none⟩ (.int .i64 (wrap64 (t222 + ((rd_T70 l4 (ji64)).f0))))).setCell ⟨gb211, 1, none⟩ (.int .i64 x18_1))) ?hg ?ho ?hn ?hr ?_; (case ho => rfl); (case hg => rfl); (case hn => rfl); (case hr => first | (go_simp; done) | (go_simp; rfl)); intro w214 hw; have n0_ : zC (w214.heap[gb208]? = some (.cells #[.slice (some ad212) l0_0.length c0_0, .slice A0_1 l0_1.length c0_1] 31 (0, 0))) := ⟨(by rw [hw]; exact (by (with_reducible repeat (first | refine zB ?_ _ | refine zD ?_ | refine zA ?_ _)); refine zO ?_ NB208_211.out _; (with_reducible repeat (first | refine zB ?_ _ | refine zD ?_ | refine zA ?_ _)); refine zO ?_ NB208_211.out _; (with_reducible repeat (first | refine zB ?_ _ | refine zD ?_ | refine zA ?_ _)); exact BK208.out))⟩; have n1_ : zC (w214.heap[gb209]? = some (.cells #[.int .i64 a5_0, .int .i64 a5_1, .int .u8 a5_2, .int .i64 a5_3, .int .i64 a5_4, .float .f64 a5_5] 35 (0, 0))) := ⟨(by rw [hw]; exact (by (with_reducible repeat (first | refine zB ?_ _ | refine zD ?_ | refine zA ?_ _)); refine zO ?_ NB209_211.out _; (with_reducible repeat (first | refine zB ?_ _ | refine zD ?_ | refine zA ?_ _)); refine zO ?_ NB209_211.out _; (with_reducible repeat (first | refine zB ?_ _ | refine zD ?_ | refine zA ?_ _)); exact BK209.out))⟩; have n2_ : zC (w214.heap[gb210]? = some (.cells #[.int .i64 0, .int .i64 0] 70 (0, 0))) := ⟨(by rw [hw]; exact (by (with_reducible repeat (first | refine zB ?_ _ | refine zD ?_ | refine zA ?_ _)); refine zO ?_ NB210_211.out _; (with_reducible repeat (first | refine zB ?_ _ | refine zD ?_ | refine zA ?_ _)); refine zO ?_ NB210_211.out _; (with_reducible repeat (first | refine zB ?_ _ | refine zD ?_ | refine zA ?_ _)); exact BK210.out))⟩; have n3_ : zC (w214.heap[gb211]? = some (.cells #[.int .i64 (wrap64 (t222 + ((rd_T70 l4 (ji64)).f0))), .int .i64 x18_1] 70 (0, 0))) := ⟨(by rw [hw]; exact (by (with_reducible repeat (first | refine zB ?_ _ | refine zD ?_ | refine zA ?_ _)); refine blk_put (cs := #[.int .i64 (wrap64 (t222 + ((rd_T70 l4 (ji64)).f0))), .int .i64 x212001_1]) ?_ 1 _ rfl; (with_reducible repeat (first | refine zB ?_ _ | refine zD ?_ | refine zA ?_ _)); refine blk_put (cs := #[.int .i64 x212000_1, .int .i64 x212001_1]) ?_ 0 _ rfl; (with_reducible repeat (first | refine zB ?_ _ | refine zD ?_ | refine zA ?_ _)); exact BK211.out))⟩; have n4_ : zC (w214.heap[gb213]? = some (.cells #[.int .i64 ((rd_T66 l0_0 (ji17)).f0), .int .i64 ((rd_T66 l0_0 (ji17)).f1), .int .i64 ((rd_T66 l0_0 (ji17)).f2), .int .u8 ((rd_T66 l0_0 (ji17)).f3)] 66 (0, 0))) := ⟨(by rw [hw]; exact (by (with_reducible repeat (first | refine zB ?_ _ | refine zD ?_ | refine zA ?_ _)); refine zO ?_ NB213_211.out _; (with_reducible repeat (first | refine zB ?_ _ | refine zD ?_ | refine zA ?_ _)); refine zO ?_ NB213_211.out _; (with_reducible repeat (first | refine zB ?_ _ | refine zD ?_ | refine zA ?_ _)); exact BK213.out))⟩; have n5_ : zC (w214.heap[gb219]? = some (.cells #[.int .i64 ((rd_T70 l4 (ji64)).f0), .int .i64 ((rd_T70 l4 (ji64)).f1)] 70 (0, 0))) := ⟨(by rw [hw]; exact (by (with_reducible repeat (first | refine zB ?_ _ | refine zD ?_ | refine zA ?_ _)); refine zO ?_ NB219_211.out _; (with_reducible repeat (first | refine zB ?_ _ | refine zD ?_ | refine zA ?_ _)); refine zO ?_ NB219_211.out _; (with_reducible repeat (first | refine zB ?_ _ | refine zD ?_ | refine zA ?_ _)); exact BK219.out))⟩; have n6_ : zC (Below w.heap.size w w214) := ⟨(by rw [hw]; exact (by repeat (first | (with_reducible first | exact HB.out | apply zJ | apply zG | apply zI | refine zE ?_ GE208.out | refine zE ?_ GE209.out | refine zE ?_ GE210.out | refine zE ?_ GE211.out | refine zE ?_ GE213.out | refine zE ?_ GE219.out) | exact HB.out)))⟩; clear hw; clear BK208; clear BK209; clear BK210; clear BK211; clear BK213; clear BK219; clear HB; have BK208 := n0_; have BK209 := n1_; have BK210 := n2_; have BK211 := n3_; have BK213 := n4_; have BK219 := n5_; have HB := n6_; clear n0_ n1_ n2_ n3_ n4_ n5_ n6_))
            go_roundg kj66
            case measure => have := HK1.out; have := HJ20.out; have := HJ40.out; have := HJ66.out; omega
            case rel => exact ⟨(t214), (x15_40), (x16_20), (x17_40), (wrap64 (x18_1 + 1)), (wrap64 (t222 + ((rd_T70 l4 (ji64)).f0))), (x18_1), (by first | rfl | (simp; done) | (simp [*]; done)), (by first | rfl | (simp; done) | (simp [*]; done)), (by first | rfl | (simp; done) | (simp [*]; done)), (by first | rfl | (simp; done) | (simp [*]; done)), (by first | rfl | (simp; done) | (simp [*]; done)), H', ⟨by have := HK1.out; have := HJ20.out; have := HJ40.out; have := HJ66.out; omega⟩, ⟨by (with_reducible repeat (first | refine zB ?_ _ | refine zD ?_ | refine zA ?_ _)); exact BK208.out⟩, ⟨by (with_reducible repeat (first | refine zB ?_ _ | refine zD ?_ | refine zA ?_ _)); exact BK209.out⟩, ⟨by (with_reducible repeat (first | refine zB ?_ _ | refine zD ?_ | refine zA ?_ _)); exact BK210.out⟩, ⟨by (with_reducible repeat (first | refine zB ?_ _ | refine zD ?_ | refine zA ?_ _)); exact BK211.out⟩, ⟨by repeat (first | (with_reducible first | exact HB.out | apply zJ | apply zG | apply zI | refine zE ?_ GE208.out | refine zE ?_ GE209.out | refine zE ?_ GE210.out | refine zE ?_ GE211.out | refine zE ?_ GE213.out | refine zE ?_ GE219.out) | exact HB.out)⟩⟩
          rw [if_pos c95] at H; have c95b0 : (t216 == 3) = true := beq_iff_eq.mpr c95
          have c95b1 : (t216 != 3) = false := bne_eq_false_iff_eq.mpr c95
          clear c95; replace H := Option.bind_eq_some_iff.mp H; obtain ⟨⟨t220, t221⟩, A960, H⟩ := H; replace H : (if t221 = true then (if x212001_1 < 0 then (best_next.l0 kj66 a1 a2 a3 l4 t214 x15_40 x16_20 x17_40 (wrap64 (x18_1 + 1)) l0_0 l0_1 a5_0 a5_1 a5_2 a5_3 a5_4 a5_5 (wrap64 (t220 + ((rd_T70 l4 (ji64)).f0))) x18_1) else (if (wrap64 (t220 + ((rd_T70 l4 (ji64)).f0))) < x212000_1 then (best_next.l0 kj66 a1 a2 a3 l4 t214 x15_40 x16_20 x17_40 (wrap64 (x18_1 + 1)) l0_0 l0_1 a5_0 a5_1 a5_2 a5_3 a5_4 a5_5 (wrap64 (t220 + ((rd_T70 l4 (ji64)).f0))) x18_1) else (best_next.l0 kj66 a1 a2 a3 l4 t214 x15_40 x16_20 x17_40 (wrap64 (x18_1 + 1)) l0_0 l0_1 a5_0 a5_1 a5_2 a5_3 a5_4 a5_5 x212000_1 x212001_1))) else (best_next.l0 kj66 a1 a2 a3 l4 t214 x15_40 x16_20 x17_40 (wrap64 (x18_1 + 1)) l0_0 l0_1 a5_0 a5_1 a5_2 a5_3 a5_4 a5_5 x212000_1 x212001_1)) = some (r1, r2) := H; have A96 := zC.mk A960; clear A960; by_cases c97 : t221 = true
          rotate_left
          · replace c97 := Bool.eq_false_iff.mpr c97
            subst c97; have H1 : (best_next.l0 kj66 a1 a2 a3 l4 t214 x15_40 x16_20 x17_40 (wrap64 (x18_1 + 1)) l0_0 l0_1 a5_0 a5_1 a5_2 a5_3 a5_4 a5_5 x212000_1 x212001_1) = some (r1, r2) := by rw [if_neg (show ¬ (false = true) by decide)] at H; exact H
            clear H; have H := H1; clear H1; have H' := zC.mk H
            clear H; have hnb159 := NB208_209.out; have hnc159 := NB209_208.out; have hnb160 := NB208_210.out; have hnc160 := NB210_208.out; have hnb161 := NB208_211.out; have hnc161 := NB211_208.out; have hnb162 := NB208_213.out; have hnc162 := NB213_208.out; have hnb163 := NB208_219.out; have hnc163 := NB219_208.out; have hcz164_0 : wc.cell? ⟨gb208, 0, none⟩ = some (.slice (some ad212) l0_0.length c0_0) := (zF BK208.out 0).trans rfl
            have hcz164_1 : wc.cell? ⟨gb208, 1, none⟩ = some (.slice A0_1 l0_1.length c0_1) := (zF BK208.out 1).trans rfl
            have hfz164_0 := zH BK208.out 0; have hfz164_1 := zH BK208.out 1; have hnb165 := NB209_210.out; have hnc165 := NB210_209.out; have hnb166 := NB209_211.out; have hnc166 := NB211_209.out; have hnb167 := NB209_213.out; have hnc167 := NB213_209.out; have hnb168 := NB209_219.out; have hnc168 := NB219_209.out; have hcz169_0 : wc.cell? ⟨gb209, 0, none⟩ = some (.int .i64 a5_0) := (zF BK209.out 0).trans rfl
            have hcz169_1 : wc.cell? ⟨gb209, 1, none⟩ = some (.int .i64 a5_1) := (zF BK209.out 1).trans rfl
            have hcz169_2 : wc.cell? ⟨gb209, 2, none⟩ = some (.int .u8 a5_2) := (zF BK209.out 2).trans rfl
            have hcz169_3 : wc.cell? ⟨gb209, 3, none⟩ = some (.int .i64 a5_3) := (zF BK209.out 3).trans rfl
            have hcz169_4 : wc.cell? ⟨gb209, 4, none⟩ = some (.int .i64 a5_4) := (zF BK209.out 4).trans rfl
            have hcz169_5 : wc.cell? ⟨gb209, 5, none⟩ = some (.float .f64 a5_5) := (zF BK209.out 5).trans rfl
            have hfz169_0 := zH BK209.out 0; have hfz169_1 := zH BK209.out 1; have hfz169_2 := zH BK209.out 2; have hfz169_3 := zH BK209.out 3; have hfz169_4 := zH BK209.out 4; have hfz169_5 := zH BK209.out 5; go_wp2_with (first | ((with_reducible refine gate_callee (f := 41) rfl ?_); refine goesL_ (some 102) rfl rfl Try.func41 (by kernel_rfl) rfl #[.agg #[.slice (some ad212) l0_0.length c0_0, .slice A0_1 l0_1.length c0_1], .int .i64 a1, .int .u8 t216, .int .i64 (wrap64 (x15_40 + 1)), .int .i64 x17_40, .bool (x18_1 == a3), .agg #[.int .i64 a5_0, .int .i64 a5_1, .int .u8 a5_2, .int .i64 a5_3, .int .i64 a5_4, .float .f64 a5_5]] rfl (by (try simp only [List.map_toArray, List.map_cons, List.map_nil]); first | done | rfl | (simp only [List.length_drop, List.length_take]; rfl)) ?_; (with_reducible refine (best_price.calls kj66 _ _ l0_0 _ _ l0_1 a1 t216 (wrap64 (x15_40 + 1)) x17_40 (x18_1 == a3) a5_0 a5_1 a5_2 a5_3 a5_4 a5_5 t220 false _ ?side1 ?side2 ?side3 ?side4 A96.out).mono ?_); (case side1 => repeat (first | exact (Kd.C_below HR0_0.out HB.out) | (with_reducible refine Kd.C_alloc ?_ _) | (with_reducible refine Kd.C_drewN ?_ _) | (with_reducible refine Kd.C_drew ?_))); (case side2 => exact HC0_0.out); (case side3 => repeat (first | exact (Kd.C_below HR0_1.out HB.out) | (with_reducible refine Kd.C_alloc ?_ _) | (with_reducible refine Kd.C_drewN ?_ _) | (with_reducible refine Kd.C_drew ?_))); (case side4 => exact HC0_1.out); rintro e w170 ⟨rfl, hb⟩; refine ⟨_, rfl, ?_⟩; have n0_ := zC.mk (zK (g := gb208) (o := .cells #[.slice (some ad212) l0_0.length c0_0, .slice A0_1 l0_1.length c0_1] 31 (0, 0)) (by (with_reducible repeat (first | refine zB ?_ _ | refine zD ?_ | refine zA ?_ _)); exact BK208.out) hb); have n1_ := zC.mk (zK (g := gb209) (o := .cells #[.int .i64 a5_0, .int .i64 a5_1, .int .u8 a5_2, .int .i64 a5_3, .int .i64 a5_4, .float .f64 a5_5] 35 (0, 0)) (by (with_reducible repeat (first | refine zB ?_ _ | refine zD ?_ | refine zA ?_ _)); exact BK209.out) hb); have n2_ := zC.mk (zK (g := gb210) (o := .cells #[.int .i64 0, .int .i64 0] 70 (0, 0)) (by (with_reducible repeat (first | refine zB ?_ _ | refine zD ?_ | refine zA ?_ _)); exact BK210.out) hb); have n3_ := zC.mk (zK (g := gb211) (o := .cells #[.int .i64 x212000_1, .int .i64 x212001_1] 70 (0, 0)) (by (with_reducible repeat (first | refine zB ?_ _ | refine zD ?_ | refine zA ?_ _)); exact BK211.out) hb); have n4_ := zC.mk (zK (g := gb213) (o := .cells #[.int .i64 ((rd_T66 l0_0 (ji17)).f0), .int .i64 ((rd_T66 l0_0 (ji17)).f1), .int .i64 ((rd_T66 l0_0 (ji17)).f2), .int .u8 ((rd_T66 l0_0 (ji17)).f3)] 66 (0, 0)) (by (with_reducible repeat (first | refine zB ?_ _ | refine zD ?_ | refine zA ?_ _)); exact BK213.out) hb); have n5_ := zC.mk (zK (g := gb219) (o := .cells #[.int .i64 ((rd_T70 l4 (ji64)).f0), .int .i64 ((rd_T70 l4 (ji64)).f1)] 70 (0, 0)) (by (with_reducible repeat (first | refine zB ?_ _ | refine zD ?_ | refine zA ?_ _)); exact BK219.out) hb); have n6_ := zC.mk (zQ (by repeat (first | (with_reducible first | exact HB.out | apply zJ | apply zG | apply zI | refine zE ?_ GE208.out | refine zE ?_ GE209.out | refine zE ?_ GE210.out | refine zE ?_ GE211.out | refine zE ?_ GE213.out | refine zE ?_ GE219.out) | exact HB.out)) hb); clear BK208; clear BK209; clear BK210; clear BK211; clear BK213; clear BK219; clear HB; have BK208 := n0_; have BK209 := n1_; have BK210 := n2_; have BK211 := n3_; have BK213 := n4_; have BK219 := n5_; have HB := n6_; clear n0_ n1_ n2_ n3_ n4_ n5_ n6_; (try clear hb); (try clear hb2); (try clear hk); (try clear hi)))
            go_roundg kj66
            case measure => have := HK1.out; have := HJ20.out; have := HJ40.out; have := HJ66.out; omega
            case rel => exact ⟨(t214), (x15_40), (x16_20), (x17_40), (wrap64 (x18_1 + 1)), (x212000_1), (x212001_1), (by first | rfl | (simp; done) | (simp [*]; done)), (by first | rfl | (simp; done) | (simp [*]; done)), (by first | rfl | (simp; done) | (simp [*]; done)), (by first | rfl | (simp; done) | (simp [*]; done)), (by first | rfl | (simp; done) | (simp [*]; done)), H', ⟨by have := HK1.out; have := HJ20.out; have := HJ40.out; have := HJ66.out; omega⟩, ⟨by (with_reducible repeat (first | refine zB ?_ _ | refine zD ?_ | refine zA ?_ _)); exact BK208.out⟩, ⟨by (with_reducible repeat (first | refine zB ?_ _ | refine zD ?_ | refine zA ?_ _)); exact BK209.out⟩, ⟨by (with_reducible repeat (first | refine zB ?_ _ | refine zD ?_ | refine zA ?_ _)); exact BK210.out⟩, ⟨by (with_reducible repeat (first | refine zB ?_ _ | refine zD ?_ | refine zA ?_ _)); exact BK211.out⟩, ⟨by repeat (first | (with_reducible first | exact HB.out | apply zJ | apply zG | apply zI | refine zE ?_ GE208.out | refine zE ?_ GE209.out | refine zE ?_ GE210.out | refine zE ?_ GE211.out | refine zE ?_ GE213.out | refine zE ?_ GE219.out) | exact HB.out)⟩⟩
          subst c97; have H1 : (if x212001_1 < 0 then (best_next.l0 kj66 a1 a2 a3 l4 t214 x15_40 x16_20 x17_40 (wrap64 (x18_1 + 1)) l0_0 l0_1 a5_0 a5_1 a5_2 a5_3 a5_4 a5_5 (wrap64 (t220 + ((rd_T70 l4 (ji64)).f0))) x18_1) else (if (wrap64 (t220 + ((rd_T70 l4 (ji64)).f0))) < x212000_1 then (best_next.l0 kj66 a1 a2 a3 l4 t214 x15_40 x16_20 x17_40 (wrap64 (x18_1 + 1)) l0_0 l0_1 a5_0 a5_1 a5_2 a5_3 a5_4 a5_5 (wrap64 (t220 + ((rd_T70 l4 (ji64)).f0))) x18_1) else (best_next.l0 kj66 a1 a2 a3 l4 t214 x15_40 x16_20 x17_40 (wrap64 (x18_1 + 1)) l0_0 l0_1 a5_0 a5_1 a5_2 a5_3 a5_4 a5_5 x212000_1 x212001_1))) = some (r1, r2) := by rw [if_pos rfl] at H; exact H
          clear H; have H := H1; clear H1; by_cases c98 : x212001_1 < 0
          · rw [if_pos c98] at H
            have c98b0 : decide (x212001_1 < 0) = true := decide_eq_true c98
            clear c98; have H' := zC.mk H
            clear H; have hnb99 := NB208_209.out; have hnc99 := NB209_208.out; have hnb100 := NB208_210.out; have hnc100 := NB210_208.out; have hnb101 := NB208_211.out; have hnc101 := NB211_208.out; have hnb102 := NB208_213.out; have hnc102 := NB213_208.out; have hnb103 := NB208_219.out; have hnc103 := NB219_208.out; have hcz104_0 : wc.cell? ⟨gb208, 0, none⟩ = some (.slice (some ad212) l0_0.length c0_0) := (zF BK208.out 0).trans rfl
            have hcz104_1 : wc.cell? ⟨gb208, 1, none⟩ = some (.slice A0_1 l0_1.length c0_1) := (zF BK208.out 1).trans rfl
            have hfz104_0 := zH BK208.out 0; have hfz104_1 := zH BK208.out 1; have hnb105 := NB209_210.out; have hnc105 := NB210_209.out; have hnb106 := NB209_211.out; have hnc106 := NB211_209.out; have hnb107 := NB209_213.out; have hnc107 := NB213_209.out; have hnb108 := NB209_219.out; have hnc108 := NB219_209.out; have hcz109_0 : wc.cell? ⟨gb209, 0, none⟩ = some (.int .i64 a5_0) := (zF BK209.out 0).trans rfl
            have hcz109_1 : wc.cell? ⟨gb209, 1, none⟩ = some (.int .i64 a5_1) := (zF BK209.out 1).trans rfl
            have hcz109_2 : wc.cell? ⟨gb209, 2, none⟩ = some (.int .u8 a5_2) := (zF BK209.out 2).trans rfl
            have hcz109_3 : wc.cell? ⟨gb209, 3, none⟩ = some (.int .i64 a5_3) := (zF BK209.out 3).trans rfl
            have hcz109_4 : wc.cell? ⟨gb209, 4, none⟩ = some (.int .i64 a5_4) := (zF BK209.out 4).trans rfl
            have hcz109_5 : wc.cell? ⟨gb209, 5, none⟩ = some (.float .f64 a5_5) := (zF BK209.out 5).trans rfl
            have hfz109_0 := zH BK209.out 0; have hfz109_1 := zH BK209.out 1; have hfz109_2 := zH BK209.out 2; have hfz109_3 := zH BK209.out 3; have hfz109_4 := zH BK209.out 4; have hfz109_5 := zH BK209.out 5; go_wp2_with (first | ((with_reducible refine gate_callee (f := 41) rfl ?_); refine goesL_ (some 102) rfl rfl Try.func41 (by kernel_rfl) rfl #[.agg #[.slice (some ad212) l0_0.length c0_0, .slice A0_1 l0_1.length c0_1], .int .i64 a1, .int .u8 t216, .int .i64 (wrap64 (x15_40 + 1)), .int .i64 x17_40, .bool (x18_1 == a3), .agg #[.int .i64 a5_0, .int .i64 a5_1, .int .u8 a5_2, .int .i64 a5_3, .int .i64 a5_4, .float .f64 a5_5]] rfl (by (try simp only [List.map_toArray, List.map_cons, List.map_nil]); first | done | rfl | (simp only [List.length_drop, List.length_take]; rfl)) ?_; (with_reducible refine (best_price.calls kj66 _ _ l0_0 _ _ l0_1 a1 t216 (wrap64 (x15_40 + 1)) x17_40 (x18_1 == a3) a5_0 a5_1 a5_2 a5_3 a5_4 a5_5 t220 true _ ?side1 ?side2 ?side3 ?side4 A96.out).mono ?_); (case side1 => repeat (first | exact (Kd.C_below HR0_0.out HB.out) | (with_reducible refine Kd.C_alloc ?_ _) | (with_reducible refine Kd.C_drewN ?_ _) | (with_reducible refine Kd.C_drew ?_))); (case side2 => exact HC0_0.out); (case side3 => repeat (first | exact (Kd.C_below HR0_1.out HB.out) | (with_reducible refine Kd.C_alloc ?_ _) | (with_reducible refine Kd.C_drewN ?_ _) | (with_reducible refine Kd.C_drew ?_))); (case side4 => exact HC0_1.out); rintro e w110 ⟨rfl, hb⟩; refine ⟨_, rfl, ?_⟩; have n0_ := zC.mk (zK (g := gb208) (o := .cells #[.slice (some ad212) l0_0.length c0_0, .slice A0_1 l0_1.length c0_1] 31 (0, 0)) (by (with_reducible repeat (first | refine zB ?_ _ | refine zD ?_ | refine zA ?_ _)); exact BK208.out) hb); have n1_ := zC.mk (zK (g := gb209) (o := .cells #[.int .i64 a5_0, .int .i64 a5_1, .int .u8 a5_2, .int .i64 a5_3, .int .i64 a5_4, .float .f64 a5_5] 35 (0, 0)) (by (with_reducible repeat (first | refine zB ?_ _ | refine zD ?_ | refine zA ?_ _)); exact BK209.out) hb); have n2_ := zC.mk (zK (g := gb210) (o := .cells #[.int .i64 0, .int .i64 0] 70 (0, 0)) (by (with_reducible repeat (first | refine zB ?_ _ | refine zD ?_ | refine zA ?_ _)); exact BK210.out) hb); have n3_ := zC.mk (zK (g := gb211) (o := .cells #[.int .i64 x212000_1, .int .i64 x212001_1] 70 (0, 0)) (by (with_reducible repeat (first | refine zB ?_ _ | refine zD ?_ | refine zA ?_ _)); exact BK211.out) hb); have n4_ := zC.mk (zK (g := gb213) (o := .cells #[.int .i64 ((rd_T66 l0_0 (ji17)).f0), .int .i64 ((rd_T66 l0_0 (ji17)).f1), .int .i64 ((rd_T66 l0_0 (ji17)).f2), .int .u8 ((rd_T66 l0_0 (ji17)).f3)] 66 (0, 0)) (by (with_reducible repeat (first | refine zB ?_ _ | refine zD ?_ | refine zA ?_ _)); exact BK213.out) hb); have n5_ := zC.mk (zK (g := gb219) (o := .cells #[.int .i64 ((rd_T70 l4 (ji64)).f0), .int .i64 ((rd_T70 l4 (ji64)).f1)] 70 (0, 0)) (by (with_reducible repeat (first | refine zB ?_ _ | refine zD ?_ | refine zA ?_ _)); exact BK219.out) hb); have n6_ := zC.mk (zQ (by repeat (first | (with_reducible first | exact HB.out | apply zJ | apply zG | apply zI | refine zE ?_ GE208.out | refine zE ?_ GE209.out | refine zE ?_ GE210.out | refine zE ?_ GE211.out | refine zE ?_ GE213.out | refine zE ?_ GE219.out) | exact HB.out)) hb); clear BK208; clear BK209; clear BK210; clear BK211; clear BK213; clear BK219; clear HB; have BK208 := n0_; have BK209 := n1_; have BK210 := n2_; have BK211 := n3_; have BK213 := n4_; have BK219 := n5_; have HB := n6_; clear n0_ n1_ n2_ n3_ n4_ n5_ n6_; (try clear hb); (try clear hb2); (try clear hk); (try clear hi); have hnb111 := NB211_210.out; have hnc111 := NB210_211.out; have hnb112 := NB211_213.out; have hnc112 := NB213_211.out; have hnb113 := NB211_219.out; have hnc113 := NB219_211.out; have hcz114_0 : w110.cell? ⟨gb211, 0, none⟩ = some (.int .i64 x212000_1) := (zF BK211.out 0).trans rfl; have hcz114_1 : w110.cell? ⟨gb211, 1, none⟩ = some (.int .i64 x212001_1) := (zF BK211.out 1).trans rfl; have hfz114_0 := zH BK211.out 0; have hfz114_1 := zH BK211.out 1; have hnb115 := NB219_210.out; have hnc115 := NB210_219.out; have hnb116 := NB219_213.out; have hnc116 := NB213_219.out; have hcz117_0 : w110.cell? ⟨gb219, 0, none⟩ = some (.int .i64 ((rd_T70 l4 (ji64)).f0)) := (zF BK219.out 0).trans rfl; have hcz117_1 : w110.cell? ⟨gb219, 1, none⟩ = some (.int .i64 ((rd_T70 l4 (ji64)).f1)) := (zF BK219.out 1).trans rfl; have hfz117_0 := zH BK219.out 0; have hfz117_1 := zH BK219.out 1) | ((with_reducible refine gate_store (t := 70) (p := 13) rfl ?_); refine store_event (t := 70) (p := 13) (v := ?vo_w118) (w1 := ((w110.setCell ⟨gb211, 0, none⟩ (.int .i64 (wrap64 (t220 + ((rd_T70 l4 (ji64)).f0))))).setCell ⟨gb211, 1, none⟩ (.int .i64 x18_1))) ?hg ?ho ?hn ?hr ?_; (case ho => rfl); (case hg => rfl); (case hn => rfl); (case hr => first | (go_simp; done) | (go_simp; rfl)); intro w118 hw; have n0_ : zC (w118.heap[gb208]? = some (.cells #[.slice (some ad212) l0_0.length c0_0, .slice A0_1 l0_1.length c0_1] 31 (0, 0))) := ⟨(by rw [hw]; exact (by (with_reducible repeat (first | refine zB ?_ _ | refine zD ?_ | refine zA ?_ _)); refine zO ?_ NB208_211.out _; (with_reducible repeat (first | refine zB ?_ _ | refine zD ?_ | refine zA ?_ _)); refine zO ?_ NB208_211.out _; (with_reducible repeat (first | refine zB ?_ _ | refine zD ?_ | refine zA ?_ _)); exact BK208.out))⟩; have n1_ : zC (w118.heap[gb209]? = some (.cells #[.int .i64 a5_0, .int .i64 a5_1, .int .u8 a5_2, .int .i64 a5_3, .int .i64 a5_4, .float .f64 a5_5] 35 (0, 0))) := ⟨(by rw [hw]; exact (by (with_reducible repeat (first | refine zB ?_ _ | refine zD ?_ | refine zA ?_ _)); refine zO ?_ NB209_211.out _; (with_reducible repeat (first | refine zB ?_ _ | refine zD ?_ | refine zA ?_ _)); refine zO ?_ NB209_211.out _; (with_reducible repeat (first | refine zB ?_ _ | refine zD ?_ | refine zA ?_ _)); exact BK209.out))⟩; have n2_ : zC (w118.heap[gb210]? = some (.cells #[.int .i64 0, .int .i64 0] 70 (0, 0))) := ⟨(by rw [hw]; exact (by (with_reducible repeat (first | refine zB ?_ _ | refine zD ?_ | refine zA ?_ _)); refine zO ?_ NB210_211.out _; (with_reducible repeat (first | refine zB ?_ _ | refine zD ?_ | refine zA ?_ _)); refine zO ?_ NB210_211.out _; (with_reducible repeat (first | refine zB ?_ _ | refine zD ?_ | refine zA ?_ _)); exact BK210.out))⟩; have n3_ : zC (w118.heap[gb211]? = some (.cells #[.int .i64 (wrap64 (t220 + ((rd_T70 l4 (ji64)).f0))), .int .i64 x18_1] 70 (0, 0))) := ⟨(by rw [hw]; exact (by (with_reducible repeat (first | refine zB ?_ _ | refine zD ?_ | refine zA ?_ _)); refine blk_put (cs := #[.int .i64 (wrap64 (t220 + ((rd_T70 l4 (ji64)).f0))), .int .i64 x212001_1]) ?_ 1 _ rfl; (with_reducible repeat (first | refine zB ?_ _ | refine zD ?_ | refine zA ?_ _)); refine blk_put (cs := #[.int .i64 x212000_1, .int .i64 x212001_1]) ?_ 0 _ rfl; (with_reducible repeat (first | refine zB ?_ _ | refine zD ?_ | refine zA ?_ _)); exact BK211.out))⟩; have n4_ : zC (w118.heap[gb213]? = some (.cells #[.int .i64 ((rd_T66 l0_0 (ji17)).f0), .int .i64 ((rd_T66 l0_0 (ji17)).f1), .int .i64 ((rd_T66 l0_0 (ji17)).f2), .int .u8 ((rd_T66 l0_0 (ji17)).f3)] 66 (0, 0))) := ⟨(by rw [hw]; exact (by (with_reducible repeat (first | refine zB ?_ _ | refine zD ?_ | refine zA ?_ _)); refine zO ?_ NB213_211.out _; (with_reducible repeat (first | refine zB ?_ _ | refine zD ?_ | refine zA ?_ _)); refine zO ?_ NB213_211.out _; (with_reducible repeat (first | refine zB ?_ _ | refine zD ?_ | refine zA ?_ _)); exact BK213.out))⟩; have n5_ : zC (w118.heap[gb219]? = some (.cells #[.int .i64 ((rd_T70 l4 (ji64)).f0), .int .i64 ((rd_T70 l4 (ji64)).f1)] 70 (0, 0))) := ⟨(by rw [hw]; exact (by (with_reducible repeat (first | refine zB ?_ _ | refine zD ?_ | refine zA ?_ _)); refine zO ?_ NB219_211.out _; (with_reducible repeat (first | refine zB ?_ _ | refine zD ?_ | refine zA ?_ _)); refine zO ?_ NB219_211.out _; (with_reducible repeat (first | refine zB ?_ _ | refine zD ?_ | refine zA ?_ _)); exact BK219.out))⟩; have n6_ : zC (Below w.heap.size w w118) := ⟨(by rw [hw]; exact (by repeat (first | (with_reducible first | exact HB.out | apply zJ | apply zG | apply zI | refine zE ?_ GE208.out | refine zE ?_ GE209.out | refine zE ?_ GE210.out | refine zE ?_ GE211.out | refine zE ?_ GE213.out | refine zE ?_ GE219.out) | exact HB.out)))⟩; clear hw; clear BK208; clear BK209; clear BK210; clear BK211; clear BK213; clear BK219; clear HB; have BK208 := n0_; have BK209 := n1_; have BK210 := n2_; have BK211 := n3_; have BK213 := n4_; have BK219 := n5_; have HB := n6_; clear n0_ n1_ n2_ n3_ n4_ n5_ n6_))
            go_roundg kj66
            case measure => have := HK1.out; have := HJ20.out; have := HJ40.out; have := HJ66.out; omega
            case rel => exact ⟨(t214), (x15_40), (x16_20), (x17_40), (wrap64 (x18_1 + 1)), (wrap64 (t220 + ((rd_T70 l4 (ji64)).f0))), (x18_1), (by first | rfl | (simp; done) | (simp [*]; done)), (by first | rfl | (simp; done) | (simp [*]; done)), (by first | rfl | (simp; done) | (simp [*]; done)), (by first | rfl | (simp; done) | (simp [*]; done)), (by first | rfl | (simp; done) | (simp [*]; done)), H', ⟨by have := HK1.out; have := HJ20.out; have := HJ40.out; have := HJ66.out; omega⟩, ⟨by (with_reducible repeat (first | refine zB ?_ _ | refine zD ?_ | refine zA ?_ _)); exact BK208.out⟩, ⟨by (with_reducible repeat (first | refine zB ?_ _ | refine zD ?_ | refine zA ?_ _)); exact BK209.out⟩, ⟨by (with_reducible repeat (first | refine zB ?_ _ | refine zD ?_ | refine zA ?_ _)); exact BK210.out⟩, ⟨by (with_reducible repeat (first | refine zB ?_ _ | refine zD ?_ | refine zA ?_ _)); exact BK211.out⟩, ⟨by repeat (first | (with_reducible first | exact HB.out | apply zJ | apply zG | apply zI | refine zE ?_ GE208.out | refine zE ?_ GE209.out | refine zE ?_ GE210.out | refine zE ?_ GE211.out | refine zE ?_ GE213.out | refine zE ?_ GE219.out) | exact HB.out)⟩⟩
          rw [if_neg c98] at H; have c98b0 : decide (x212001_1 < 0) = false := decide_eq_false c98
          clear c98; by_cases c119 : (wrap64 (t220 + ((rd_T70 l4 (ji64)).f0))) < x212000_1
          rotate_left
          · rw [if_neg c119] at H
            have c119b0 : decide ((wrap64 (t220 + ((rd_T70 l4 (ji64)).f0))) < x212000_1) = false := decide_eq_false c119
            clear c119; have H' := zC.mk H
            clear H; have hnb140 := NB208_209.out; have hnc140 := NB209_208.out; have hnb141 := NB208_210.out; have hnc141 := NB210_208.out; have hnb142 := NB208_211.out; have hnc142 := NB211_208.out; have hnb143 := NB208_213.out; have hnc143 := NB213_208.out; have hnb144 := NB208_219.out; have hnc144 := NB219_208.out; have hcz145_0 : wc.cell? ⟨gb208, 0, none⟩ = some (.slice (some ad212) l0_0.length c0_0) := (zF BK208.out 0).trans rfl
            have hcz145_1 : wc.cell? ⟨gb208, 1, none⟩ = some (.slice A0_1 l0_1.length c0_1) := (zF BK208.out 1).trans rfl
            have hfz145_0 := zH BK208.out 0; have hfz145_1 := zH BK208.out 1; have hnb146 := NB209_210.out; have hnc146 := NB210_209.out; have hnb147 := NB209_211.out; have hnc147 := NB211_209.out; have hnb148 := NB209_213.out; have hnc148 := NB213_209.out; have hnb149 := NB209_219.out; have hnc149 := NB219_209.out; have hcz150_0 : wc.cell? ⟨gb209, 0, none⟩ = some (.int .i64 a5_0) := (zF BK209.out 0).trans rfl
            have hcz150_1 : wc.cell? ⟨gb209, 1, none⟩ = some (.int .i64 a5_1) := (zF BK209.out 1).trans rfl
            have hcz150_2 : wc.cell? ⟨gb209, 2, none⟩ = some (.int .u8 a5_2) := (zF BK209.out 2).trans rfl
            have hcz150_3 : wc.cell? ⟨gb209, 3, none⟩ = some (.int .i64 a5_3) := (zF BK209.out 3).trans rfl
            have hcz150_4 : wc.cell? ⟨gb209, 4, none⟩ = some (.int .i64 a5_4) := (zF BK209.out 4).trans rfl
            have hcz150_5 : wc.cell? ⟨gb209, 5, none⟩ = some (.float .f64 a5_5) := (zF BK209.out 5).trans rfl
            have hfz150_0 := zH BK209.out 0; have hfz150_1 := zH BK209.out 1; have hfz150_2 := zH BK209.out 2; have hfz150_3 := zH BK209.out 3; have hfz150_4 := zH BK209.out 4; have hfz150_5 := zH BK209.out 5; go_wp2_with (first | ((with_reducible refine gate_callee (f := 41) rfl ?_); refine goesL_ (some 102) rfl rfl Try.func41 (by kernel_rfl) rfl #[.agg #[.slice (some ad212) l0_0.length c0_0, .slice A0_1 l0_1.length c0_1], .int .i64 a1, .int .u8 t216, .int .i64 (wrap64 (x15_40 + 1)), .int .i64 x17_40, .bool (x18_1 == a3), .agg #[.int .i64 a5_0, .int .i64 a5_1, .int .u8 a5_2, .int .i64 a5_3, .int .i64 a5_4, .float .f64 a5_5]] rfl (by (try simp only [List.map_toArray, List.map_cons, List.map_nil]); first | done | rfl | (simp only [List.length_drop, List.length_take]; rfl)) ?_; (with_reducible refine (best_price.calls kj66 _ _ l0_0 _ _ l0_1 a1 t216 (wrap64 (x15_40 + 1)) x17_40 (x18_1 == a3) a5_0 a5_1 a5_2 a5_3 a5_4 a5_5 t220 true _ ?side1 ?side2 ?side3 ?side4 A96.out).mono ?_); (case side1 => repeat (first | exact (Kd.C_below HR0_0.out HB.out) | (with_reducible refine Kd.C_alloc ?_ _) | (with_reducible refine Kd.C_drewN ?_ _) | (with_reducible refine Kd.C_drew ?_))); (case side2 => exact HC0_0.out); (case side3 => repeat (first | exact (Kd.C_below HR0_1.out HB.out) | (with_reducible refine Kd.C_alloc ?_ _) | (with_reducible refine Kd.C_drewN ?_ _) | (with_reducible refine Kd.C_drew ?_))); (case side4 => exact HC0_1.out); rintro e w151 ⟨rfl, hb⟩; refine ⟨_, rfl, ?_⟩; have n0_ := zC.mk (zK (g := gb208) (o := .cells #[.slice (some ad212) l0_0.length c0_0, .slice A0_1 l0_1.length c0_1] 31 (0, 0)) (by (with_reducible repeat (first | refine zB ?_ _ | refine zD ?_ | refine zA ?_ _)); exact BK208.out) hb); have n1_ := zC.mk (zK (g := gb209) (o := .cells #[.int .i64 a5_0, .int .i64 a5_1, .int .u8 a5_2, .int .i64 a5_3, .int .i64 a5_4, .float .f64 a5_5] 35 (0, 0)) (by (with_reducible repeat (first | refine zB ?_ _ | refine zD ?_ | refine zA ?_ _)); exact BK209.out) hb); have n2_ := zC.mk (zK (g := gb210) (o := .cells #[.int .i64 0, .int .i64 0] 70 (0, 0)) (by (with_reducible repeat (first | refine zB ?_ _ | refine zD ?_ | refine zA ?_ _)); exact BK210.out) hb); have n3_ := zC.mk (zK (g := gb211) (o := .cells #[.int .i64 x212000_1, .int .i64 x212001_1] 70 (0, 0)) (by (with_reducible repeat (first | refine zB ?_ _ | refine zD ?_ | refine zA ?_ _)); exact BK211.out) hb); have n4_ := zC.mk (zK (g := gb213) (o := .cells #[.int .i64 ((rd_T66 l0_0 (ji17)).f0), .int .i64 ((rd_T66 l0_0 (ji17)).f1), .int .i64 ((rd_T66 l0_0 (ji17)).f2), .int .u8 ((rd_T66 l0_0 (ji17)).f3)] 66 (0, 0)) (by (with_reducible repeat (first | refine zB ?_ _ | refine zD ?_ | refine zA ?_ _)); exact BK213.out) hb); have n5_ := zC.mk (zK (g := gb219) (o := .cells #[.int .i64 ((rd_T70 l4 (ji64)).f0), .int .i64 ((rd_T70 l4 (ji64)).f1)] 70 (0, 0)) (by (with_reducible repeat (first | refine zB ?_ _ | refine zD ?_ | refine zA ?_ _)); exact BK219.out) hb); have n6_ := zC.mk (zQ (by repeat (first | (with_reducible first | exact HB.out | apply zJ | apply zG | apply zI | refine zE ?_ GE208.out | refine zE ?_ GE209.out | refine zE ?_ GE210.out | refine zE ?_ GE211.out | refine zE ?_ GE213.out | refine zE ?_ GE219.out) | exact HB.out)) hb); clear BK208; clear BK209; clear BK210; clear BK211; clear BK213; clear BK219; clear HB; have BK208 := n0_; have BK209 := n1_; have BK210 := n2_; have BK211 := n3_; have BK213 := n4_; have BK219 := n5_; have HB := n6_; clear n0_ n1_ n2_ n3_ n4_ n5_ n6_; (try clear hb); (try clear hb2); (try clear hk); (try clear hi); have hnb152 := NB211_210.out; have hnc152 := NB210_211.out; have hnb153 := NB211_213.out; have hnc153 := NB213_211.out; have hnb154 := NB211_219.out; have hnc154 := NB219_211.out; have hcz155_0 : w151.cell? ⟨gb211, 0, none⟩ = some (.int .i64 x212000_1) := (zF BK211.out 0).trans rfl; have hcz155_1 : w151.cell? ⟨gb211, 1, none⟩ = some (.int .i64 x212001_1) := (zF BK211.out 1).trans rfl; have hfz155_0 := zH BK211.out 0; have hfz155_1 := zH BK211.out 1; have hnb156 := NB219_210.out; have hnc156 := NB210_219.out; have hnb157 := NB219_213.out; have hnc157 := NB213_219.out; have hcz158_0 : w151.cell? ⟨gb219, 0, none⟩ = some (.int .i64 ((rd_T70 l4 (ji64)).f0)) := (zF BK219.out 0).trans rfl; have hcz158_1 : w151.cell? ⟨gb219, 1, none⟩ = some (.int .i64 ((rd_T70 l4 (ji64)).f1)) := (zF BK219.out 1).trans rfl; have hfz158_0 := zH BK219.out 0; have hfz158_1 := zH BK219.out 1))
            go_roundg kj66
            case measure => have := HK1.out; have := HJ20.out; have := HJ40.out; have := HJ66.out; omega
            case rel => exact ⟨(t214), (x15_40), (x16_20), (x17_40), (wrap64 (x18_1 + 1)), (x212000_1), (x212001_1), (by first | rfl | (simp; done) | (simp [*]; done)), (by first | rfl | (simp; done) | (simp [*]; done)), (by first | rfl | (simp; done) | (simp [*]; done)), (by first | rfl | (simp; done) | (simp [*]; done)), (by first | rfl | (simp; done) | (simp [*]; done)), H', ⟨by have := HK1.out; have := HJ20.out; have := HJ40.out; have := HJ66.out; omega⟩, ⟨by (with_reducible repeat (first | refine zB ?_ _ | refine zD ?_ | refine zA ?_ _)); exact BK208.out⟩, ⟨by (with_reducible repeat (first | refine zB ?_ _ | refine zD ?_ | refine zA ?_ _)); exact BK209.out⟩, ⟨by (with_reducible repeat (first | refine zB ?_ _ | refine zD ?_ | refine zA ?_ _)); exact BK210.out⟩, ⟨by (with_reducible repeat (first | refine zB ?_ _ | refine zD ?_ | refine zA ?_ _)); exact BK211.out⟩, ⟨by repeat (first | (with_reducible first | exact HB.out | apply zJ | apply zG | apply zI | refine zE ?_ GE208.out | refine zE ?_ GE209.out | refine zE ?_ GE210.out | refine zE ?_ GE211.out | refine zE ?_ GE213.out | refine zE ?_ GE219.out) | exact HB.out)⟩⟩
          rw [if_pos c119] at H; have c119b0 : decide ((wrap64 (t220 + ((rd_T70 l4 (ji64)).f0))) < x212000_1) = true := decide_eq_true c119
          clear c119; have H' := zC.mk H
          clear H; have hnb120 := NB208_209.out; have hnc120 := NB209_208.out; have hnb121 := NB208_210.out; have hnc121 := NB210_208.out; have hnb122 := NB208_211.out; have hnc122 := NB211_208.out; have hnb123 := NB208_213.out; have hnc123 := NB213_208.out; have hnb124 := NB208_219.out; have hnc124 := NB219_208.out; have hcz125_0 : wc.cell? ⟨gb208, 0, none⟩ = some (.slice (some ad212) l0_0.length c0_0) := (zF BK208.out 0).trans rfl
          have hcz125_1 : wc.cell? ⟨gb208, 1, none⟩ = some (.slice A0_1 l0_1.length c0_1) := (zF BK208.out 1).trans rfl
          have hfz125_0 := zH BK208.out 0; have hfz125_1 := zH BK208.out 1; have hnb126 := NB209_210.out; have hnc126 := NB210_209.out; have hnb127 := NB209_211.out; have hnc127 := NB211_209.out; have hnb128 := NB209_213.out; have hnc128 := NB213_209.out; have hnb129 := NB209_219.out; have hnc129 := NB219_209.out; have hcz130_0 : wc.cell? ⟨gb209, 0, none⟩ = some (.int .i64 a5_0) := (zF BK209.out 0).trans rfl
          have hcz130_1 : wc.cell? ⟨gb209, 1, none⟩ = some (.int .i64 a5_1) := (zF BK209.out 1).trans rfl
          have hcz130_2 : wc.cell? ⟨gb209, 2, none⟩ = some (.int .u8 a5_2) := (zF BK209.out 2).trans rfl
          have hcz130_3 : wc.cell? ⟨gb209, 3, none⟩ = some (.int .i64 a5_3) := (zF BK209.out 3).trans rfl
          have hcz130_4 : wc.cell? ⟨gb209, 4, none⟩ = some (.int .i64 a5_4) := (zF BK209.out 4).trans rfl
          have hcz130_5 : wc.cell? ⟨gb209, 5, none⟩ = some (.float .f64 a5_5) := (zF BK209.out 5).trans rfl
          have hfz130_0 := zH BK209.out 0; have hfz130_1 := zH BK209.out 1; have hfz130_2 := zH BK209.out 2; have hfz130_3 := zH BK209.out 3; have hfz130_4 := zH BK209.out 4; have hfz130_5 := zH BK209.out 5; go_wp2_with (first | ((with_reducible refine gate_callee (f := 41) rfl ?_); refine goesL_ (some 102) rfl rfl Try.func41 (by kernel_rfl) rfl #[.agg #[.slice (some ad212) l0_0.length c0_0, .slice A0_1 l0_1.length c0_1], .int .i64 a1, .int .u8 t216, .int .i64 (wrap64 (x15_40 + 1)), .int .i64 x17_40, .bool (x18_1 == a3), .agg #[.int .i64 a5_0, .int .i64 a5_1, .int .u8 a5_2, .int .i64 a5_3, .int .i64 a5_4, .float .f64 a5_5]] rfl (by (try simp only [List.map_toArray, List.map_cons, List.map_nil]); first | done | rfl | (simp only [List.length_drop, List.length_take]; rfl)) ?_; (with_reducible refine (best_price.calls kj66 _ _ l0_0 _ _ l0_1 a1 t216 (wrap64 (x15_40 + 1)) x17_40 (x18_1 == a3) a5_0 a5_1 a5_2 a5_3 a5_4 a5_5 t220 true _ ?side1 ?side2 ?side3 ?side4 A96.out).mono ?_); (case side1 => repeat (first | exact (Kd.C_below HR0_0.out HB.out) | (with_reducible refine Kd.C_alloc ?_ _) | (with_reducible refine Kd.C_drewN ?_ _) | (with_reducible refine Kd.C_drew ?_))); (case side2 => exact HC0_0.out); (case side3 => repeat (first | exact (Kd.C_below HR0_1.out HB.out) | (with_reducible refine Kd.C_alloc ?_ _) | (with_reducible refine Kd.C_drewN ?_ _) | (with_reducible refine Kd.C_drew ?_))); (case side4 => exact HC0_1.out); rintro e w131 ⟨rfl, hb⟩; refine ⟨_, rfl, ?_⟩; have n0_ := zC.mk (zK (g := gb208) (o := .cells #[.slice (some ad212) l0_0.length c0_0, .slice A0_1 l0_1.length c0_1] 31 (0, 0)) (by (with_reducible repeat (first | refine zB ?_ _ | refine zD ?_ | refine zA ?_ _)); exact BK208.out) hb); have n1_ := zC.mk (zK (g := gb209) (o := .cells #[.int .i64 a5_0, .int .i64 a5_1, .int .u8 a5_2, .int .i64 a5_3, .int .i64 a5_4, .float .f64 a5_5] 35 (0, 0)) (by (with_reducible repeat (first | refine zB ?_ _ | refine zD ?_ | refine zA ?_ _)); exact BK209.out) hb); have n2_ := zC.mk (zK (g := gb210) (o := .cells #[.int .i64 0, .int .i64 0] 70 (0, 0)) (by (with_reducible repeat (first | refine zB ?_ _ | refine zD ?_ | refine zA ?_ _)); exact BK210.out) hb); have n3_ := zC.mk (zK (g := gb211) (o := .cells #[.int .i64 x212000_1, .int .i64 x212001_1] 70 (0, 0)) (by (with_reducible repeat (first | refine zB ?_ _ | refine zD ?_ | refine zA ?_ _)); exact BK211.out) hb); have n4_ := zC.mk (zK (g := gb213) (o := .cells #[.int .i64 ((rd_T66 l0_0 (ji17)).f0), .int .i64 ((rd_T66 l0_0 (ji17)).f1), .int .i64 ((rd_T66 l0_0 (ji17)).f2), .int .u8 ((rd_T66 l0_0 (ji17)).f3)] 66 (0, 0)) (by (with_reducible repeat (first | refine zB ?_ _ | refine zD ?_ | refine zA ?_ _)); exact BK213.out) hb); have n5_ := zC.mk (zK (g := gb219) (o := .cells #[.int .i64 ((rd_T70 l4 (ji64)).f0), .int .i64 ((rd_T70 l4 (ji64)).f1)] 70 (0, 0)) (by (with_reducible repeat (first | refine zB ?_ _ | refine zD ?_ | refine zA ?_ _)); exact BK219.out) hb); have n6_ := zC.mk (zQ (by repeat (first | (with_reducible first | exact HB.out | apply zJ | apply zG | apply zI | refine zE ?_ GE208.out | refine zE ?_ GE209.out | refine zE ?_ GE210.out | refine zE ?_ GE211.out | refine zE ?_ GE213.out | refine zE ?_ GE219.out) | exact HB.out)) hb); clear BK208; clear BK209; clear BK210; clear BK211; clear BK213; clear BK219; clear HB; have BK208 := n0_; have BK209 := n1_; have BK210 := n2_; have BK211 := n3_; have BK213 := n4_; have BK219 := n5_; have HB := n6_; clear n0_ n1_ n2_ n3_ n4_ n5_ n6_; (try clear hb); (try clear hb2); (try clear hk); (try clear hi); have hnb132 := NB211_210.out; have hnc132 := NB210_211.out; have hnb133 := NB211_213.out; have hnc133 := NB213_211.out; have hnb134 := NB211_219.out; have hnc134 := NB219_211.out; have hcz135_0 : w131.cell? ⟨gb211, 0, none⟩ = some (.int .i64 x212000_1) := (zF BK211.out 0).trans rfl; have hcz135_1 : w131.cell? ⟨gb211, 1, none⟩ = some (.int .i64 x212001_1) := (zF BK211.out 1).trans rfl; have hfz135_0 := zH BK211.out 0; have hfz135_1 := zH BK211.out 1; have hnb136 := NB219_210.out; have hnc136 := NB210_219.out; have hnb137 := NB219_213.out; have hnc137 := NB213_219.out; have hcz138_0 : w131.cell? ⟨gb219, 0, none⟩ = some (.int .i64 ((rd_T70 l4 (ji64)).f0)) := (zF BK219.out 0).trans rfl; have hcz138_1 : w131.cell? ⟨gb219, 1, none⟩ = some (.int .i64 ((rd_T70 l4 (ji64)).f1)) := (zF BK219.out 1).trans rfl; have hfz138_0 := zH BK219.out 0; have hfz138_1 := zH BK219.out 1) | ((with_reducible refine gate_store (t := 70) (p := 13) rfl ?_); refine store_event (t := 70) (p := 13) (v := ?vo_w139) (w1 := ((w131.setCell ⟨gb211, 0, none⟩ (.int .i64 (wrap64 (t220 + ((rd_T70 l4 (ji64)).f0))))).setCell ⟨gb211, 1, none⟩ (.int .i64 x18_1))) ?hg ?ho ?hn ?hr ?_; (case ho => rfl); (case hg => rfl); (case hn => rfl); (case hr => first | (go_simp; done) | (go_simp; rfl)); intro w139 hw; have n0_ : zC (w139.heap[gb208]? = some (.cells #[.slice (some ad212) l0_0.length c0_0, .slice A0_1 l0_1.length c0_1] 31 (0, 0))) := ⟨(by rw [hw]; exact (by (with_reducible repeat (first | refine zB ?_ _ | refine zD ?_ | refine zA ?_ _)); refine zO ?_ NB208_211.out _; (with_reducible repeat (first | refine zB ?_ _ | refine zD ?_ | refine zA ?_ _)); refine zO ?_ NB208_211.out _; (with_reducible repeat (first | refine zB ?_ _ | refine zD ?_ | refine zA ?_ _)); exact BK208.out))⟩; have n1_ : zC (w139.heap[gb209]? = some (.cells #[.int .i64 a5_0, .int .i64 a5_1, .int .u8 a5_2, .int .i64 a5_3, .int .i64 a5_4, .float .f64 a5_5] 35 (0, 0))) := ⟨(by rw [hw]; exact (by (with_reducible repeat (first | refine zB ?_ _ | refine zD ?_ | refine zA ?_ _)); refine zO ?_ NB209_211.out _; (with_reducible repeat (first | refine zB ?_ _ | refine zD ?_ | refine zA ?_ _)); refine zO ?_ NB209_211.out _; (with_reducible repeat (first | refine zB ?_ _ | refine zD ?_ | refine zA ?_ _)); exact BK209.out))⟩; have n2_ : zC (w139.heap[gb210]? = some (.cells #[.int .i64 0, .int .i64 0] 70 (0, 0))) := ⟨(by rw [hw]; exact (by (with_reducible repeat (first | refine zB ?_ _ | refine zD ?_ | refine zA ?_ _)); refine zO ?_ NB210_211.out _; (with_reducible repeat (first | refine zB ?_ _ | refine zD ?_ | refine zA ?_ _)); refine zO ?_ NB210_211.out _; (with_reducible repeat (first | refine zB ?_ _ | refine zD ?_ | refine zA ?_ _)); exact BK210.out))⟩; have n3_ : zC (w139.heap[gb211]? = some (.cells #[.int .i64 (wrap64 (t220 + ((rd_T70 l4 (ji64)).f0))), .int .i64 x18_1] 70 (0, 0))) := ⟨(by rw [hw]; exact (by (with_reducible repeat (first | refine zB ?_ _ | refine zD ?_ | refine zA ?_ _)); refine blk_put (cs := #[.int .i64 (wrap64 (t220 + ((rd_T70 l4 (ji64)).f0))), .int .i64 x212001_1]) ?_ 1 _ rfl; (with_reducible repeat (first | refine zB ?_ _ | refine zD ?_ | refine zA ?_ _)); refine blk_put (cs := #[.int .i64 x212000_1, .int .i64 x212001_1]) ?_ 0 _ rfl; (with_reducible repeat (first | refine zB ?_ _ | refine zD ?_ | refine zA ?_ _)); exact BK211.out))⟩; have n4_ : zC (w139.heap[gb213]? = some (.cells #[.int .i64 ((rd_T66 l0_0 (ji17)).f0), .int .i64 ((rd_T66 l0_0 (ji17)).f1), .int .i64 ((rd_T66 l0_0 (ji17)).f2), .int .u8 ((rd_T66 l0_0 (ji17)).f3)] 66 (0, 0))) := ⟨(by rw [hw]; exact (by (with_reducible repeat (first | refine zB ?_ _ | refine zD ?_ | refine zA ?_ _)); refine zO ?_ NB213_211.out _; (with_reducible repeat (first | refine zB ?_ _ | refine zD ?_ | refine zA ?_ _)); refine zO ?_ NB213_211.out _; (with_reducible repeat (first | refine zB ?_ _ | refine zD ?_ | refine zA ?_ _)); exact BK213.out))⟩; have n5_ : zC (w139.heap[gb219]? = some (.cells #[.int .i64 ((rd_T70 l4 (ji64)).f0), .int .i64 ((rd_T70 l4 (ji64)).f1)] 70 (0, 0))) := ⟨(by rw [hw]; exact (by (with_reducible repeat (first | refine zB ?_ _ | refine zD ?_ | refine zA ?_ _)); refine zO ?_ NB219_211.out _; (with_reducible repeat (first | refine zB ?_ _ | refine zD ?_ | refine zA ?_ _)); refine zO ?_ NB219_211.out _; (with_reducible repeat (first | refine zB ?_ _ | refine zD ?_ | refine zA ?_ _)); exact BK219.out))⟩; have n6_ : zC (Below w.heap.size w w139) := ⟨(by rw [hw]; exact (by repeat (first | (with_reducible first | exact HB.out | apply zJ | apply zG | apply zI | refine zE ?_ GE208.out | refine zE ?_ GE209.out | refine zE ?_ GE210.out | refine zE ?_ GE211.out | refine zE ?_ GE213.out | refine zE ?_ GE219.out) | exact HB.out)))⟩; clear hw; clear BK208; clear BK209; clear BK210; clear BK211; clear BK213; clear BK219; clear HB; have BK208 := n0_; have BK209 := n1_; have BK210 := n2_; have BK211 := n3_; have BK213 := n4_; have BK219 := n5_; have HB := n6_; clear n0_ n1_ n2_ n3_ n4_ n5_ n6_))
          go_roundg kj66
          case measure => have := HK1.out; have := HJ20.out; have := HJ40.out; have := HJ66.out; omega
          case rel => exact ⟨(t214), (x15_40), (x16_20), (x17_40), (wrap64 (x18_1 + 1)), (wrap64 (t220 + ((rd_T70 l4 (ji64)).f0))), (x18_1), (by first | rfl | (simp; done) | (simp [*]; done)), (by first | rfl | (simp; done) | (simp [*]; done)), (by first | rfl | (simp; done) | (simp [*]; done)), (by first | rfl | (simp; done) | (simp [*]; done)), (by first | rfl | (simp; done) | (simp [*]; done)), H', ⟨by have := HK1.out; have := HJ20.out; have := HJ40.out; have := HJ66.out; omega⟩, ⟨by (with_reducible repeat (first | refine zB ?_ _ | refine zD ?_ | refine zA ?_ _)); exact BK208.out⟩, ⟨by (with_reducible repeat (first | refine zB ?_ _ | refine zD ?_ | refine zA ?_ _)); exact BK209.out⟩, ⟨by (with_reducible repeat (first | refine zB ?_ _ | refine zD ?_ | refine zA ?_ _)); exact BK210.out⟩, ⟨by (with_reducible repeat (first | refine zB ?_ _ | refine zD ?_ | refine zA ?_ _)); exact BK211.out⟩, ⟨by repeat (first | (with_reducible first | exact HB.out | apply zJ | apply zG | apply zI | refine zE ?_ GE208.out | refine zE ?_ GE209.out | refine zE ?_ GE210.out | refine zE ?_ GE211.out | refine zE ?_ GE213.out | refine zE ?_ GE219.out) | exact HB.out)⟩⟩
end Go.Proofs.Ytcnblneghbgjgaa.F
end
section
namespace Go.Proofs.Ytcnblneghbgjgaa.F
open Go.RowKit Go.Proofs.YtcnblneghbgjgaaW.PrintWords Go.Proofs.YtcnblneghbgjgaaW.PrintLast Go.Proofs.YtcnblneghbgjgaaW.PrintMore
attribute [local go_sem] max2_int min2_int max_two min_two max_three min_three max_four min_four   -- for this text's walks alone
set_option linter.unusedVariables false
set_option linter.unusedSimpArgs false
mutual
def best_Break.l0 : Nat → Int → Int → List (S70) → Int → List (S66) → List Int → Int → Int → Int → Int → Int → Nat → Option ((List (S54)) × Bool)
  | 0, _, _, _, _, _, _, _, _, _, _, _, _ => none
  | k + 1, x1, x2, x10, x11, x225000, x225001, x226000, x226001, x226002, x226003, x226004, x226005 => if x11 ≥ x1 then (if 0 ≤ (wrap64 (x11 - x1)) then (if (wrap64 (x11 - x1)) < (x10.length : Int) then ((some (x10.set ((wrap64 (x11 - x1)) : Int).toNat (⟨0, (-1)⟩ : S70) : List (S70))).bind fun y229 => (if x11 = x1 then ((best_next.f k x225000 x225001 x11 x1 x2 y229 x226000 x226001 x226002 x226003 x226004 x226005).bind fun bt230 => (best_Break.l0 k x1 x2 (y229.set ((wrap64 (x11 - x1)) : Int).toNat (⟨bt230.1, bt230.2⟩ : S70)) (wrap64 (x11 - 1)) x225000 x225001 x226000 x226001 x226002 x226003 x226004 x226005)) else (if 0 ≤ x11 then (if x11 < (x225001.length : Int) then (if (rd x225001 x11) = 0 then (best_Break.l0 k x1 x2 y229 (wrap64 (x11 - 1)) x225000 x225001 x226000 x226001 x226002 x226003 x226004 x226005) else ((best_next.f k x225000 x225001 x11 x1 x2 y229 x226000 x226001 x226002 x226003 x226004 x226005).bind fun bt234 => (best_Break.l0 k x1 x2 (y229.set ((wrap64 (x11 - x1)) : Int).toNat (⟨bt234.1, bt234.2⟩ : S70)) (wrap64 (x11 - 1)) x225000 x225001 x226000 x226001 x226002 x226003 x226004 x226005))) else (none)) else (none)))) else (none)) else (none)) else (if 0 < (x10.length : Int) then (if ((rd_T70 x10 0).f1) < 0 then (some (([] : List (S54)), false)) else (best_Break.l1 k x1 x2 x10 ([] : List (S54)) x1 x225000 x225001 x226000 x226001 x226002 x226003 x226004 x226005)) else (none))
def best_Break.l1 : Nat → Int → Int → List (S70) → List (S54) → Int → List (S66) → List Int → Int → Int → Int → Int → Int → Nat → Option ((List (S54)) × Bool)
  | 0, _, _, _, _, _, _, _, _, _, _, _, _, _ => none
  | k + 1, x1, x2, x10, x12, x13, x225000, x225001, x226000, x226001, x226002, x226003, x226004, x226005 => if x13 < x2 then (if 0 ≤ (wrap64 (x13 - x1)) then (if (wrap64 (x13 - x1)) < (x10.length : Int) then (if 0 ≤ ((rd_T70 x10 (wrap64 (x13 - x1))).f1) then (if ((rd_T70 x10 (wrap64 (x13 - x1))).f1) < (x225001.length : Int) then ((span_Make.f k x225000 x225001 x13 ((rd_T70 x10 (wrap64 (x13 - x1))).f1) (rd x225001 ((rd_T70 x10 (wrap64 (x13 - x1))).f1)) x226001).bind fun bt240 => (if x12.length < 4398046511104 then (best_Break.l1 k x1 x2 x10 (x12 ++ [(⟨bt240.1, bt240.2.1, bt240.2.2.1, bt240.2.2.2⟩ : S54)]) ((rd_T70 x10 (wrap64 (x13 - x1))).f1) x225000 x225001 x226000 x226001 x226002 x226003 x226004 x226005) else (none))) else (none)) else (none)) else (none)) else (none)) else (some (x12, true))
end
def best_Break.f (k : Nat) (l0_0 : List (S66)) (l0_1 : List Int) (a1 : Int) (a2 : Int) (a3_0 : Int) (a3_1 : Int) (a3_2 : Int) (a3_3 : Int) (a3_4 : Int) (a3_5 : Nat) : Option ((List (S54)) × Bool) := if a1 ≥ a2 then (some (([] : List (S54)), true)) else (if 0 ≤ (wrap64 ((wrap64 (a2 - a1)) + 1)) then (if (wrap64 ((wrap64 (a2 - a1)) + 1) : Int).toNat ≤ 17592186044416 then (best_Break.l0 k a1 a2 (List.replicate (wrap64 ((wrap64 (a2 - a1)) + 1) : Int).toNat z70) (wrap64 (a2 - 1)) l0_0 l0_1 a3_0 a3_1 a3_2 a3_3 a3_4 a3_5) else (none)) else (none))
theorem best_Break.mono_l : ∀ k, (∀ y0 y1 y2 y3 y4 y5 y6 y7 y8 y9 y10 y11, LeO (best_Break.l0 k y0 y1 y2 y3 y4 y5 y6 y7 y8 y9 y10 y11) (best_Break.l0 (k + 1) y0 y1 y2 y3 y4 y5 y6 y7 y8 y9 y10 y11)) ∧ (∀ y0 y1 y2 y3 y4 y5 y6 y7 y8 y9 y10 y11 y12, LeO (best_Break.l1 k y0 y1 y2 y3 y4 y5 y6 y7 y8 y9 y10 y11 y12) (best_Break.l1 (k + 1) y0 y1 y2 y3 y4 y5 y6 y7 y8 y9 y10 y11 y12))
  | 0 => ⟨fun _ _ _ _ _ _ _ _ _ _ _ _ r h => by simp [best_Break.l0] at h, fun _ _ _ _ _ _ _ _ _ _ _ _ _ r h => by simp [best_Break.l1] at h⟩
  | k + 1 => by
    obtain ⟨ih0, ih1⟩ := best_Break.mono_l k; refine ⟨?_, ?_⟩
    · intro y0 y1 y2 y3 y4 y5 y6 y7 y8 y9 y10 y11
      unfold best_Break.l0
      repeat' first
      | (with_reducible exact ih0 _ _ _ _ _ _ _ _ _ _ _ _)
      | (with_reducible exact ih1 _ _ _ _ _ _ _ _ _ _ _ _ _)
      | (with_reducible exact best_next.mono _ _ _ _ _ _ _ _ _ _ _ _ _)
      | (with_reducible exact span_Make.mono _ _ _ _ _ _ _)
      | (with_reducible exact LeO.refl _)
      | (with_reducible exact LeO.none _)
      | (with_reducible refine LeO.ite ?_ ?_)
      | (with_reducible refine LeO.bind ?_ (fun _ => ?_))
      | exact ih0 _ _ _ _ _ _ _ _ _ _ _ _
      | exact ih1 _ _ _ _ _ _ _ _ _ _ _ _ _
      | exact best_next.mono _ _ _ _ _ _ _ _ _ _ _ _ _
      | exact span_Make.mono _ _ _ _ _ _ _
      | exact LeO.none _
      | refine LeO.ite ?_ ?_
      | refine LeO.bind ?_ (fun _ => ?_)
    · intro y0 y1 y2 y3 y4 y5 y6 y7 y8 y9 y10 y11 y12
      unfold best_Break.l1
      repeat' first
      | (with_reducible exact ih0 _ _ _ _ _ _ _ _ _ _ _ _)
      | (with_reducible exact ih1 _ _ _ _ _ _ _ _ _ _ _ _ _)
      | (with_reducible exact best_next.mono _ _ _ _ _ _ _ _ _ _ _ _ _)
      | (with_reducible exact span_Make.mono _ _ _ _ _ _ _)
      | (with_reducible exact LeO.refl _)
      | (with_reducible exact LeO.none _)
      | (with_reducible refine LeO.ite ?_ ?_)
      | (with_reducible refine LeO.bind ?_ (fun _ => ?_))
      | exact ih0 _ _ _ _ _ _ _ _ _ _ _ _
      | exact ih1 _ _ _ _ _ _ _ _ _ _ _ _ _
      | exact best_next.mono _ _ _ _ _ _ _ _ _ _ _ _ _
      | exact span_Make.mono _ _ _ _ _ _ _
      | exact LeO.none _
      | refine LeO.ite ?_ ?_
      | refine LeO.bind ?_ (fun _ => ?_)
theorem best_Break.mono : ∀ a0 a1 a2 a3 a4 a5 a6 a7 a8 a9 k, LeO (best_Break.f k a0 a1 a2 a3 a4 a5 a6 a7 a8 a9) (best_Break.f (k + 1) a0 a1 a2 a3 a4 a5 a6 a7 a8 a9) := by
  intro a0 a1 a2 a3 a4 a5 a6 a7 a8 a9 k
  obtain ⟨ih0, ih1⟩ := best_Break.mono_l k; unfold best_Break.f
  repeat' first
      | (with_reducible exact ih0 _ _ _ _ _ _ _ _ _ _ _ _)
      | (with_reducible exact ih1 _ _ _ _ _ _ _ _ _ _ _ _ _)
      | (with_reducible exact best_next.mono _ _ _ _ _ _ _ _ _ _ _ _ _)
      | (with_reducible exact span_Make.mono _ _ _ _ _ _ _)
      | (with_reducible exact LeO.refl _)
      | (with_reducible exact LeO.none _)
      | (with_reducible refine LeO.ite ?_ ?_)
      | (with_reducible refine LeO.bind ?_ (fun _ => ?_))
      | exact ih0 _ _ _ _ _ _ _ _ _ _ _ _
      | exact ih1 _ _ _ _ _ _ _ _ _ _ _ _ _
      | exact best_next.mono _ _ _ _ _ _ _ _ _ _ _ _ _
      | exact span_Make.mono _ _ _ _ _ _ _
      | exact LeO.none _
      | refine LeO.ite ?_ ?_
      | refine LeO.bind ?_ (fun _ => ?_)
def best_Break.T16 : Bool × List (List Nat × List Nat) := (true, [([], []), ([], []), ([], []), ([], []), ([], []), ([4], [4]), ([], []), ([5, 6], [5, 6]), ([7], [7]), ([], []), ([9], [9]), ([1, 2, 3, 8, 10], [1, 2, 3, 8, 10]), ([11], [11]), ([0, 12, 11], [0, 12]), ([13, 13, 0, 1, 2, 3, 4, 5, 6, 7, 8, 9, 10, 11, 12, 13], [0, 13])])
def best_Break.B16 : List Nat := [0, 0, 0, 0, 0, 16, 0, 112, 240, 0, 512, 2046, 4094, 8191, 16383]
theorem best_Break.tab16 : rtab .any (opsOf Try.f21 16) = best_Break.T16 := by kernel_rfl
theorem best_Break.bits16 : waitsOk best_Break.T16.2 best_Break.B16 = true := by kernel_rfl
set_option maxHeartbeats 8000000 in
set_option maxRecDepth 100000 in
theorem best_Break.calls (k : Nat) (A0_0 : Option Addr) (c0_0 : Nat) (l0_0 : List (S66)) (A0_1 : Option Addr) (c0_1 : Nat) (l0_1 : List Int) (a1 : Int) (a2 : Int) (a3_0 : Int) (a3_1 : Int) (a3_2 : Int) (a3_3 : Int) (a3_4 : Int) (a3_5 : Nat) (r1 : List (S54)) (r2 : Bool) (w : World) (hr0_0 : Kd.C k66 w A0_0 l0_0.length l0_0) (hc0_0 : l0_0.length ≤ c0_0) (hr0_1 : Kd.C (Kd.int .u8) w A0_1 l0_1.length l0_1) (hc0_1 : l0_1.length ≤ c0_1) (h : best_Break.f k l0_0 l0_1 a1 a2 a3_0 a3_1 a3_2 a3_3 a3_4 a3_5 = some (r1, r2)) :
    Calls Try.prog 21 #[.agg #[.slice A0_0 l0_0.length c0_0, .slice A0_1 l0_1.length c0_1], .int .i64 a1, .int .i64 a2, .agg #[.int .i64 a3_0, .int .i64 a3_1, .int .u8 a3_2, .int .i64 a3_3, .int .i64 a3_4, .float .f64 a3_5]] w fun e w' => ∃ v0_ : Value, e = .returned (.tuple #[v0_, .bool r2]) ∧ Kd.R k54 54 w' w.heap.size (fun _ => True) v0_ r1 ∧ Below w.heap.size w w' := by
  have hu31 := Try.underlying31; have hu35 := Try.underlying35; have hu70 := Try.underlying70; have HR0_0 := zC.mk hr0_0; have HC0_0 := zC.mk hc0_0; clear hr0_0 hc0_0; have HR0_1 := zC.mk hr0_1; have HC0_1 := zC.mk hc0_1; clear hr0_1 hc0_1; have HB := zC.mk (Below.refl w.heap.size w); have H : (if a1 ≥ a2 then (some (([] : List (S54)), true)) else (if 0 ≤ (wrap64 ((wrap64 (a2 - a1)) + 1)) then (if (wrap64 ((wrap64 (a2 - a1)) + 1) : Int).toNat ≤ 17592186044416 then (best_Break.l0 k a1 a2 (List.replicate (wrap64 ((wrap64 (a2 - a1)) + 1) : Int).toNat z70) (wrap64 (a2 - 1)) l0_0 l0_1 a3_0 a3_1 a3_2 a3_3 a3_4 a3_5) else (none)) else (none))) = some (r1, r2) := h
  clear h; by_cases c5 : a1 ≥ a2
  · rw [if_pos c5] at H
    have c5b0 : decide (a2 ≤ a1) = true := decide_eq_true c5
    clear c5; simp only [Option.some.injEq, Prod.mk.injEq] at H; obtain ⟨rfl, rfl⟩ := H; go_enter Try.func21, Try.ntmps21
    go_wp2_with (first | ((with_reducible refine gate_dst (N := 4) rfl ?_); refine box_event ?hg (N := 4) ?hd (cs := #[.slice A0_0 l0_0.length c0_0, .slice A0_1 l0_1.length c0_1]) (t := 31) ?hr ?_; (case hd => rfl); (case hg => rfl); (case hr => first | (go_simp; done) | (go_simp; rfl)); intro gb224 hg w6 hbox hb; have n0_ := zC.mk (zQ (by repeat (first | (with_reducible first | exact HB.out | apply zJ | apply zG | apply zI) | exact HB.out)) hb); have n1_ := zC.mk (hbox); have n2_ := zC.mk ((by rw [hg]; exact (zP (by repeat (first | (with_reducible first | exact HB.out | apply zJ | apply zG | apply zI) | exact HB.out))) : w.heap.size ≤ gb224)); have n3_ := zC.mk ((by rw [hg]; exact (zP (by repeat (first | (with_reducible first | exact HB.out | apply zJ | apply zG | apply zI) | exact HB.out))) : w.heap.size ≤ gb224)); clear HB; have HB := n0_; have BK224 := n1_; have GW224 := n2_; have GE224 := n3_; clear n0_ n1_ n2_ n3_; clear hb hbox hg) | ((with_reducible refine gate_dst (N := 7) rfl ?_); refine box_event ?hg (N := 7) ?hd (cs := #[.int .i64 a3_0, .int .i64 a3_1, .int .u8 a3_2, .int .i64 a3_3, .int .i64 a3_4, .float .f64 a3_5]) (t := 35) ?hr ?_; (case hd => rfl); (case hg => rfl); (case hr => first | (go_simp; done) | (go_simp; rfl)); intro gb225 hg w7 hbox hb; have n0_ := zC.mk (zK (g := gb224) (o := .cells #[.slice A0_0 l0_0.length c0_0, .slice A0_1 l0_1.length c0_1] 31 (0, 0)) (by (with_reducible repeat (first | refine zB ?_ _ | refine zD ?_ | refine zA ?_ _)); exact BK224.out) hb); have n1_ := zC.mk (zQ (by repeat (first | (with_reducible first | exact HB.out | apply zJ | apply zG | apply zI | refine zE ?_ GE224.out) | exact HB.out)) hb); have n2_ := zC.mk (hbox); have n3_ := zC.mk ((by rw [hg]; exact (zP (by repeat (first | (with_reducible first | exact HB.out | apply zJ | apply zG | apply zI | refine zE ?_ GE224.out) | exact HB.out))) : w.heap.size ≤ gb225)); have n4_ := zC.mk ((by rw [hg]; exact (zP (by repeat (first | (with_reducible first | exact HB.out | apply zJ | apply zG | apply zI | refine zE ?_ GE224.out) | exact HB.out))) : w.heap.size ≤ gb225)); have n5_ := zC.mk ((by rw [hg]; exact Nat.ne_of_lt (blk_lt (g := gb224) (o := .cells #[.slice A0_0 l0_0.length c0_0, .slice A0_1 l0_1.length c0_1] 31 (0, 0)) (by (with_reducible repeat (first | refine zB ?_ _ | refine zD ?_ | refine zA ?_ _)); exact BK224.out)) : gb224 ≠ gb225)); have n6_ := zC.mk ((by rw [hg]; exact Nat.ne_of_gt (blk_lt (g := gb224) (o := .cells #[.slice A0_0 l0_0.length c0_0, .slice A0_1 l0_1.length c0_1] 31 (0, 0)) (by (with_reducible repeat (first | refine zB ?_ _ | refine zD ?_ | refine zA ?_ _)); exact BK224.out)) : gb225 ≠ gb224)); clear BK224; clear HB; have BK224 := n0_; have HB := n1_; have BK225 := n2_; have GW225 := n3_; have GE225 := n4_; have NB224_225 := n5_; have NB225_224 := n6_; clear n0_ n1_ n2_ n3_ n4_ n5_ n6_; clear hb hbox hg))
    go_ret2
    exact ⟨_, by first | rfl | (simp [errW_none, errW_some] <;> rfl) | (simp [*, errW_none, errW_some] <;> rfl), by first | exact Kd.R_nil _ _ _ _ _ | exact Kd.N_nil _ _ _ _ _ | exact Kd.V_nil _ _ _ _ _ | exact Kd.Q_nil _ _ _ _ _ | exact Kd.S_nil _ _ _ _ _, by repeat (first | (with_reducible first | exact HB.out | apply zJ | apply zG | apply zI | refine zE ?_ GE224.out | refine zE ?_ GE225.out) | exact HB.out)⟩
  rw [if_neg c5] at H; have c5b0 : decide (a2 ≤ a1) = false := decide_eq_false c5
  clear c5; obtain ⟨ji8, hji8⟩ : ∃ j_ : Int, (wrap64 ((wrap64 (a2 - a1)) + 1)) = j_ := ⟨_, rfl⟩; replace H : (if 0 ≤ (ji8) then (if (ji8 : Int).toNat ≤ 17592186044416 then (best_Break.l0 k a1 a2 (List.replicate (ji8 : Int).toNat z70) (wrap64 (a2 - 1)) l0_0 l0_1 a3_0 a3_1 a3_2 a3_3 a3_4 a3_5) else (none)) else (none)) = some (r1, r2) := by first | (rw [hji8] at H; exact H) | (simp only [hji8] at H ⊢; exact H)
  have hji8w : (IntKind.i64.wrap ((wrap64 (a2 - a1)) + 1)) = ji8 := (zL _).trans hji8
  by_cases c9 : 0 ≤ (ji8)
  rotate_left
  · rw [if_neg c9] at H
    exact absurd H (by simp)
  rw [if_pos c9] at H; have c9b0 := eq_true c9; have c9b1 : decide (0 ≤ (ji8)) = true := decide_eq_true c9
  clear c9; by_cases c10 : (ji8 : Int).toNat ≤ 17592186044416
  rotate_left
  · rw [if_neg c10] at H
    exact absurd H (by simp)
  rw [if_pos c10] at H; have c10b0 := eq_true c10; have c10b1 : decide ((ji8 : Int).toNat ≤ 17592186044416) = true := decide_eq_true c10
  clear c10; obtain ⟨y226, hy226⟩ : ∃ y_ : List (S70), y_ = (List.replicate (ji8 : Int).toNat z70) := ⟨_, rfl⟩; replace H : (best_Break.l0 k a1 a2 y226 (wrap64 (a2 - 1)) l0_0 l0_1 a3_0 a3_1 a3_2 a3_3 a3_4 a3_5) = some (r1, r2) := by first | (rw [hy226]; with_reducible exact H) | (have H2_ := (Option.bind_some _ _).symm.trans H; rw [hy226]; with_reducible exact H2_) | (have H2_ := (Option.bind_some _ _).symm.trans H; with_reducible exact H2_) | with_reducible exact H | (rw [hy226]; exact H) | exact H
  have Ny226 := zC.mk hy226; clear hy226; have H' := zC.mk H
  clear H; go_enter Try.func21, Try.ntmps21
  go_wp2_with (first | ((with_reducible refine gate_dst (N := 4) rfl ?_); refine box_event ?hg (N := 4) ?hd (cs := #[.slice A0_0 l0_0.length c0_0, .slice A0_1 l0_1.length c0_1]) (t := 31) ?hr ?_; (case hd => rfl); (case hg => rfl); (case hr => first | (go_simp; done) | (go_simp; rfl)); intro gb224 hg w11 hbox hb; have n0_ := zC.mk (zQ (by repeat (first | (with_reducible first | exact HB.out | apply zJ | apply zG | apply zI) | exact HB.out)) hb); have n1_ := zC.mk (hbox); have n2_ := zC.mk ((by rw [hg]; exact (zP (by repeat (first | (with_reducible first | exact HB.out | apply zJ | apply zG | apply zI) | exact HB.out))) : w.heap.size ≤ gb224)); have n3_ := zC.mk ((by rw [hg]; exact (zP (by repeat (first | (with_reducible first | exact HB.out | apply zJ | apply zG | apply zI) | exact HB.out))) : w.heap.size ≤ gb224)); clear HB; have HB := n0_; have BK224 := n1_; have GW224 := n2_; have GE224 := n3_; clear n0_ n1_ n2_ n3_; clear hb hbox hg) | ((with_reducible refine gate_dst (N := 7) rfl ?_); refine box_event ?hg (N := 7) ?hd (cs := #[.int .i64 a3_0, .int .i64 a3_1, .int .u8 a3_2, .int .i64 a3_3, .int .i64 a3_4, .float .f64 a3_5]) (t := 35) ?hr ?_; (case hd => rfl); (case hg => rfl); (case hr => first | (go_simp; done) | (go_simp; rfl)); intro gb225 hg w12 hbox hb; have n0_ := zC.mk (zK (g := gb224) (o := .cells #[.slice A0_0 l0_0.length c0_0, .slice A0_1 l0_1.length c0_1] 31 (0, 0)) (by (with_reducible repeat (first | refine zB ?_ _ | refine zD ?_ | refine zA ?_ _)); exact BK224.out) hb); have n1_ := zC.mk (zQ (by repeat (first | (with_reducible first | exact HB.out | apply zJ | apply zG | apply zI | refine zE ?_ GE224.out) | exact HB.out)) hb); have n2_ := zC.mk (hbox); have n3_ := zC.mk ((by rw [hg]; exact (zP (by repeat (first | (with_reducible first | exact HB.out | apply zJ | apply zG | apply zI | refine zE ?_ GE224.out) | exact HB.out))) : w.heap.size ≤ gb225)); have n4_ := zC.mk ((by rw [hg]; exact (zP (by repeat (first | (with_reducible first | exact HB.out | apply zJ | apply zG | apply zI | refine zE ?_ GE224.out) | exact HB.out))) : w.heap.size ≤ gb225)); have n5_ := zC.mk ((by rw [hg]; exact Nat.ne_of_lt (blk_lt (g := gb224) (o := .cells #[.slice A0_0 l0_0.length c0_0, .slice A0_1 l0_1.length c0_1] 31 (0, 0)) (by (with_reducible repeat (first | refine zB ?_ _ | refine zD ?_ | refine zA ?_ _)); exact BK224.out)) : gb224 ≠ gb225)); have n6_ := zC.mk ((by rw [hg]; exact Nat.ne_of_gt (blk_lt (g := gb224) (o := .cells #[.slice A0_0 l0_0.length c0_0, .slice A0_1 l0_1.length c0_1] 31 (0, 0)) (by (with_reducible repeat (first | refine zB ?_ _ | refine zD ?_ | refine zA ?_ _)); exact BK224.out)) : gb225 ≠ gb224)); clear BK224; clear HB; have BK224 := n0_; have HB := n1_; have BK225 := n2_; have GW225 := n3_; have GE225 := n4_; have NB224_225 := n5_; have NB225_224 := n6_; clear n0_ n1_ n2_ n3_ n4_ n5_ n6_; clear hb hbox hg) | ((with_reducible refine gate_dst (N := 22) rfl ?_); refine Kd.R_make k70 _ 70 rfl (N := 22) rfl 68 _ _ rfl ji8 rfl rfl Try.underlying68 (.agg #[(.int .i64 0), (.int .i64 0)]) 16 info70 rfl (by decide) (by omega) z70 (ok := fun _ => True) (okp := fun _ => True) (k70_mkM _ _ _ z70 ) (fun _ hk => hk) trivial (of_decide_eq_true (by first | (with_reducible assumption) | assumption)) (Nat.le_trans (Nat.mul_le_mul_right _ (of_decide_eq_true (by first | (with_reducible assumption) | assumption) : ji8.toNat ≤ 17592186044416)) (by omega)) (Below.refl _ _) (Nat.le_refl _) ?_; intro v227 w13 ho14 hb hg_ hnew_; clear hg_ hnew_; (first | rw [← Ny226.out] at ho14 | (simp only [Int.reduceToNat] at ho14; rw [← Ny226.out] at ho14)); have n0_ := zC.mk (Kd.R_lower ho14 (zP (by repeat (first | (with_reducible first | exact HB.out | apply zJ | apply zG | apply zI | refine zE ?_ GE224.out | refine zE ?_ GE225.out) | exact HB.out)))); have n1_ := zC.mk (zK (g := gb224) (o := .cells #[.slice A0_0 l0_0.length c0_0, .slice A0_1 l0_1.length c0_1] 31 (0, 0)) (by (with_reducible repeat (first | refine zB ?_ _ | refine zD ?_ | refine zA ?_ _)); exact BK224.out) hb); have n2_ := zC.mk (zK (g := gb225) (o := .cells #[.int .i64 a3_0, .int .i64 a3_1, .int .u8 a3_2, .int .i64 a3_3, .int .i64 a3_4, .float .f64 a3_5] 35 (0, 0)) (by (with_reducible repeat (first | refine zB ?_ _ | refine zD ?_ | refine zA ?_ _)); exact BK225.out) hb); have n3_ := zC.mk (zQ (by repeat (first | (with_reducible first | exact HB.out | apply zJ | apply zG | apply zI | refine zE ?_ GE224.out | refine zE ?_ GE225.out) | exact HB.out)) hb); clear BK224; clear BK225; clear HB; have HO228 := n0_; have BK224 := n1_; have BK225 := n2_; have HB := n3_; clear n0_ n1_ n2_ n3_; clear hb ho14))
  go_loopg [11] k (fun kq v11 w' => ∃ (x10_1 : List (S70)) (x11_1 : Int), v11 = .int .i64 x11_1 ∧ zC (best_Break.l0 kq a1 a2 x10_1 x11_1 l0_0 l0_1 a3_0 a3_1 a3_2 a3_3 a3_4 a3_5 = some (r1, r2)) ∧ zC (kq ≤ k) ∧ zC (Kd.R k70 70 w' w.heap.size (fun _ => True) v227 x10_1) ∧ zC (w'.heap[gb224]? = some (.cells #[(.slice A0_0 l0_0.length c0_0), (.slice A0_1 l0_1.length c0_1)] 31 (0, 0))) ∧ zC (w'.heap[gb225]? = some (.cells #[.int .i64 a3_0, .int .i64 a3_1, .int .u8 a3_2, .int .i64 a3_3, .int .i64 a3_4, .float .f64 a3_5] 35 (0, 0))) ∧ zC (Below w.heap.size w w'))
  case atStart => exact ⟨(y226), (wrap64 (a2 - 1)), (by first | rfl | (simp; done) | (simp [*]; done)), H', ⟨Nat.le_refl _⟩, ⟨by (with_reducible repeat (first | apply Kd.R_alloc | apply Kd.R_drewN | apply Kd.R_drew)); exact HO228.out⟩, ⟨by (with_reducible repeat (first | refine zB ?_ _ | refine zD ?_ | refine zA ?_ _)); exact BK224.out⟩, ⟨by (with_reducible repeat (first | refine zB ?_ _ | refine zD ?_ | refine zA ?_ _)); exact BK225.out⟩, ⟨by repeat (first | (with_reducible first | exact HB.out | apply zJ | apply zG | apply zI | refine zE ?_ GE224.out | refine zE ?_ GE225.out) | exact HB.out)⟩⟩
  clear H'; try clear c1
  try clear c2
  try clear p2
  try clear c5
  try clear c5b0
  try clear p6
  try clear c9
  try clear c9b0
  try clear c9b1
  try clear c10
  try clear c10b0
  try clear c10b1
  obtain ⟨x10_1, x11_1, rfl, HA, HK1, HO_10, BK224, BK225, HB⟩ := hrel; cases gk with
  | zero => exact absurd HA.out (by simp [best_Break.l0])
  | succ k1 =>
    have H := HA.out; clear HA; simp only [best_Break.l0] at H; by_cases c15 : x11_1 ≥ a1
    rotate_left
    · rw [if_neg c15] at H
      have c15b0 : decide (a1 ≤ x11_1) = false := decide_eq_false c15
      clear c15; by_cases c48 : 0 < (x10_1.length : Int)
      rotate_left
      · rw [if_neg c48] at H
        exact absurd H (by simp)
      rw [if_pos c48] at H; have c48b0 : decide (0 < (x10_1.length : Int)) = true := decide_eq_true c48
      have c48b1 : decide (0 < x10_1.length) = true := decide_eq_true (by omega)
      clear c48; by_cases c49 : ((rd_T70 x10_1 0).f1) < 0
      · rw [if_pos c49] at H
        have c49b0 : decide (((rd_T70 x10_1 0).f1) < 0) = true := decide_eq_true c49
        clear c49; simp only [Option.some.injEq, Prod.mk.injEq] at H; obtain ⟨rfl, rfl⟩ := H; obtain ⟨Ao50, co50, eo50⟩ := Kd.R_slice HO_10.out; subst eo50; have p237 : 0 ≤ (0 : Int) := (by omega)
        have q237 : 0 < (x10_1.length : Int) := of_decide_eq_true (by first | (with_reducible assumption) | assumption)
        obtain ⟨ad237, e237, hx237_0, hx237_1⟩ := at_T70 (Kd.R_reads' HO_10.out).2.2 0 p237 q237; cases e237
        have qi237 : (0 < x10_1.length) = True := eq_true (by omega)
        (try rw [show ((0 : Int)).toNat = 0 from rfl] at hx237_0)
        (try rw [show 0 * 2 = 0 from rfl] at hx237_0)
        (try rw [Addr.add_zero'] at hx237_0)
        (try rw [show ((0 : Int)).toNat = 0 from rfl] at hx237_1)
        (try rw [show 0 * 2 = 0 from rfl] at hx237_1)
        (try rw [Addr.add_zero'] at hx237_1)
        replace p237 := eq_true p237; replace q237 := eq_true q237; go_wp2
        go_ret2
        exact ⟨_, by first | rfl | (simp [errW_none, errW_some] <;> rfl) | (simp only [← hji8]; first | rfl | (simp [errW_none, errW_some] <;> rfl)) | (simp [*, errW_none, errW_some] <;> rfl), by first | exact Kd.R_nil _ _ _ _ _ | exact Kd.N_nil _ _ _ _ _ | exact Kd.V_nil _ _ _ _ _ | exact Kd.Q_nil _ _ _ _ _ | exact Kd.S_nil _ _ _ _ _, by repeat (first | (with_reducible first | exact HB.out | apply zJ | apply zG | apply zI | refine zE ?_ GE224.out | refine zE ?_ GE225.out) | exact HB.out)⟩
      rw [if_neg c49] at H; have c49b0 : decide (((rd_T70 x10_1 0).f1) < 0) = false := decide_eq_false c49
      clear c49; have H' := zC.mk H
      clear H; obtain ⟨Ao51, co51, eo51⟩ := Kd.R_slice HO_10.out; subst eo51; have p237 : 0 ≤ (0 : Int) := (by omega)
      have q237 : 0 < (x10_1.length : Int) := of_decide_eq_true (by first | (with_reducible assumption) | assumption)
      obtain ⟨ad237, e237, hx237_0, hx237_1⟩ := at_T70 (Kd.R_reads' HO_10.out).2.2 0 p237 q237; cases e237
      have qi237 : (0 < x10_1.length) = True := eq_true (by omega)
      (try rw [show ((0 : Int)).toNat = 0 from rfl] at hx237_0)
      (try rw [show 0 * 2 = 0 from rfl] at hx237_0)
      (try rw [Addr.add_zero'] at hx237_0)
      (try rw [show ((0 : Int)).toNat = 0 from rfl] at hx237_1)
      (try rw [show 0 * 2 = 0 from rfl] at hx237_1)
      (try rw [Addr.add_zero'] at hx237_1)
      replace p237 := eq_true p237; replace q237 := eq_true q237; go_wp2
      go_loopg [12, 13] k1 (fun kq v12 v13 w' => ∃ (x12_2 : List (S54)) (x13_2 : Int), v13 = .int .i64 x13_2 ∧ zC (best_Break.l1 kq a1 a2 x10_1 x12_2 x13_2 l0_0 l0_1 a3_0 a3_1 a3_2 a3_3 a3_4 a3_5 = some (r1, r2)) ∧ zC (kq ≤ k1) ∧ zC (Kd.R k70 70 w' w.heap.size (fun _ => True) (.slice (some ad237) x10_1.length co51) x10_1) ∧ zC (Kd.R k54 54 w' w.heap.size (fun _ => True) v12 x12_2) ∧ zC (w'.heap[gb224]? = some (.cells #[(.slice A0_0 l0_0.length c0_0), (.slice A0_1 l0_1.length c0_1)] 31 (0, 0))) ∧ zC (w'.heap[gb225]? = some (.cells #[.int .i64 a3_0, .int .i64 a3_1, .int .u8 a3_2, .int .i64 a3_3, .int .i64 a3_4, .float .f64 a3_5] 35 (0, 0))) ∧ zC (Below w.heap.size w w'))
      case atStart => exact ⟨(([] : List (S54))), (a1), (by first | rfl | (simp; done) | (simp [*]; done)), H', ⟨Nat.le_refl _⟩, ⟨by (with_reducible repeat (first | apply Kd.R_alloc | apply Kd.R_drewN | apply Kd.R_drew)); exact HO_10.out⟩, ⟨by first | exact Kd.R_nil _ _ _ _ _ | exact Kd.N_nil _ _ _ _ _ | exact Kd.V_nil _ _ _ _ _ | exact Kd.Q_nil _ _ _ _ _ | exact Kd.S_nil _ _ _ _ _⟩, ⟨by (with_reducible repeat (first | refine zB ?_ _ | refine zD ?_ | refine zA ?_ _)); exact BK224.out⟩, ⟨by (with_reducible repeat (first | refine zB ?_ _ | refine zD ?_ | refine zA ?_ _)); exact BK225.out⟩, ⟨by repeat (first | (with_reducible first | exact HB.out | apply zJ | apply zG | apply zI | refine zE ?_ GE224.out | refine zE ?_ GE225.out) | exact HB.out)⟩⟩
      clear H'; try clear c1
      try clear p1
      try clear q1
      try clear hx1
      try clear c2
      try clear p2
      try clear q2
      try clear hx2
      try clear qi2
      try clear c3
      try clear p3
      try clear q3
      try clear hx3
      try clear c4
      try clear hx4
      try clear hf4
      try clear c5
      try clear c5b0
      try clear p6
      try clear c9
      try clear c9b0
      try clear c9b1
      try clear c10
      try clear c10b0
      try clear c10b1
      try clear c15
      try clear c15b0
      try clear c17
      try clear c17b0
      try clear c18
      try clear c18b0
      try clear c19
      try clear p19
      try clear q19
      try clear hx19
      try clear hf19
      try clear c20
      try clear c20b0
      try clear c20b1
      try clear c21
      try clear c22
      try clear p22
      try clear q22
      try clear hx22
      try clear hf22
      try clear c23
      try clear p23
      try clear q23
      try clear hx23
      try clear qi23
      try clear hf23
      try clear c25
      try clear c29
      try clear hx29
      try clear hf29
      try clear c31
      try clear c31b0
      try clear c32
      try clear c32b0
      try clear c33
      try clear c33b0
      try clear c33b1
      try clear c34
      try clear hx34
      try clear hf34
      try clear c36
      try clear c39
      try clear p39
      try clear q39
      try clear hx39
      try clear hf39
      try clear c40
      try clear hx40
      try clear hf40
      try clear c42
      try clear c46
      try clear hx46
      try clear hf46
      try clear c48
      try clear c48b0
      try clear c48b1
      try clear c49
      try clear c49b0
      try clear hcz26_0
      try clear hcz26_1
      try clear hcz27_0
      try clear hcz27_1
      try clear hcz27_2
      try clear hcz27_3
      try clear hcz27_4
      try clear hcz27_5
      try clear hcz37_0
      try clear hcz37_1
      try clear hcz43_0
      try clear hcz43_1
      try clear hcz44_0
      try clear hcz44_1
      try clear hcz44_2
      try clear hcz44_3
      try clear hcz44_4
      try clear hcz44_5
      try clear hfz26_0
      try clear hfz26_1
      try clear hfz27_0
      try clear hfz27_1
      try clear hfz27_2
      try clear hfz27_3
      try clear hfz27_4
      try clear hfz27_5
      try clear hfz37_0
      try clear hfz37_1
      try clear hfz43_0
      try clear hfz43_1
      try clear hfz44_0
      try clear hfz44_1
      try clear hfz44_2
      try clear hfz44_3
      try clear hfz44_4
      try clear hfz44_5
      try clear hx19_0
      try clear hx19_1
      try clear hx22_0
      try clear hx22_1
      try clear hx233_0
      try clear hx237_0
      try clear hx237_1
      try clear hx23_0
      try clear hx23_1
      try clear hx29_0
      try clear hx29_1
      try clear hx34_0
      try clear hx34_1
      try clear hx39_0
      try clear hx39_1
      try clear hx40_0
      try clear hx40_1
      try clear hx46_0
      try clear hx46_1
      try clear p19
      try clear p2
      try clear p22
      try clear p233
      try clear p237
      try clear p39
      try clear p6
      try clear q19
      try clear q22
      try clear q233
      try clear q237
      try clear q39
      obtain ⟨x12_2, x13_2, rfl, HA, HK2, HO_10, HO_12, BK224, BK225, HB⟩ := hrel; cases gk with
      | zero => exact absurd HA.out (by simp [best_Break.l1])
      | succ k2 =>
        have H := HA.out; clear HA; simp only [best_Break.l1] at H; by_cases c52 : x13_2 < a2
        rotate_left
        · rw [if_neg c52] at H
          have c52b0 : decide (x13_2 < a2) = false := decide_eq_false c52
          clear c52; simp only [Option.some.injEq, Prod.mk.injEq] at H; obtain ⟨rfl, rfl⟩ := H; go_wp2
          go_ret2
          exact ⟨_, by first | rfl | (simp [errW_none, errW_some] <;> rfl) | (simp only [← hji8]; first | rfl | (simp [errW_none, errW_some] <;> rfl)) | (simp [*, errW_none, errW_some] <;> rfl), by (with_reducible repeat (first | apply Kd.R_alloc | apply Kd.R_drewN | apply Kd.R_drew)); exact HO_12.out, by repeat (first | (with_reducible first | exact HB.out | apply zJ | apply zG | apply zI | refine zE ?_ GE224.out | refine zE ?_ GE225.out) | exact HB.out)⟩
        rw [if_pos c52] at H; have c52b0 : decide (x13_2 < a2) = true := decide_eq_true c52
        clear c52; obtain ⟨ji53, hji53⟩ : ∃ j_ : Int, (wrap64 (x13_2 - a1)) = j_ := ⟨_, rfl⟩; replace H : (if 0 ≤ (ji53) then (if (ji53) < (x10_1.length : Int) then (if 0 ≤ ((rd_T70 x10_1 (ji53)).f1) then (if ((rd_T70 x10_1 (ji53)).f1) < (l0_1.length : Int) then ((span_Make.f k2 l0_0 l0_1 x13_2 ((rd_T70 x10_1 (ji53)).f1) (rd l0_1 ((rd_T70 x10_1 (ji53)).f1)) a3_1).bind fun bt240 => (if x12_2.length < 4398046511104 then (best_Break.l1 k2 a1 a2 x10_1 (x12_2 ++ [(⟨bt240.1, bt240.2.1, bt240.2.2.1, bt240.2.2.2⟩ : S54)]) ((rd_T70 x10_1 (ji53)).f1) l0_0 l0_1 a3_0 a3_1 a3_2 a3_3 a3_4 a3_5) else (none))) else (none)) else (none)) else (none)) else (none)) = some (r1, r2) := by first | (rw [hji53] at H; exact H) | (simp only [hji53] at H ⊢; exact H)
        have hji53w : (IntKind.i64.wrap (x13_2 - a1)) = ji53 := (zL _).trans hji53
        by_cases c54 : 0 ≤ (ji53)
        rotate_left
        · rw [if_neg c54] at H
          exact absurd H (by simp)
        rw [if_pos c54] at H; have c54b0 : decide (0 ≤ (ji53)) = true := decide_eq_true c54
        clear c54; by_cases c55 : (ji53) < (x10_1.length : Int)
        rotate_left
        · rw [if_neg c55] at H
          exact absurd H (by simp)
        rw [if_pos c55] at H; have c55b0 : decide ((ji53) < (x10_1.length : Int)) = true := decide_eq_true c55
        clear c55; by_cases c56 : 0 ≤ ((rd_T70 x10_1 (ji53)).f1)
        rotate_left
        · rw [if_neg c56] at H
          exact absurd H (by simp)
        rw [if_pos c56] at H; have c56b0 : decide (0 ≤ ((rd_T70 x10_1 (ji53)).f1)) = true := decide_eq_true c56
        clear c56; by_cases c57 : ((rd_T70 x10_1 (ji53)).f1) < (l0_1.length : Int)
        rotate_left
        · rw [if_neg c57] at H
          exact absurd H (by simp)
        rw [if_pos c57] at H; have c57b0 : decide (((rd_T70 x10_1 (ji53)).f1) < (l0_1.length : Int)) = true := decide_eq_true c57
        clear c57; replace H := Option.bind_eq_some_iff.mp H; obtain ⟨⟨t240, t241, t242, t243⟩, A580, H⟩ := H; replace H : (if x12_2.length < 4398046511104 then (best_Break.l1 k2 a1 a2 x10_1 (x12_2 ++ [(⟨t240, t241, t242, t243⟩ : S54)]) ((rd_T70 x10_1 (ji53)).f1) l0_0 l0_1 a3_0 a3_1 a3_2 a3_3 a3_4 a3_5) else (none)) = some (r1, r2) := H; have A58 := zC.mk A580; clear A580; by_cases c59 : x12_2.length < 4398046511104
        rotate_left
        · rw [if_neg c59] at H
          exact absurd H (by simp)
        rw [if_pos c59] at H; have LMc59 := zC.mk c59; clear c59; obtain ⟨y244, hy244⟩ : ∃ y_ : List (S54), y_ = (x12_2 ++ [(⟨t240, t241, t242, t243⟩ : S54)]) := ⟨_, rfl⟩; replace H : (best_Break.l1 k2 a1 a2 x10_1 y244 ((rd_T70 x10_1 (ji53)).f1) l0_0 l0_1 a3_0 a3_1 a3_2 a3_3 a3_4 a3_5) = some (r1, r2) := by first | (rw [hy244]; with_reducible exact H) | (have H2_ := (Option.bind_some _ _).symm.trans H; rw [hy244]; with_reducible exact H2_) | (have H2_ := (Option.bind_some _ _).symm.trans H; with_reducible exact H2_) | with_reducible exact H | (rw [hy244]; exact H) | exact H
        have Ny244 := zC.mk hy244; clear hy244; have H' := zC.mk H
        clear H; have p238 : 0 ≤ ((ji53) : Int) := of_decide_eq_true (by first | (with_reducible assumption) | assumption)
        have q238 : (ji53) < (x10_1.length : Int) := of_decide_eq_true (by first | (with_reducible assumption) | assumption)
        obtain ⟨ad238, e238, hx238_0, hx238_1⟩ := at_T70 (Kd.R_reads' HO_10.out).2.2 (ji53) p238 q238; obtain rfl : ad237 = ad238 := (by injection e238)
        replace p238 := eq_true p238; replace q238 := eq_true q238; try go_wp2
        have n0_ := zC.mk (Kd.R_drew HO_10.out); have n1_ := zC.mk (Kd.R_drew HO_12.out); have n2_ := zC.mk (zD BK224.out); have n3_ := zC.mk (zD BK225.out); have n4_ := zC.mk (zI HB.out); clear HO_10; clear HO_12; clear BK224; clear BK225; clear HB; have HO_10 := n0_; have HO_12 := n1_; have BK224 := n2_; have BK225 := n3_; have HB := n4_; clear n0_ n1_ n2_ n3_ n4_; have p239 : 0 ≤ (((rd_T70 x10_1 (ji53)).f1) : Int) := of_decide_eq_true (by first | (with_reducible assumption) | assumption)
        have q239 : ((rd_T70 x10_1 (ji53)).f1) < (l0_1.length : Int) := of_decide_eq_true (by first | (with_reducible assumption) | assumption)
        obtain ⟨ad239, e239, hx239_0⟩ := Kd.at_int HR0_1.out ((rd_T70 x10_1 (ji53)).f1) p239 q239; have hw239_0 := hx239_0; cases e239
        replace hx239_0 := (HB.out.cell (World.block_lt_of_cell? w _ hx239_0)).trans hx239_0; replace p239 := eq_true p239; replace q239 := eq_true q239; refine start_ (n := 15) (S := fun w' => w'.cell? ⟨gb224, 0, none⟩ = some (.slice A0_0 l0_0.length c0_0) ∧ w'.cell? ⟨gb224, 1, none⟩ = some (.slice (some ad239) l0_1.length c0_1) ∧ w'.cell? ⟨gb225, 0, none⟩ = some (.int .i64 a3_0) ∧ w'.cell? ⟨gb225, 1, none⟩ = some (.int .i64 a3_1) ∧ w'.cell? ⟨gb225, 2, none⟩ = some (.int .u8 a3_2) ∧ w'.cell? ⟨gb225, 3, none⟩ = some (.int .i64 a3_3) ∧ w'.cell? ⟨gb225, 4, none⟩ = some (.int .i64 a3_4) ∧ w'.cell? ⟨gb225, 5, none⟩ = some (.float .f64 a3_5) ∧ w'.cell? (ad239.add (((rd_T70 x10_1 (ji53)).f1)).toNat) = some (.int .u8 (rd l0_1 ((rd_T70 x10_1 (ji53)).f1)))) (ds := []) #[false, false, false, false, false, false, false, false, false, false, false, false, false, false, false] (by kernel_rfl) rfl rfl ⟨(zF BK224.out 0).trans rfl, (zF BK224.out 1).trans rfl, (zF BK225.out 0).trans rfl, (zF BK225.out 1).trans rfl, (zF BK225.out 2).trans rfl, (zF BK225.out 3).trans rfl, (zF BK225.out 4).trans rfl, (zF BK225.out 5).trans rfl, ((HB.out.cell (World.block_lt_of_cell? w _ hw239_0)).trans hw239_0)⟩ (fun hHeld => ?_); refine with_tabW best_Break.tab16 best_Break.bits16 (fun HT_ HW_ => ?_)
        generalize wr.drew = w60 at HO_10 HO_12 BK224 BK225 HB hx239_0 hHeld ⊢
        refine pure_ (i := 0) (N := some 75) (v := ?_) (a' := ?_) (tf_ 1 15) rfl rfl (zN HT_.out (by kernel_rfl)) (fun _ _ _ h => h) (Or.inl ⟨by rfl, ?_⟩) ?_ ?_
        rotate_left
        · intro w'
          go_simp
          with_reducible rfl
        rotate_left
        · simp only [Act.put, sA_, sB_, sC_, zL, zM]
          rfl
        refine pure_ (i := 2) (N := some 77) (v := ?_) (a' := ?_) #[true, false, true, false, false, false, false, false, false, false, false, false, false, false, false] rfl rfl (zN HT_.out (by kernel_rfl)) (fun _ _ _ h => h) (Or.inl ⟨by rfl, ?_⟩) ?_ ?_
        rotate_left
        · intro w'
          go_simp
          with_reducible rfl
        rotate_left
        · simp only [Act.put, sA_, sB_, sC_, zL, zM]
          rfl
        refine pure_ (i := 3) (N := some 78) (v := ?_) (a' := ?_) #[true, false, true, true, false, false, false, false, false, false, false, false, false, false, false] rfl rfl (zN HT_.out (by kernel_rfl)) (fun _ _ _ h => h) (Or.inl ⟨by rfl, ?_⟩) ?_ ?_
        rotate_left
        · intro w'
          go_simp
          with_reducible rfl
        rotate_left
        · simp only [Act.put, sA_, sB_, sC_, zL, zM]
          rfl
        refine pure_ (i := 4) (N := some 79) (v := ?_) (a' := ?_) #[true, false, true, true, true, false, false, false, false, false, false, false, false, false, false] rfl rfl (zN HT_.out (by kernel_rfl)) (fun _ _ _ h => h) (Or.inl ⟨by rfl, ?_⟩) ?_ ?_
        rotate_left
        · intro w'
          go_simp
          with_reducible rfl
        rotate_left
        · simp only [Act.put, sA_, sB_, sC_, zL, zM]
          rfl
        refine pure_ (i := 6) (N := some 81) (v := ?_) (a' := ?_) #[true, false, true, true, true, false, true, false, false, false, false, false, false, false, false] rfl rfl (zN HT_.out (by kernel_rfl)) (fun _ _ _ h => h) (Or.inl ⟨by rfl, ?_⟩) ?_ ?_
        rotate_left
        · intro w'
          go_simp
          with_reducible rfl
        rotate_left
        · simp only [Act.put, sA_, sB_, sC_, zL, zM]
          rfl
        refine pure_ (i := 9) (N := some 84) (v := ?_) (a' := ?_) #[true, false, true, true, true, false, true, false, false, true, false, false, false, false, false] rfl rfl (zN HT_.out (by kernel_rfl)) (fun _ _ _ h => h) (Or.inl ⟨by rfl, ?_⟩) ?_ ?_
        rotate_left
        · intro w'
          go_simp
          with_reducible rfl
        rotate_left
        · simp only [Act.put, sA_, sB_, sC_, zL, zM]
          rfl
        refine take_ (i := 1) (N := some 76) (v := ?_) (a' := ?_) #[true, true, true, true, true, false, true, false, false, true, false, false, false, false, false] rfl rfl (take_ofW HT_.out HW_.out (by kernel_rfl)) (fun _ _ _ h => h) (Or.inl ⟨by rfl, ?_⟩) hHeld ?_ ?_
        rotate_left
        · rintro w' ⟨s0, s1, s2, s3, s4, s5, s6, s7, s8⟩
          go_simp
          with_reducible rfl
        rotate_left
        · simp only [Act.put, sA_, sB_, sC_, zL, zM]
          rfl
        refine take_ (i := 5) (N := some 80) (v := ?_) (a' := ?_) #[true, true, true, true, true, true, true, false, false, true, false, false, false, false, false] rfl rfl (take_ofW HT_.out HW_.out (by kernel_rfl)) (fun _ _ _ h => h) (Or.inl ⟨by rfl, ?_⟩) hHeld ?_ ?_
        rotate_left
        · rintro w' ⟨s0, s1, s2, s3, s4, s5, s6, s7, s8⟩
          go_simp
          with_reducible rfl
        rotate_left
        · simp only [Act.put, sA_, sB_, sC_, zL, zM]
          rfl
        refine pure_ (i := 7) (N := some 82) (v := ?_) (a' := ?_) #[true, true, true, true, true, true, true, true, false, true, false, false, false, false, false] rfl rfl (zN HT_.out (by kernel_rfl)) (fun _ _ _ h => h) (Or.inl ⟨by rfl, ?_⟩) ?_ ?_
        rotate_left
        · intro w'
          go_simp
          with_reducible rfl
        rotate_left
        · simp only [Act.put, sA_, sB_, sC_, zL, zM]
          rfl
        refine take_ (i := 8) (N := some 83) (v := ?_) (a' := ?_) (tf_ 10 15) rfl rfl (take_ofW HT_.out HW_.out (by kernel_rfl)) (fun _ _ _ h => h) (Or.inl ⟨by rfl, ?_⟩) hHeld ?_ ?_
        rotate_left
        · rintro w' ⟨s0, s1, s2, s3, s4, s5, s6, s7, s8⟩
          go_simp
          with_reducible rfl
        rotate_left
        · simp only [Act.put, sA_, sB_, sC_, zL, zM]
          rfl
        refine take_ (i := 10) (N := some 85) (v := ?_) (a' := ?_) (tf_ 11 15) rfl rfl (take_ofW HT_.out HW_.out (by kernel_rfl)) (fun _ _ _ h => h) (Or.inl ⟨by rfl, ?_⟩) hHeld ?_ ?_
        rotate_left
        · rintro w' ⟨s0, s1, s2, s3, s4, s5, s6, s7, s8⟩
          go_simp
          with_reducible rfl
        rotate_left
        · simp only [Act.put, sA_, sB_, sC_, zL, zM]
          rfl
        refine one_ (i := 11) (N := some 86) #[true, true, true, true, true, true, true, true, true, true, true, true, false, false, false] rfl rfl (one_of HT_.out (by kernel_rfl)) (by decide) (fun K hK => ?_)
        refine goes_ Try.func30 (by kernel_rfl) rfl #[.agg #[.slice A0_0 l0_0.length c0_0, .slice (some ad239) l0_1.length c0_1], .int .i64 x13_2, .int .i64 ((rd_T70 x10_1 (ji53)).f1), .int .u8 (rd l0_1 ((rd_T70 x10_1 (ji53)).f1)), .int .i64 a3_1] (by rfl) rfl rfl (by (try simp only [List.map_toArray, List.map_cons, List.map_nil]); first | done | (simp only [hji53]; rfl) | rfl | (simp only [List.length_drop, List.length_take]; rfl)) ?_
        with_reducible refine (span_Make.calls k2 _ _ l0_0 _ _ l0_1 x13_2 ((rd_T70 x10_1 (ji53)).f1) (rd l0_1 ((rd_T70 x10_1 (ji53)).f1)) a3_1 t240 t241 t242 t243 _ ?side1 ?side2 ?side3 ?side4 A58.out).mono ?_
        (case side1 => repeat (first | exact (Kd.C_below HR0_0.out HB.out) | (with_reducible refine Kd.C_alloc ?_ _) | (with_reducible refine Kd.C_drewN ?_ _) | (with_reducible refine Kd.C_drew ?_)))
        (case side2 => exact HC0_0.out)
        (case side3 => repeat (first | exact (Kd.C_below HR0_1.out HB.out) | (with_reducible refine Kd.C_alloc ?_ _) | (with_reducible refine Kd.C_drewN ?_ _) | (with_reducible refine Kd.C_drew ?_)))
        (case side4 => exact HC0_1.out)
        rintro e w61 ⟨rfl, hb⟩
        refine ⟨_, rfl, ?_⟩
        have n0_ := zC.mk (Kd.R_below (by (with_reducible repeat (first | apply Kd.R_alloc | apply Kd.R_drewN | apply Kd.R_drew)); exact HO_10.out) hb)
        have n1_ := zC.mk (Kd.R_below (by (with_reducible repeat (first | apply Kd.R_alloc | apply Kd.R_drewN | apply Kd.R_drew)); exact HO_12.out) hb)
        have n2_ := zC.mk (zK (g := gb224) (o := .cells #[.slice A0_0 l0_0.length c0_0, .slice (some ad239) l0_1.length c0_1] 31 (0, 0)) (by (with_reducible repeat (first | refine zB ?_ _ | refine zD ?_ | refine zA ?_ _)); exact BK224.out) hb)
        have n3_ := zC.mk (zK (g := gb225) (o := .cells #[.int .i64 a3_0, .int .i64 a3_1, .int .u8 a3_2, .int .i64 a3_3, .int .i64 a3_4, .float .f64 a3_5] 35 (0, 0)) (by (with_reducible repeat (first | refine zB ?_ _ | refine zD ?_ | refine zA ?_ _)); exact BK225.out) hb)
        have n4_ := zC.mk (zQ (by repeat (first | (with_reducible first | exact HB.out | apply zJ | apply zG | apply zI | refine zE ?_ GE224.out | refine zE ?_ GE225.out) | exact HB.out)) hb)
        clear HO_10 HO_12 BK224 BK225 HB; have HO_10 := n0_; have HO_12 := n1_; have BK224 := n2_; have BK225 := n3_; have HB := n4_; clear n0_ n1_ n2_ n3_ n4_; (try clear hb)
        (try clear hb2)
        (try clear hk)
        (try clear hi)
        refine hK.out _ _ ⟨(zF BK224.out 0).trans rfl, (zF BK224.out 1).trans rfl, (zF BK225.out 0).trans rfl, (zF BK225.out 1).trans rfl, (zF BK225.out 2).trans rfl, (zF BK225.out 3).trans rfl, (zF BK225.out 4).trans rfl, (zF BK225.out 5).trans rfl, ((HB.out.cell (World.block_lt_of_cell? w _ hw239_0)).trans hw239_0)⟩ (fun hHeld => ?_)
        clear hK K; refine norm_ (a' := ?_) ?_ ?_
        rotate_left
        · show Act.put _ (some 86) _ = _
          simp only [Act.put, sA_, sB_, sC_, zL, zM]; rfl
        refine one_ (i := 12) (N := some 87) #[true, true, true, true, true, true, true, true, true, true, true, true, true, false, false] rfl rfl (one_of HT_.out (by kernel_rfl)) (by decide) (fun K hK => ?_)
        refine value_ (w1 := ?_) (v := ?_) (by rfl) rfl ?_ ?_
        rotate_left 2
        · go_simp
          constructor
          · rfl
          rfl
        refine hK.out _ _ ⟨(zF (zA BK224.out _) 0).trans rfl, (zF (zA BK224.out _) 1).trans rfl, (zF (zA BK225.out _) 0).trans rfl, (zF (zA BK225.out _) 1).trans rfl, (zF (zA BK225.out _) 2).trans rfl, (zF (zA BK225.out _) 3).trans rfl, (zF (zA BK225.out _) 4).trans rfl, (zF (zA BK225.out _) 5).trans rfl, (World.cell?_alloc_lt _ _ _ (World.block_lt_of_cell? _ _ (((HB.out.cell (World.block_lt_of_cell? w _ hw239_0)).trans hw239_0)))).trans (((HB.out.cell (World.block_lt_of_cell? w _ hw239_0)).trans hw239_0))⟩ (fun hHeld => ?_)
        clear hK K; refine norm_ (a' := ?_) ?_ ?_
        rotate_left
        · show Act.put _ (some 87) _ = _
          simp only [Act.put, sA_, sB_, sC_, zL, zM]; rfl
        refine one_ (i := 13) (N := some 88) #[true, true, true, true, true, true, true, true, true, true, true, true, true, true, false] rfl rfl (one_of HT_.out (by kernel_rfl)) (by decide) (fun K hK => ?_)
        refine Kd.R_append_step k54 (w0 := w) w.heap.size (by rfl) (.tmp 75) (.tmp 87) 37 54 (.agg #[(.int .i64 0), (.int .i64 0), (.int .i64 0), (.int .u8 0)]) 32 rfl Try.underlying37 info54 rfl (by decide) (by omega) u12 x12_2 (⟨t240, t241, t242, t243⟩ : S54) [.int .i64 t240, .int .i64 t241, .int .i64 t242, .int .u8 t243] (fun _ => True) (fun _ => False) rfl rfl ?aP (fun _ hk => hk.elim) ?aF ?aO ?aB ?aS ?aL ?_
        (case aP => exact k54_mkM _ _ _ (⟨t240, t241, t242, t243⟩ : S54))
        (case aB => exact (by repeat (first | (with_reducible first | exact HB.out | apply zJ | apply zG | apply zI | refine zE ?_ GE224.out | refine zE ?_ GE225.out) | exact HB.out)))
        (case aF => exact (fun _ _ => trivial))
        (case aO => exact (by (with_reducible repeat (first | apply Kd.R_alloc | apply Kd.R_drewN | apply Kd.R_drew)); exact HO_12.out))
        (case aS => exact (zP (by repeat (first | (with_reducible first | exact HB.out | apply zJ | apply zG | apply zI | refine zE ?_ GE224.out | refine zE ?_ GE225.out) | exact HB.out))))
        (case aL => have := LMc59.out; omega)
        intro v245 w62 ho hb hg hat
        rw [← Ny244.out] at ho; have n0_ := zC.mk (Kd.R_over' (by (with_reducible repeat (first | apply Kd.R_alloc | apply Kd.R_drewN | apply Kd.R_drew)); exact HO_10.out) (Kd.R_typed (by (with_reducible repeat (first | apply Kd.R_alloc | apply Kd.R_drewN | apply Kd.R_drew)); exact HO_12.out)) (by decide) hg)
        have n1_ := zC.mk (blk_grown (g := gb224) (o := .cells #[.slice A0_0 l0_0.length c0_0, .slice (some ad239) l0_1.length c0_1] 31 (0, 0)) (by (with_reducible repeat (first | refine zB ?_ _ | refine zD ?_ | refine zA ?_ _)); exact BK224.out) hg (Kd.R_ne HO_12.out BK224.out (by decide)))
        have n2_ := zC.mk (blk_grown (g := gb225) (o := .cells #[.int .i64 a3_0, .int .i64 a3_1, .int .u8 a3_2, .int .i64 a3_3, .int .i64 a3_4, .float .f64 a3_5] 35 (0, 0)) (by (with_reducible repeat (first | refine zB ?_ _ | refine zD ?_ | refine zA ?_ _)); exact BK225.out) hg (Kd.R_ne HO_12.out BK225.out (by decide)))
        have n3_ := zC.mk (hb); have n4_ := zC.mk (ho); clear HO_10; clear BK224; clear BK225; clear HB; clear HO_12; have HO_10 := n0_; have BK224 := n1_; have BK225 := n2_; have HB := n3_; have HO246 := n4_; clear n0_ n1_ n2_ n3_ n4_; clear ho hb hg hat; refine hK.out _ _ ⟨(zF BK224.out 0).trans rfl, (zF BK224.out 1).trans rfl, (zF BK225.out 0).trans rfl, (zF BK225.out 1).trans rfl, (zF BK225.out 2).trans rfl, (zF BK225.out 3).trans rfl, (zF BK225.out 4).trans rfl, (zF BK225.out 5).trans rfl, ((HB.out.cell (World.block_lt_of_cell? w _ hw239_0)).trans hw239_0)⟩ (fun hHeld => ?_)
        clear hK K; refine norm_ (a' := ?_) ?_ ?_
        rotate_left
        · show Act.put _ (some 88) _ = _
          simp only [Act.put, sA_, sB_, sC_, zL, zM]; rfl
        refine pure_ (i := 14) (N := some 12) (v := ?_) (a' := ?_) #[true, true, true, true, true, true, true, true, true, true, true, true, true, true, true] rfl rfl (zN HT_.out (by kernel_rfl)) (fun _ _ _ h => h) (Or.inl ⟨by rfl, ?_⟩) ?_ ?_
        rotate_left
        · intro w'
          go_simp
          with_reducible rfl
        rotate_left
        · simp only [Act.put, sA_, sB_, sC_, zL, zM]
          rfl
        refine done_ (done_of HT_.out (by kernel_rfl)) ?_
        try go_wp2
        go_roundg k2
        case measure => have := HK1.out; have := HK2.out; omega
        case rel => exact ⟨(y244), ((rd_T70 x10_1 (ji53)).f1), (by first | rfl | (simp; done) | (simp only [← hji53] <;> (first | rfl | simp)) | (simp [*]; done)), H', ⟨by have := HK1.out; have := HK2.out; omega⟩, ⟨by (with_reducible repeat (first | apply Kd.R_alloc | apply Kd.R_drewN | apply Kd.R_drew)); exact HO_10.out⟩, ⟨by (with_reducible repeat (first | apply Kd.R_alloc | apply Kd.R_drewN | apply Kd.R_drew)); exact HO246.out⟩, ⟨by (with_reducible repeat (first | refine zB ?_ _ | refine zD ?_ | refine zA ?_ _)); exact BK224.out⟩, ⟨by (with_reducible repeat (first | refine zB ?_ _ | refine zD ?_ | refine zA ?_ _)); exact BK225.out⟩, ⟨by repeat (first | (with_reducible first | exact HB.out | apply zJ | apply zG | apply zI | refine zE ?_ GE224.out | refine zE ?_ GE225.out) | exact HB.out)⟩⟩
    rw [if_pos c15] at H; have c15b0 : decide (a1 ≤ x11_1) = true := decide_eq_true c15
    clear c15; obtain ⟨ji16, hji16⟩ : ∃ j_ : Int, (wrap64 (x11_1 - a1)) = j_ := ⟨_, rfl⟩; replace H : (if 0 ≤ (ji16) then (if (ji16) < (x10_1.length : Int) then ((some (x10_1.set ((ji16) : Int).toNat (⟨0, (-1)⟩ : S70) : List (S70))).bind fun y229 => (if x11_1 = a1 then ((best_next.f k1 l0_0 l0_1 x11_1 a1 a2 y229 a3_0 a3_1 a3_2 a3_3 a3_4 a3_5).bind fun bt230 => (best_Break.l0 k1 a1 a2 (y229.set ((ji16) : Int).toNat (⟨bt230.1, bt230.2⟩ : S70)) (wrap64 (x11_1 - 1)) l0_0 l0_1 a3_0 a3_1 a3_2 a3_3 a3_4 a3_5)) else (if 0 ≤ x11_1 then (if x11_1 < (l0_1.length : Int) then (if (rd l0_1 x11_1) = 0 then (best_Break.l0 k1 a1 a2 y229 (wrap64 (x11_1 - 1)) l0_0 l0_1 a3_0 a3_1 a3_2 a3_3 a3_4 a3_5) else ((best_next.f k1 l0_0 l0_1 x11_1 a1 a2 y229 a3_0 a3_1 a3_2 a3_3 a3_4 a3_5).bind fun bt234 => (best_Break.l0 k1 a1 a2 (y229.set ((ji16) : Int).toNat (⟨bt234.1, bt234.2⟩ : S70)) (wrap64 (x11_1 - 1)) l0_0 l0_1 a3_0 a3_1 a3_2 a3_3 a3_4 a3_5))) else (none)) else (none)))) else (none)) else (none)) = some (r1, r2) := by first | (rw [hji16] at H; exact H) | (simp only [hji16] at H ⊢; exact H)
    have hji16w : (IntKind.i64.wrap (x11_1 - a1)) = ji16 := (zL _).trans hji16
    by_cases c17 : 0 ≤ (ji16)
    rotate_left
    · rw [if_neg c17] at H
      exact absurd H (by simp)
    rw [if_pos c17] at H; have c17b0 : decide (0 ≤ (ji16)) = true := decide_eq_true c17
    clear c17; by_cases c18 : (ji16) < (x10_1.length : Int)
    rotate_left
    · rw [if_neg c18] at H
      exact absurd H (by simp)
    rw [if_pos c18] at H; have c18b0 : decide ((ji16) < (x10_1.length : Int)) = true := decide_eq_true c18
    clear c18; obtain ⟨y229, hy229⟩ : ∃ y_ : List (S70), y_ = (x10_1.set ((ji16) : Int).toNat (⟨0, (-1)⟩ : S70)) := ⟨_, rfl⟩; replace H : (if x11_1 = a1 then ((best_next.f k1 l0_0 l0_1 x11_1 a1 a2 y229 a3_0 a3_1 a3_2 a3_3 a3_4 a3_5).bind fun bt230 => (best_Break.l0 k1 a1 a2 (y229.set ((ji16) : Int).toNat (⟨bt230.1, bt230.2⟩ : S70)) (wrap64 (x11_1 - 1)) l0_0 l0_1 a3_0 a3_1 a3_2 a3_3 a3_4 a3_5)) else (if 0 ≤ x11_1 then (if x11_1 < (l0_1.length : Int) then (if (rd l0_1 x11_1) = 0 then (best_Break.l0 k1 a1 a2 y229 (wrap64 (x11_1 - 1)) l0_0 l0_1 a3_0 a3_1 a3_2 a3_3 a3_4 a3_5) else ((best_next.f k1 l0_0 l0_1 x11_1 a1 a2 y229 a3_0 a3_1 a3_2 a3_3 a3_4 a3_5).bind fun bt234 => (best_Break.l0 k1 a1 a2 (y229.set ((ji16) : Int).toNat (⟨bt234.1, bt234.2⟩ : S70)) (wrap64 (x11_1 - 1)) l0_0 l0_1 a3_0 a3_1 a3_2 a3_3 a3_4 a3_5))) else (none)) else (none))) = some (r1, r2) := by first | (rw [hy229]; with_reducible exact H) | (have H2_ := (Option.bind_some _ _).symm.trans H; rw [hy229]; with_reducible exact H2_) | (have H2_ := (Option.bind_some _ _).symm.trans H; with_reducible exact H2_) | with_reducible exact H | (rw [hy229]; exact H) | exact H
    have Ny229 := zC.mk hy229; clear hy229; by_cases c20 : x11_1 = a1
    · rw [if_pos c20] at H
      have c20b0 : (x11_1 == a1) = true := beq_iff_eq.mpr c20
      have c20b1 : (x11_1 != a1) = false := bne_eq_false_iff_eq.mpr c20
      clear c20; replace H := Option.bind_eq_some_iff.mp H; obtain ⟨⟨t230, t231⟩, A210, H⟩ := H; replace H : (best_Break.l0 k1 a1 a2 (y229.set ((ji16) : Int).toNat (⟨t230, t231⟩ : S70)) (wrap64 (x11_1 - 1)) l0_0 l0_1 a3_0 a3_1 a3_2 a3_3 a3_4 a3_5) = some (r1, r2) := H; have A21 := zC.mk A210; clear A210; obtain ⟨y232, hy232⟩ : ∃ y_ : List (S70), y_ = (y229.set ((ji16) : Int).toNat (⟨t230, t231⟩ : S70)) := ⟨_, rfl⟩; replace H : (best_Break.l0 k1 a1 a2 y232 (wrap64 (x11_1 - 1)) l0_0 l0_1 a3_0 a3_1 a3_2 a3_3 a3_4 a3_5) = some (r1, r2) := by first | (rw [hy232]; with_reducible exact H) | (have H2_ := (Option.bind_some _ _).symm.trans H; rw [hy232]; with_reducible exact H2_) | (have H2_ := (Option.bind_some _ _).symm.trans H; with_reducible exact H2_) | with_reducible exact H | (rw [hy232]; exact H) | exact H
      have Ny232 := zC.mk hy232; clear hy232; have H' := zC.mk H
      clear H; have p19 : 0 ≤ ((ji16) : Int) := of_decide_eq_true (by first | (with_reducible assumption) | assumption)
      have q19 : ((ji16) : Int) < ((x10_1.length : Int) : Int) := of_decide_eq_true (by first | (with_reducible assumption) | assumption)
      obtain ⟨go19, co19, eo19, gb19, gl19, cl19, HG19⟩ := Kd.R_form HO_10.out (by omega)
      (first | cases eo19 | (injection eo19 with ea_ en_ ec_; (first | subst ea_ | (injection ea_ with ea_; subst ea_)); subst ec_; clear en_))
      have GB19 := zC.mk gb19; have GG19 := zC.mk HG19; clear gb19 gl19 HG19; obtain ⟨ce19, hcl19, hM19, hcc19, hfr19⟩ := Kd.R_elem HO_10.out z70 ((ji16) : Int) p19 q19; obtain rfl := k70_openM hM19
      have hx19_0 : wr.cell? ⟨go19, ((ji16) : Int).toNat * 2, none⟩ = some (.int .i64 ((rd_T70 x10_1 (ji16)).f0)) := hcc19 0 _ rfl
      have hx19_1 : wr.cell? ⟨go19, ((ji16) : Int).toNat * 2 + 1, none⟩ = some (.int .i64 ((rd_T70 x10_1 (ji16)).f1)) := hcc19 1 _ rfl
      have hf19_0 : wr.frozen? ⟨go19, ((ji16) : Int).toNat * 2, none⟩ = false := hfr19 0
      have hf19_1 : wr.frozen? ⟨go19, ((ji16) : Int).toNat * 2 + 1, none⟩ = false := hfr19 1
      clear hcl19 hcc19 hfr19 hM19; replace p19 := eq_true p19; replace q19 := eq_true q19; have HX23 := zC.mk (show Kd.R k70 70 wr w.heap.size (fun _ => True) (.slice (some ⟨go19, 0, none⟩) x10_1.length co19) x10_1 from (by (with_reducible repeat (first | apply Kd.R_alloc | apply Kd.R_drewN | apply Kd.R_drew)); exact HO_10.out))
      obtain ⟨ce23, hcl23, hM23, hcc23, hfr23⟩ := Kd.R_elem HX23.out z70 ((ji16) : Int) (of_decide_eq_true (by first | (with_reducible assumption) | assumption)) (by have h_ : ((ji16) : Int) < ((x10_1.length : Int) : Int) := of_decide_eq_true (by first | (with_reducible assumption) | assumption); first | exact h_ | (have e_ := (Kd.R_reads' HO_10.out).1; omega) | simpa using h_)
      obtain rfl := k70_openM hM23
      have HP23 := Kd.R_seg HX23.out ((ji16) : Int) (of_decide_eq_true (by first | (with_reducible assumption) | assumption)) (by have h_ : ((ji16) : Int) < ((x10_1.length : Int) : Int) := of_decide_eq_true (by first | (with_reducible assumption) | assumption); first | exact h_ | (have e_ := (Kd.R_reads' HO_10.out).1; omega) | simpa using h_) (seg := [.int .i64 0, .int .i64 (-1)]) (j := 0) hcl23 hcc23 (show 2 ≤ 2 from by decide) (x' := (⟨0, (-1)⟩ : S70)) (k70_mkM _ _ _ (⟨0, (-1)⟩ : S70) ) (fun _ hk => hk)
      have hx23_0 := hcc23 0 _ rfl; (try simp only [show (k70).sz = 2 from rfl, Nat.mul_one, Nat.add_zero] at hx23_0)
      have hf23_0 := hfr23 0; (try simp only [show (k70).sz = 2 from rfl, Nat.mul_one, Nat.add_zero] at hf23_0)
      have hx23_1 := hcc23 1 _ rfl; (try simp only [show (k70).sz = 2 from rfl, Nat.mul_one, Nat.add_zero] at hx23_1)
      have hf23_1 := hfr23 1; (try simp only [show (k70).sz = 2 from rfl, Nat.mul_one, Nat.add_zero] at hf23_1)
      clear hcl23 hcc23 hfr23 hM23; go_wp2_with (first | ((with_reducible refine gate_store (t := 70) (p := 35) rfl ?_); refine store_event (t := 70) (p := 35) (v := ?vo_w24) (w1 := ((wr.setCell ⟨go19, ((ji16) : Int).toNat * 2, none⟩ (.int .i64 0)).setCell ⟨go19, ((ji16) : Int).toNat * 2 + 1, none⟩ (.int .i64 (-1)))) ?hg ?ho ?hn ?hr ?_; (case ho => rfl); (case hg => rfl); (case hn => rfl); (case hr => first | (go_simp; done) | (go_simp; rfl)); intro w24 hw; have hg : wr.grownBy w24 (some go19) := (by rw [hw]; exact HP23.2); have hp_ : Kd.R k70 70 w24 w.heap.size (fun _ => True) (.slice (some ⟨go19, 0, none⟩) x10_1.length co19) y229 := (by rw [hw, Ny229.out]; exact HP23.1); clear HP23; have n0_ := zC.mk (hp_); have n1_ := zC.mk (blk_grown (g := gb224) (o := .cells #[.slice A0_0 l0_0.length c0_0, .slice A0_1 l0_1.length c0_1] 31 (0, 0)) (by (with_reducible repeat (first | refine zB ?_ _ | refine zD ?_ | refine zA ?_ _)); exact BK224.out) hg (Kd.R_ne HO_10.out BK224.out (by decide))); have n2_ := zC.mk (blk_grown (g := gb225) (o := .cells #[.int .i64 a3_0, .int .i64 a3_1, .int .u8 a3_2, .int .i64 a3_3, .int .i64 a3_4, .float .f64 a3_5] 35 (0, 0)) (by (with_reducible repeat (first | refine zB ?_ _ | refine zD ?_ | refine zA ?_ _)); exact BK225.out) hg (Kd.R_ne HO_10.out BK225.out (by decide))); have n3_ := zC.mk ((by rw [hw]; exact zE (zE (HB.out) GB19.out) GB19.out : Below w.heap.size w w24)); clear HO_10; clear BK224; clear BK225; clear HB; have HO_10 := n0_; have BK224 := n1_; have BK225 := n2_; have HB := n3_; clear n0_ n1_ n2_ n3_; clear hg hw hp_; have hnb25 := NB224_225.out; have hnc25 := NB225_224.out; have hcz26_0 : w24.cell? ⟨gb224, 0, none⟩ = some (.slice A0_0 l0_0.length c0_0) := (zF BK224.out 0).trans rfl; have hcz26_1 : w24.cell? ⟨gb224, 1, none⟩ = some (.slice A0_1 l0_1.length c0_1) := (zF BK224.out 1).trans rfl; have hfz26_0 := zH BK224.out 0; have hfz26_1 := zH BK224.out 1; have hcz27_0 : w24.cell? ⟨gb225, 0, none⟩ = some (.int .i64 a3_0) := (zF BK225.out 0).trans rfl; have hcz27_1 : w24.cell? ⟨gb225, 1, none⟩ = some (.int .i64 a3_1) := (zF BK225.out 1).trans rfl; have hcz27_2 : w24.cell? ⟨gb225, 2, none⟩ = some (.int .u8 a3_2) := (zF BK225.out 2).trans rfl; have hcz27_3 : w24.cell? ⟨gb225, 3, none⟩ = some (.int .i64 a3_3) := (zF BK225.out 3).trans rfl; have hcz27_4 : w24.cell? ⟨gb225, 4, none⟩ = some (.int .i64 a3_4) := (zF BK225.out 4).trans rfl; have hcz27_5 : w24.cell? ⟨gb225, 5, none⟩ = some (.float .f64 a3_5) := (zF BK225.out 5).trans rfl; have hfz27_0 := zH BK225.out 0; have hfz27_1 := zH BK225.out 1; have hfz27_2 := zH BK225.out 2; have hfz27_3 := zH BK225.out 3; have hfz27_4 := zH BK225.out 4; have hfz27_5 := zH BK225.out 5) | ((with_reducible refine gate_callee (f := 29) rfl ?_); refine goesL_ (some 57) rfl rfl Try.func29 (by kernel_rfl) rfl #[.agg #[.slice A0_0 l0_0.length c0_0, .slice A0_1 l0_1.length c0_1], .int .i64 x11_1, .int .i64 a1, .int .i64 a2, .slice (some ⟨go19, 0, none⟩) y229.length co19, .agg #[.int .i64 a3_0, .int .i64 a3_1, .int .u8 a3_2, .int .i64 a3_3, .int .i64 a3_4, .float .f64 a3_5]] rfl (by (try simp only [List.map_toArray, List.map_cons, List.map_nil]); first | done | (rw [show y229.length = x10_1.length from (Kd.R_reads' HO_10.out).1.symm] <;> rfl) | rfl | (simp only [List.length_drop, List.length_take]; rfl)) ?_; (with_reducible refine (best_next.calls k1 _ _ l0_0 _ _ l0_1 x11_1 a1 a2 _ _ y229 a3_0 a3_1 a3_2 a3_3 a3_4 a3_5 t230 t231 _ ?side1 ?side2 ?side3 ?side4 ?side5 ?side6 A21.out).mono ?_); (case side1 => repeat (first | exact (Kd.C_below HR0_0.out HB.out) | (with_reducible refine Kd.C_alloc ?_ _) | (with_reducible refine Kd.C_drewN ?_ _) | (with_reducible refine Kd.C_drew ?_))); (case side2 => exact HC0_0.out); (case side3 => repeat (first | exact (Kd.C_below HR0_1.out HB.out) | (with_reducible refine Kd.C_alloc ?_ _) | (with_reducible refine Kd.C_drewN ?_ _) | (with_reducible refine Kd.C_drew ?_))); (case side4 => exact HC0_1.out); (case side5 => repeat (first | exact (Kd.R_reads' HO_10.out).2.2 | (with_reducible refine Kd.C_alloc ?_ _) | (with_reducible refine Kd.C_drewN ?_ _) | (with_reducible refine Kd.C_drew ?_))); (case side6 => rw [show y229.length = x10_1.length from (Kd.R_reads' HO_10.out).1.symm]; exact (Kd.R_reads' HO_10.out).2.1); rintro e w28 ⟨rfl, hb⟩; refine ⟨_, rfl, ?_⟩; have n0_ := zC.mk (Kd.R_below (by (with_reducible repeat (first | apply Kd.R_alloc | apply Kd.R_drewN | apply Kd.R_drew)); exact HO_10.out) hb); have n1_ := zC.mk (zK (g := gb224) (o := .cells #[.slice A0_0 l0_0.length c0_0, .slice A0_1 l0_1.length c0_1] 31 (0, 0)) (by (with_reducible repeat (first | refine zB ?_ _ | refine zD ?_ | refine zA ?_ _)); exact BK224.out) hb); have n2_ := zC.mk (zK (g := gb225) (o := .cells #[.int .i64 a3_0, .int .i64 a3_1, .int .u8 a3_2, .int .i64 a3_3, .int .i64 a3_4, .float .f64 a3_5] 35 (0, 0)) (by (with_reducible repeat (first | refine zB ?_ _ | refine zD ?_ | refine zA ?_ _)); exact BK225.out) hb); have n3_ := zC.mk (zQ (by repeat (first | (with_reducible first | exact HB.out | apply zJ | apply zG | apply zI | refine zE ?_ GE224.out | refine zE ?_ GE225.out) | exact HB.out)) hb); clear HO_10; clear BK224; clear BK225; clear HB; have HO_10 := n0_; have BK224 := n1_; have BK225 := n2_; have HB := n3_; clear n0_ n1_ n2_ n3_; (try clear hb); (try clear hb2); (try clear hk); (try clear hi); have p22 : 0 ≤ ((ji16) : Int) := of_decide_eq_true (by first | (with_reducible assumption) | assumption); have q22 : ((ji16) : Int) < ((x10_1.length : Int) : Int) := of_decide_eq_true (by first | (with_reducible assumption) | assumption); obtain ⟨ce22, hcl22, hM22, hcc22, hfr22⟩ := Kd.R_elem HO_10.out z70 ((ji16) : Int) p22 q22; obtain rfl := k70_openM hM22; have hx22_0 : w28.cell? ⟨go19, ((ji16) : Int).toNat * 2, none⟩ = some (.int .i64 ((rd_T70 y229 (ji16)).f0)) := hcc22 0 _ rfl; have hx22_1 : w28.cell? ⟨go19, ((ji16) : Int).toNat * 2 + 1, none⟩ = some (.int .i64 ((rd_T70 y229 (ji16)).f1)) := hcc22 1 _ rfl; have hf22_0 : w28.frozen? ⟨go19, ((ji16) : Int).toNat * 2, none⟩ = false := hfr22 0; have hf22_1 : w28.frozen? ⟨go19, ((ji16) : Int).toNat * 2 + 1, none⟩ = false := hfr22 1; clear hcl22 hcc22 hfr22 hM22; replace p22 := eq_true p22; replace q22 := eq_true q22; have HX29 := zC.mk (show Kd.R k70 70 w28 w.heap.size (fun _ => True) (.slice (some ⟨go19, 0, none⟩) x10_1.length co19) y229 from (by (with_reducible repeat (first | apply Kd.R_alloc | apply Kd.R_drewN | apply Kd.R_drew)); exact HO_10.out)); obtain ⟨ce29, hcl29, hM29, hcc29, hfr29⟩ := Kd.R_elem HX29.out z70 ((ji16) : Int) (of_decide_eq_true (by first | (with_reducible assumption) | assumption)) (by have h_ : ((ji16) : Int) < ((x10_1.length : Int) : Int) := of_decide_eq_true (by first | (with_reducible assumption) | assumption); first | exact h_ | (have e_ := (Kd.R_reads' HO_10.out).1; omega) | simpa using h_); obtain rfl := k70_openM hM29; have HP29 := Kd.R_seg HX29.out ((ji16) : Int) (of_decide_eq_true (by first | (with_reducible assumption) | assumption)) (by have h_ : ((ji16) : Int) < ((x10_1.length : Int) : Int) := of_decide_eq_true (by first | (with_reducible assumption) | assumption); first | exact h_ | (have e_ := (Kd.R_reads' HO_10.out).1; omega) | simpa using h_) (seg := [.int .i64 t230, .int .i64 t231]) (j := 0) hcl29 hcc29 (show 2 ≤ 2 from by decide) (x' := (⟨t230, t231⟩ : S70)) (k70_mkM _ _ _ (⟨t230, t231⟩ : S70) ) (fun _ hk => hk); have hx29_0 := hcc29 0 _ rfl; (try simp only [show (k70).sz = 2 from rfl, Nat.mul_one, Nat.add_zero] at hx29_0); have hf29_0 := hfr29 0; (try simp only [show (k70).sz = 2 from rfl, Nat.mul_one, Nat.add_zero] at hf29_0); have hx29_1 := hcc29 1 _ rfl; (try simp only [show (k70).sz = 2 from rfl, Nat.mul_one, Nat.add_zero] at hx29_1); have hf29_1 := hfr29 1; (try simp only [show (k70).sz = 2 from rfl, Nat.mul_one, Nat.add_zero] at hf29_1); clear hcl29 hcc29 hfr29 hM29) | ((with_reducible refine gate_store (t := 70) (p := 58) rfl ?_); refine store_event (t := 70) (p := 58) (v := ?vo_w30) (w1 := ((w28.setCell ⟨go19, ((ji16) : Int).toNat * 2, none⟩ (.int .i64 t230)).setCell ⟨go19, ((ji16) : Int).toNat * 2 + 1, none⟩ (.int .i64 t231))) ?hg ?ho ?hn ?hr ?_; (case ho => rfl); (case hg => rfl); (case hn => rfl); (case hr => first | (go_simp; done) | (go_simp; rfl)); intro w30 hw; have hg : w28.grownBy w30 (some go19) := (by rw [hw]; exact HP29.2); have hp_ : Kd.R k70 70 w30 w.heap.size (fun _ => True) (.slice (some ⟨go19, 0, none⟩) x10_1.length co19) y232 := (by rw [hw, Ny232.out]; exact HP29.1); clear HP29; have n0_ := zC.mk (hp_); have n1_ := zC.mk (blk_grown (g := gb224) (o := .cells #[.slice A0_0 l0_0.length c0_0, .slice A0_1 l0_1.length c0_1] 31 (0, 0)) (by (with_reducible repeat (first | refine zB ?_ _ | refine zD ?_ | refine zA ?_ _)); exact BK224.out) hg (Kd.R_ne HO_10.out BK224.out (by decide))); have n2_ := zC.mk (blk_grown (g := gb225) (o := .cells #[.int .i64 a3_0, .int .i64 a3_1, .int .u8 a3_2, .int .i64 a3_3, .int .i64 a3_4, .float .f64 a3_5] 35 (0, 0)) (by (with_reducible repeat (first | refine zB ?_ _ | refine zD ?_ | refine zA ?_ _)); exact BK225.out) hg (Kd.R_ne HO_10.out BK225.out (by decide))); have n3_ := zC.mk ((by rw [hw]; exact zE (zE (HB.out) GB19.out) GB19.out : Below w.heap.size w w30)); clear HO_10; clear BK224; clear BK225; clear HB; have HO_10 := n0_; have BK224 := n1_; have BK225 := n2_; have HB := n3_; clear n0_ n1_ n2_ n3_; clear hg hw hp_))
      go_roundg k1
      case measure => have := HK1.out; omega
      case rel => exact ⟨(y232), (wrap64 (x11_1 - 1)), (by first | rfl | (simp; done) | (simp [*]; done)), H', ⟨by have := HK1.out; omega⟩, ⟨by (with_reducible repeat (first | apply Kd.R_alloc | apply Kd.R_drewN | apply Kd.R_drew)); exact HO_10.out⟩, ⟨by (with_reducible repeat (first | refine zB ?_ _ | refine zD ?_ | refine zA ?_ _)); exact BK224.out⟩, ⟨by (with_reducible repeat (first | refine zB ?_ _ | refine zD ?_ | refine zA ?_ _)); exact BK225.out⟩, ⟨by repeat (first | (with_reducible first | exact HB.out | apply zJ | apply zG | apply zI | refine zE ?_ GE224.out | refine zE ?_ GE225.out) | exact HB.out)⟩⟩
    rw [if_neg c20] at H; have c20b0 : (x11_1 == a1) = false := beq_eq_false_iff_ne.mpr c20
    have c20b1 : (x11_1 != a1) = true := bne_iff_ne.mpr c20
    by_cases c31 : 0 ≤ x11_1
    rotate_left
    · rw [if_neg c31] at H
      exact absurd H (by simp)
    rw [if_pos c31] at H; have c31b0 : decide (0 ≤ x11_1) = true := decide_eq_true c31
    clear c31; by_cases c32 : x11_1 < (l0_1.length : Int)
    rotate_left
    · rw [if_neg c32] at H
      exact absurd H (by simp)
    rw [if_pos c32] at H; have c32b0 : decide (x11_1 < (l0_1.length : Int)) = true := decide_eq_true c32
    clear c32; by_cases c33 : (rd l0_1 x11_1) = 0
    · rw [if_pos c33] at H
      have c33b0 : ((rd l0_1 x11_1) == 0) = true := beq_iff_eq.mpr c33
      have c33b1 : ((rd l0_1 x11_1) != 0) = false := bne_eq_false_iff_eq.mpr c33
      clear c33; have H' := zC.mk H
      clear H; have p19 : 0 ≤ ((ji16) : Int) := of_decide_eq_true (by first | (with_reducible assumption) | assumption)
      have q19 : ((ji16) : Int) < ((x10_1.length : Int) : Int) := of_decide_eq_true (by first | (with_reducible assumption) | assumption)
      obtain ⟨go19, co19, eo19, gb19, gl19, cl19, HG19⟩ := Kd.R_form HO_10.out (by omega)
      (first | cases eo19 | (injection eo19 with ea_ en_ ec_; (first | subst ea_ | (injection ea_ with ea_; subst ea_)); subst ec_; clear en_))
      have GB19 := zC.mk gb19; have GG19 := zC.mk HG19; clear gb19 gl19 HG19; obtain ⟨ce19, hcl19, hM19, hcc19, hfr19⟩ := Kd.R_elem HO_10.out z70 ((ji16) : Int) p19 q19; obtain rfl := k70_openM hM19
      have hx19_0 : wr.cell? ⟨go19, ((ji16) : Int).toNat * 2, none⟩ = some (.int .i64 ((rd_T70 x10_1 (ji16)).f0)) := hcc19 0 _ rfl
      have hx19_1 : wr.cell? ⟨go19, ((ji16) : Int).toNat * 2 + 1, none⟩ = some (.int .i64 ((rd_T70 x10_1 (ji16)).f1)) := hcc19 1 _ rfl
      have hf19_0 : wr.frozen? ⟨go19, ((ji16) : Int).toNat * 2, none⟩ = false := hfr19 0
      have hf19_1 : wr.frozen? ⟨go19, ((ji16) : Int).toNat * 2 + 1, none⟩ = false := hfr19 1
      clear hcl19 hcc19 hfr19 hM19; replace p19 := eq_true p19; replace q19 := eq_true q19; have HX34 := zC.mk (show Kd.R k70 70 wr w.heap.size (fun _ => True) (.slice (some ⟨go19, 0, none⟩) x10_1.length co19) x10_1 from (by (with_reducible repeat (first | apply Kd.R_alloc | apply Kd.R_drewN | apply Kd.R_drew)); exact HO_10.out))
      obtain ⟨ce34, hcl34, hM34, hcc34, hfr34⟩ := Kd.R_elem HX34.out z70 ((ji16) : Int) (of_decide_eq_true (by first | (with_reducible assumption) | assumption)) (by have h_ : ((ji16) : Int) < ((x10_1.length : Int) : Int) := of_decide_eq_true (by first | (with_reducible assumption) | assumption); first | exact h_ | (have e_ := (Kd.R_reads' HO_10.out).1; omega) | simpa using h_)
      obtain rfl := k70_openM hM34
      have HP34 := Kd.R_seg HX34.out ((ji16) : Int) (of_decide_eq_true (by first | (with_reducible assumption) | assumption)) (by have h_ : ((ji16) : Int) < ((x10_1.length : Int) : Int) := of_decide_eq_true (by first | (with_reducible assumption) | assumption); first | exact h_ | (have e_ := (Kd.R_reads' HO_10.out).1; omega) | simpa using h_) (seg := [.int .i64 0, .int .i64 (-1)]) (j := 0) hcl34 hcc34 (show 2 ≤ 2 from by decide) (x' := (⟨0, (-1)⟩ : S70)) (k70_mkM _ _ _ (⟨0, (-1)⟩ : S70) ) (fun _ hk => hk)
      have hx34_0 := hcc34 0 _ rfl; (try simp only [show (k70).sz = 2 from rfl, Nat.mul_one, Nat.add_zero] at hx34_0)
      have hf34_0 := hfr34 0; (try simp only [show (k70).sz = 2 from rfl, Nat.mul_one, Nat.add_zero] at hf34_0)
      have hx34_1 := hcc34 1 _ rfl; (try simp only [show (k70).sz = 2 from rfl, Nat.mul_one, Nat.add_zero] at hx34_1)
      have hf34_1 := hfr34 1; (try simp only [show (k70).sz = 2 from rfl, Nat.mul_one, Nat.add_zero] at hf34_1)
      clear hcl34 hcc34 hfr34 hM34; go_wp2_with (first | ((with_reducible refine gate_store (t := 70) (p := 35) rfl ?_); refine store_event (t := 70) (p := 35) (v := ?vo_w35) (w1 := ((wr.setCell ⟨go19, ((ji16) : Int).toNat * 2, none⟩ (.int .i64 0)).setCell ⟨go19, ((ji16) : Int).toNat * 2 + 1, none⟩ (.int .i64 (-1)))) ?hg ?ho ?hn ?hr ?_; (case ho => rfl); (case hg => rfl); (case hn => rfl); (case hr => first | (go_simp; done) | (go_simp; rfl)); intro w35 hw; have hg : wr.grownBy w35 (some go19) := (by rw [hw]; exact HP34.2); have hp_ : Kd.R k70 70 w35 w.heap.size (fun _ => True) (.slice (some ⟨go19, 0, none⟩) x10_1.length co19) y229 := (by rw [hw, Ny229.out]; exact HP34.1); clear HP34; have n0_ := zC.mk (hp_); have n1_ := zC.mk (blk_grown (g := gb224) (o := .cells #[.slice A0_0 l0_0.length c0_0, .slice A0_1 l0_1.length c0_1] 31 (0, 0)) (by (with_reducible repeat (first | refine zB ?_ _ | refine zD ?_ | refine zA ?_ _)); exact BK224.out) hg (Kd.R_ne HO_10.out BK224.out (by decide))); have n2_ := zC.mk (blk_grown (g := gb225) (o := .cells #[.int .i64 a3_0, .int .i64 a3_1, .int .u8 a3_2, .int .i64 a3_3, .int .i64 a3_4, .float .f64 a3_5] 35 (0, 0)) (by (with_reducible repeat (first | refine zB ?_ _ | refine zD ?_ | refine zA ?_ _)); exact BK225.out) hg (Kd.R_ne HO_10.out BK225.out (by decide))); have n3_ := zC.mk ((by rw [hw]; exact zE (zE (HB.out) GB19.out) GB19.out : Below w.heap.size w w35)); clear HO_10; clear BK224; clear BK225; clear HB; have HO_10 := n0_; have BK224 := n1_; have BK225 := n2_; have HB := n3_; clear n0_ n1_ n2_ n3_; clear hg hw hp_; have hnb36 := NB224_225.out; have hnc36 := NB225_224.out; have hcz37_0 : w35.cell? ⟨gb224, 0, none⟩ = some (.slice A0_0 l0_0.length c0_0) := (zF BK224.out 0).trans rfl; have hcz37_1 : w35.cell? ⟨gb224, 1, none⟩ = some (.slice A0_1 l0_1.length c0_1) := (zF BK224.out 1).trans rfl; have hfz37_0 := zH BK224.out 0; have hfz37_1 := zH BK224.out 1; have p233 : 0 ≤ (x11_1 : Int) := of_decide_eq_true (by first | (with_reducible assumption) | assumption); have q233 : x11_1 < (l0_1.length : Int) := of_decide_eq_true (by first | (with_reducible assumption) | assumption); obtain ⟨ad233, e233, hx233_0⟩ := Kd.at_int HR0_1.out x11_1 p233 q233; cases e233; replace hx233_0 := (HB.out.cell (World.block_lt_of_cell? w _ hx233_0)).trans hx233_0; replace p233 := eq_true p233; replace q233 := eq_true q233))
      go_roundg k1
      case measure => have := HK1.out; omega
      case rel => exact ⟨(y229), (wrap64 (x11_1 - 1)), (by first | rfl | (simp; done) | (simp [*]; done)), H', ⟨by have := HK1.out; omega⟩, ⟨by (with_reducible repeat (first | apply Kd.R_alloc | apply Kd.R_drewN | apply Kd.R_drew)); exact HO_10.out⟩, ⟨by (with_reducible repeat (first | refine zB ?_ _ | refine zD ?_ | refine zA ?_ _)); exact BK224.out⟩, ⟨by (with_reducible repeat (first | refine zB ?_ _ | refine zD ?_ | refine zA ?_ _)); exact BK225.out⟩, ⟨by repeat (first | (with_reducible first | exact HB.out | apply zJ | apply zG | apply zI | refine zE ?_ GE224.out | refine zE ?_ GE225.out) | exact HB.out)⟩⟩
    rw [if_neg c33] at H; have c33b0 : ((rd l0_1 x11_1) == 0) = false := beq_eq_false_iff_ne.mpr c33
    have c33b1 : ((rd l0_1 x11_1) != 0) = true := bne_iff_ne.mpr c33
    replace H := Option.bind_eq_some_iff.mp H; obtain ⟨⟨t234, t235⟩, A380, H⟩ := H; replace H : (best_Break.l0 k1 a1 a2 (y229.set ((ji16) : Int).toNat (⟨t234, t235⟩ : S70)) (wrap64 (x11_1 - 1)) l0_0 l0_1 a3_0 a3_1 a3_2 a3_3 a3_4 a3_5) = some (r1, r2) := H; have A38 := zC.mk A380; clear A380; obtain ⟨y236, hy236⟩ : ∃ y_ : List (S70), y_ = (y229.set ((ji16) : Int).toNat (⟨t234, t235⟩ : S70)) := ⟨_, rfl⟩; replace H : (best_Break.l0 k1 a1 a2 y236 (wrap64 (x11_1 - 1)) l0_0 l0_1 a3_0 a3_1 a3_2 a3_3 a3_4 a3_5) = some (r1, r2) := by first | (rw [hy236]; with_reducible exact H) | (have H2_ := (Option.bind_some _ _).symm.trans H; rw [hy236]; with_reducible exact H2_) | (have H2_ := (Option.bind_some _ _).symm.trans H; with_reducible exact H2_) | with_reducible exact H | (rw [hy236]; exact H) | exact H
    have Ny236 := zC.mk hy236; clear hy236; have H' := zC.mk H
    clear H; have p19 : 0 ≤ ((ji16) : Int) := of_decide_eq_true (by first | (with_reducible assumption) | assumption)
    have q19 : ((ji16) : Int) < ((x10_1.length : Int) : Int) := of_decide_eq_true (by first | (with_reducible assumption) | assumption)
    obtain ⟨go19, co19, eo19, gb19, gl19, cl19, HG19⟩ := Kd.R_form HO_10.out (by omega)
    (first | cases eo19 | (injection eo19 with ea_ en_ ec_; (first | subst ea_ | (injection ea_ with ea_; subst ea_)); subst ec_; clear en_))
    have GB19 := zC.mk gb19; have GG19 := zC.mk HG19; clear gb19 gl19 HG19; obtain ⟨ce19, hcl19, hM19, hcc19, hfr19⟩ := Kd.R_elem HO_10.out z70 ((ji16) : Int) p19 q19; obtain rfl := k70_openM hM19
    have hx19_0 : wr.cell? ⟨go19, ((ji16) : Int).toNat * 2, none⟩ = some (.int .i64 ((rd_T70 x10_1 (ji16)).f0)) := hcc19 0 _ rfl
    have hx19_1 : wr.cell? ⟨go19, ((ji16) : Int).toNat * 2 + 1, none⟩ = some (.int .i64 ((rd_T70 x10_1 (ji16)).f1)) := hcc19 1 _ rfl
    have hf19_0 : wr.frozen? ⟨go19, ((ji16) : Int).toNat * 2, none⟩ = false := hfr19 0
    have hf19_1 : wr.frozen? ⟨go19, ((ji16) : Int).toNat * 2 + 1, none⟩ = false := hfr19 1
    clear hcl19 hcc19 hfr19 hM19; replace p19 := eq_true p19; replace q19 := eq_true q19; have HX40 := zC.mk (show Kd.R k70 70 wr w.heap.size (fun _ => True) (.slice (some ⟨go19, 0, none⟩) x10_1.length co19) x10_1 from (by (with_reducible repeat (first | apply Kd.R_alloc | apply Kd.R_drewN | apply Kd.R_drew)); exact HO_10.out))
    obtain ⟨ce40, hcl40, hM40, hcc40, hfr40⟩ := Kd.R_elem HX40.out z70 ((ji16) : Int) (of_decide_eq_true (by first | (with_reducible assumption) | assumption)) (by have h_ : ((ji16) : Int) < ((x10_1.length : Int) : Int) := of_decide_eq_true (by first | (with_reducible assumption) | assumption); first | exact h_ | (have e_ := (Kd.R_reads' HO_10.out).1; omega) | simpa using h_)
    obtain rfl := k70_openM hM40
    have HP40 := Kd.R_seg HX40.out ((ji16) : Int) (of_decide_eq_true (by first | (with_reducible assumption) | assumption)) (by have h_ : ((ji16) : Int) < ((x10_1.length : Int) : Int) := of_decide_eq_true (by first | (with_reducible assumption) | assumption); first | exact h_ | (have e_ := (Kd.R_reads' HO_10.out).1; omega) | simpa using h_) (seg := [.int .i64 0, .int .i64 (-1)]) (j := 0) hcl40 hcc40 (show 2 ≤ 2 from by decide) (x' := (⟨0, (-1)⟩ : S70)) (k70_mkM _ _ _ (⟨0, (-1)⟩ : S70) ) (fun _ hk => hk)
    have hx40_0 := hcc40 0 _ rfl; (try simp only [show (k70).sz = 2 from rfl, Nat.mul_one, Nat.add_zero] at hx40_0)
    have hf40_0 := hfr40 0; (try simp only [show (k70).sz = 2 from rfl, Nat.mul_one, Nat.add_zero] at hf40_0)
    have hx40_1 := hcc40 1 _ rfl; (try simp only [show (k70).sz = 2 from rfl, Nat.mul_one, Nat.add_zero] at hx40_1)
    have hf40_1 := hfr40 1; (try simp only [show (k70).sz = 2 from rfl, Nat.mul_one, Nat.add_zero] at hf40_1)
    clear hcl40 hcc40 hfr40 hM40; go_wp2_with (first | ((with_reducible refine gate_store (t := 70) (p := 35) rfl ?_); refine store_event (t := 70) (p := 35) (v := ?vo_w41) (w1 := ((wr.setCell ⟨go19, ((ji16) : Int).toNat * 2, none⟩ (.int .i64 0)).setCell ⟨go19, ((ji16) : Int).toNat * 2 + 1, none⟩ (.int .i64 (-1)))) ?hg ?ho ?hn ?hr ?_; (case ho => rfl); (case hg => rfl); (case hn => rfl); (case hr => first | (go_simp; done) | (go_simp; rfl)); intro w41 hw; have hg : wr.grownBy w41 (some go19) := (by rw [hw]; exact HP40.2); have hp_ : Kd.R k70 70 w41 w.heap.size (fun _ => True) (.slice (some ⟨go19, 0, none⟩) x10_1.length co19) y229 := (by rw [hw, Ny229.out]; exact HP40.1); clear HP40; have n0_ := zC.mk (hp_); have n1_ := zC.mk (blk_grown (g := gb224) (o := .cells #[.slice A0_0 l0_0.length c0_0, .slice A0_1 l0_1.length c0_1] 31 (0, 0)) (by (with_reducible repeat (first | refine zB ?_ _ | refine zD ?_ | refine zA ?_ _)); exact BK224.out) hg (Kd.R_ne HO_10.out BK224.out (by decide))); have n2_ := zC.mk (blk_grown (g := gb225) (o := .cells #[.int .i64 a3_0, .int .i64 a3_1, .int .u8 a3_2, .int .i64 a3_3, .int .i64 a3_4, .float .f64 a3_5] 35 (0, 0)) (by (with_reducible repeat (first | refine zB ?_ _ | refine zD ?_ | refine zA ?_ _)); exact BK225.out) hg (Kd.R_ne HO_10.out BK225.out (by decide))); have n3_ := zC.mk ((by rw [hw]; exact zE (zE (HB.out) GB19.out) GB19.out : Below w.heap.size w w41)); clear HO_10; clear BK224; clear BK225; clear HB; have HO_10 := n0_; have BK224 := n1_; have BK225 := n2_; have HB := n3_; clear n0_ n1_ n2_ n3_; clear hg hw hp_; have hnb42 := NB224_225.out; have hnc42 := NB225_224.out; have hcz43_0 : w41.cell? ⟨gb224, 0, none⟩ = some (.slice A0_0 l0_0.length c0_0) := (zF BK224.out 0).trans rfl; have hcz43_1 : w41.cell? ⟨gb224, 1, none⟩ = some (.slice A0_1 l0_1.length c0_1) := (zF BK224.out 1).trans rfl; have hfz43_0 := zH BK224.out 0; have hfz43_1 := zH BK224.out 1; have p233 : 0 ≤ (x11_1 : Int) := of_decide_eq_true (by first | (with_reducible assumption) | assumption); have q233 : x11_1 < (l0_1.length : Int) := of_decide_eq_true (by first | (with_reducible assumption) | assumption); obtain ⟨ad233, e233, hx233_0⟩ := Kd.at_int HR0_1.out x11_1 p233 q233; cases e233; replace hx233_0 := (HB.out.cell (World.block_lt_of_cell? w _ hx233_0)).trans hx233_0; replace p233 := eq_true p233; replace q233 := eq_true q233; have hcz44_0 : w41.cell? ⟨gb225, 0, none⟩ = some (.int .i64 a3_0) := (zF BK225.out 0).trans rfl; have hcz44_1 : w41.cell? ⟨gb225, 1, none⟩ = some (.int .i64 a3_1) := (zF BK225.out 1).trans rfl; have hcz44_2 : w41.cell? ⟨gb225, 2, none⟩ = some (.int .u8 a3_2) := (zF BK225.out 2).trans rfl; have hcz44_3 : w41.cell? ⟨gb225, 3, none⟩ = some (.int .i64 a3_3) := (zF BK225.out 3).trans rfl; have hcz44_4 : w41.cell? ⟨gb225, 4, none⟩ = some (.int .i64 a3_4) := (zF BK225.out 4).trans rfl; have hcz44_5 : w41.cell? ⟨gb225, 5, none⟩ = some (.float .f64 a3_5) := (zF BK225.out 5).trans rfl; have hfz44_0 := zH BK225.out 0; have hfz44_1 := zH BK225.out 1; have hfz44_2 := zH BK225.out 2; have hfz44_3 := zH BK225.out 3; have hfz44_4 := zH BK225.out 4; have hfz44_5 := zH BK225.out 5) | ((with_reducible refine gate_callee (f := 29) rfl ?_); refine goesL_ (some 57) rfl rfl Try.func29 (by kernel_rfl) rfl #[.agg #[.slice A0_0 l0_0.length c0_0, .slice (some ad233) l0_1.length c0_1], .int .i64 x11_1, .int .i64 a1, .int .i64 a2, .slice (some ⟨go19, 0, none⟩) y229.length co19, .agg #[.int .i64 a3_0, .int .i64 a3_1, .int .u8 a3_2, .int .i64 a3_3, .int .i64 a3_4, .float .f64 a3_5]] rfl (by (try simp only [List.map_toArray, List.map_cons, List.map_nil]); first | done | (rw [show y229.length = x10_1.length from (Kd.R_reads' HO_10.out).1.symm] <;> rfl) | rfl | (simp only [List.length_drop, List.length_take]; rfl)) ?_; (with_reducible refine (best_next.calls k1 _ _ l0_0 _ _ l0_1 x11_1 a1 a2 _ _ y229 a3_0 a3_1 a3_2 a3_3 a3_4 a3_5 t234 t235 _ ?side1 ?side2 ?side3 ?side4 ?side5 ?side6 A38.out).mono ?_); (case side1 => repeat (first | exact (Kd.C_below HR0_0.out HB.out) | (with_reducible refine Kd.C_alloc ?_ _) | (with_reducible refine Kd.C_drewN ?_ _) | (with_reducible refine Kd.C_drew ?_))); (case side2 => exact HC0_0.out); (case side3 => repeat (first | exact (Kd.C_below HR0_1.out HB.out) | (with_reducible refine Kd.C_alloc ?_ _) | (with_reducible refine Kd.C_drewN ?_ _) | (with_reducible refine Kd.C_drew ?_))); (case side4 => exact HC0_1.out); (case side5 => repeat (first | exact (Kd.R_reads' HO_10.out).2.2 | (with_reducible refine Kd.C_alloc ?_ _) | (with_reducible refine Kd.C_drewN ?_ _) | (with_reducible refine Kd.C_drew ?_))); (case side6 => rw [show y229.length = x10_1.length from (Kd.R_reads' HO_10.out).1.symm]; exact (Kd.R_reads' HO_10.out).2.1); rintro e w45 ⟨rfl, hb⟩; refine ⟨_, rfl, ?_⟩; have n0_ := zC.mk (Kd.R_below (by (with_reducible repeat (first | apply Kd.R_alloc | apply Kd.R_drewN | apply Kd.R_drew)); exact HO_10.out) hb); have n1_ := zC.mk (zK (g := gb224) (o := .cells #[.slice A0_0 l0_0.length c0_0, .slice (some ad233) l0_1.length c0_1] 31 (0, 0)) (by (with_reducible repeat (first | refine zB ?_ _ | refine zD ?_ | refine zA ?_ _)); exact BK224.out) hb); have n2_ := zC.mk (zK (g := gb225) (o := .cells #[.int .i64 a3_0, .int .i64 a3_1, .int .u8 a3_2, .int .i64 a3_3, .int .i64 a3_4, .float .f64 a3_5] 35 (0, 0)) (by (with_reducible repeat (first | refine zB ?_ _ | refine zD ?_ | refine zA ?_ _)); exact BK225.out) hb); have n3_ := zC.mk (zQ (by repeat (first | (with_reducible first | exact HB.out | apply zJ | apply zG | apply zI | refine zE ?_ GE224.out | refine zE ?_ GE225.out) | exact HB.out)) hb); clear HO_10; clear BK224; clear BK225; clear HB; have HO_10 := n0_; have BK224 := n1_; have BK225 := n2_; have HB := n3_; clear n0_ n1_ n2_ n3_; (try clear hb); (try clear hb2); (try clear hk); (try clear hi); have p39 : 0 ≤ ((ji16) : Int) := of_decide_eq_true (by first | (with_reducible assumption) | assumption); have q39 : ((ji16) : Int) < ((x10_1.length : Int) : Int) := of_decide_eq_true (by first | (with_reducible assumption) | assumption); obtain ⟨ce39, hcl39, hM39, hcc39, hfr39⟩ := Kd.R_elem HO_10.out z70 ((ji16) : Int) p39 q39; obtain rfl := k70_openM hM39; have hx39_0 : w45.cell? ⟨go19, ((ji16) : Int).toNat * 2, none⟩ = some (.int .i64 ((rd_T70 y229 (ji16)).f0)) := hcc39 0 _ rfl; have hx39_1 : w45.cell? ⟨go19, ((ji16) : Int).toNat * 2 + 1, none⟩ = some (.int .i64 ((rd_T70 y229 (ji16)).f1)) := hcc39 1 _ rfl; have hf39_0 : w45.frozen? ⟨go19, ((ji16) : Int).toNat * 2, none⟩ = false := hfr39 0; have hf39_1 : w45.frozen? ⟨go19, ((ji16) : Int).toNat * 2 + 1, none⟩ = false := hfr39 1; clear hcl39 hcc39 hfr39 hM39; replace p39 := eq_true p39; replace q39 := eq_true q39; have HX46 := zC.mk (show Kd.R k70 70 w45 w.heap.size (fun _ => True) (.slice (some ⟨go19, 0, none⟩) x10_1.length co19) y229 from (by (with_reducible repeat (first | apply Kd.R_alloc | apply Kd.R_drewN | apply Kd.R_drew)); exact HO_10.out)); obtain ⟨ce46, hcl46, hM46, hcc46, hfr46⟩ := Kd.R_elem HX46.out z70 ((ji16) : Int) (of_decide_eq_true (by first | (with_reducible assumption) | assumption)) (by have h_ : ((ji16) : Int) < ((x10_1.length : Int) : Int) := of_decide_eq_true (by first | (with_reducible assumption) | assumption); first | exact h_ | (have e_ := (Kd.R_reads' HO_10.out).1; omega) | simpa using h_); obtain rfl := k70_openM hM46; have HP46 := Kd.R_seg HX46.out ((ji16) : Int) (of_decide_eq_true (by first | (with_reducible assumption) | assumption)) (by have h_ : ((ji16) : Int) < ((x10_1.length : Int) : Int) := of_decide_eq_true (by first | (with_reducible assumption) | assumption); first | exact h_ | (have e_ := (Kd.R_reads' HO_10.out).1; omega) | simpa using h_) (seg := [.int .i64 t234, .int .i64 t235]) (j := 0) hcl46 hcc46 (show 2 ≤ 2 from by decide) (x' := (⟨t234, t235⟩ : S70)) (k70_mkM _ _ _ (⟨t234, t235⟩ : S70) ) (fun _ hk => hk); have hx46_0 := hcc46 0 _ rfl; (try simp only [show (k70).sz = 2 from rfl, Nat.mul_one, Nat.add_zero] at hx46_0); have hf46_0 := hfr46 0; (try simp only [show (k70).sz = 2 from rfl, Nat.mul_one, Nat.add_zero] at hf46_0); have hx46_1 := hcc46 1 _ rfl; (try simp only [show (k70).sz = 2 from rfl, Nat.mul_one, Nat.add_zero] at hx46_1); have hf46_1 := hfr46 1; (try simp only [show (k70).sz = 2 from rfl, Nat.mul_one, Nat.add_zero] at hf46_1); clear hcl46 hcc46 hfr46 hM46) | ((with_reducible refine gate_store (t := 70) (p := 58) rfl ?_); refine store_event (t := 70) (p := 58) (v := ?vo_w47) (w1 := ((w45.setCell ⟨go19, ((ji16) : Int).toNat * 2, none⟩ (.int .i64 t234)).setCell ⟨go19, ((ji16) : Int).toNat * 2 + 1, none⟩ (.int .i64 t235))) ?hg ?ho ?hn ?hr ?_; (case ho => rfl); (case hg => rfl); (case hn => rfl); (case hr => first | (go_simp; done) | (go_simp; rfl)); intro w47 hw; have hg : w45.grownBy w47 (some go19) := (by rw [hw]; exact HP46.2); have hp_ : Kd.R k70 70 w47 w.heap.size (fun _ => True) (.slice (some ⟨go19, 0, none⟩) x10_1.length co19) y236 := (by rw [hw, Ny236.out]; exact HP46.1); clear HP46; have n0_ := zC.mk (hp_); have n1_ := zC.mk (blk_grown (g := gb224) (o := .cells #[.slice A0_0 l0_0.length c0_0, .slice (some ad233) l0_1.length c0_1] 31 (0, 0)) (by (with_reducible repeat (first | refine zB ?_ _ | refine zD ?_ | refine zA ?_ _)); exact BK224.out) hg (Kd.R_ne HO_10.out BK224.out (by decide))); have n2_ := zC.mk (blk_grown (g := gb225) (o := .cells #[.int .i64 a3_0, .int .i64 a3_1, .int .u8 a3_2, .int .i64 a3_3, .int .i64 a3_4, .float .f64 a3_5] 35 (0, 0)) (by (with_reducible repeat (first | refine zB ?_ _ | refine zD ?_ | refine zA ?_ _)); exact BK225.out) hg (Kd.R_ne HO_10.out BK225.out (by decide))); have n3_ := zC.mk ((by rw [hw]; exact zE (zE (HB.out) GB19.out) GB19.out : Below w.heap.size w w47)); clear HO_10; clear BK224; clear BK225; clear HB; have HO_10 := n0_; have BK224 := n1_; have BK225 := n2_; have HB := n3_; clear n0_ n1_ n2_ n3_; clear hg hw hp_))
    go_roundg k1
    case measure => have := HK1.out; omega
    case rel => exact ⟨(y236), (wrap64 (x11_1 - 1)), (by first | rfl | (simp; done) | (simp [*]; done)), H', ⟨by have := HK1.out; omega⟩, ⟨by (with_reducible repeat (first | apply Kd.R_alloc | apply Kd.R_drewN | apply Kd.R_drew)); exact HO_10.out⟩, ⟨by (with_reducible repeat (first | refine zB ?_ _ | refine zD ?_ | refine zA ?_ _)); exact BK224.out⟩, ⟨by (with_reducible repeat (first | refine zB ?_ _ | refine zD ?_ | refine zA ?_ _)); exact BK225.out⟩, ⟨by repeat (first | (with_reducible first | exact HB.out | apply zJ | apply zG | apply zI | refine zE ?_ GE224.out | refine zE ?_ GE225.out) | exact HB.out)⟩⟩
end Go.Proofs.Ytcnblneghbgjgaa.F
end
