/- Printed by a program: Lean functions that answer as the Go functions do, and the proofs of it. -/
import Derived.Test.YtlgclhhkgohanaaVBestLoose0
section
namespace Go.Proofs.Ytlgclhhkgohanaa.F
open Go.RowKit Go.Proofs.YtlgclhhkgohanaaW.PrintWords Go.Proofs.YtlgclhhkgohanaaW.PrintLast Go.Proofs.YtlgclhhkgohanaaW.PrintMore
attribute [local go_sem] max2_int min2_int max_two min_two max_three min_three max_four min_four   -- for this text's walks alone
set_option linter.unusedVariables false
set_option linter.unusedSimpArgs false
mutual
def best_next.l0 : Nat → Int → Int → Int → List (S65) → Int → Int → Int → Int → Int → List (S62) → List Int → Int → Int → Int → Int → Int → Nat → Int → Int → Option (Int × Int)
  | 0, _, _, _, _, _, _, _, _, _, _, _, _, _, _, _, _, _, _, _ => none
  | k + 1, x1, x2, x3, x4, x14, x15, x16, x17, x18, x116000, x116001, x117000, x117001, x117002, x117003, x117004, x117005, x119000, x119001 => if x18 ≤ x3 then (if 0 ≤ (wrap64 (x18 - 1)) then (if (wrap64 (x18 - 1)) < (x116000.length : Int) then ((span_Next.f ((rd_T62 x116000 (wrap64 (x18 - 1))).f0) ((rd_T62 x116000 (wrap64 (x18 - 1))).f1) ((rd_T62 x116000 (wrap64 (x18 - 1))).f2) ((rd_T62 x116000 (wrap64 (x18 - 1))).f3) x14 x117001).bind fun t121 => (if ((rd_T62 x116000 (wrap64 (x18 - 1))).f3) = 1 then (best_next.j1 k x1 x2 x3 x4 t121 x15 (wrap64 (x16 + 1)) x17 x18 x116000 x116001 x117000 x117001 x117002 x117003 x117004 x117005 x119000 x119001) else (best_next.j1 k x1 x2 x3 x4 t121 x15 x16 x17 x18 x116000 x116001 x117000 x117001 x117002 x117003 x117004 x117005 x119000 x119001))) else (none)) else (none)) else (some (x119000, x119001))
def best_next.j1 : Nat → Int → Int → Int → List (S65) → Int → Int → Int → Int → Int → List (S62) → List Int → Int → Int → Int → Int → Int → Nat → Int → Int → Option (Int × Int)
  | 0, _, _, _, _, _, _, _, _, _, _, _, _, _, _, _, _, _, _, _ => none
  | k + 1, x1, x2, x3, x4, x14, x15, x16, x17, x18, x116000, x116001, x117000, x117001, x117002, x117003, x117004, x117005, x119000, x119001 => (span_Trim.f k x116000 x116001 (wrap64 (x18 - 1)) x18).bind fun t122 => (if t122 = x18 then (best_next.j2 k x1 x2 x3 x4 x14 x14 x16 x16 x18 x116000 x116001 x117000 x117001 x117002 x117003 x117004 x117005 x119000 x119001) else (best_next.j2 k x1 x2 x3 x4 x14 x15 x16 x17 x18 x116000 x116001 x117000 x117001 x117002 x117003 x117004 x117005 x119000 x119001))
def best_next.j2 : Nat → Int → Int → Int → List (S65) → Int → Int → Int → Int → Int → List (S62) → List Int → Int → Int → Int → Int → Int → Nat → Int → Int → Option (Int × Int)
  | 0, _, _, _, _, _, _, _, _, _, _, _, _, _, _, _, _, _, _, _ => none
  | k + 1, x1, x2, x3, x4, x14, x15, x16, x17, x18, x116000, x116001, x117000, x117001, x117002, x117003, x117004, x117005, x119000, x119001 => if x15 > x117000 then (some (x119000, x119001)) else ((span_Ends.f x116000 x116001 x18).bind fun bt123 => (if 0 ≤ (wrap64 (x18 - x2)) then (if (wrap64 (x18 - x2)) < (x4.length : Int) then (if bt123.2 = true then (if x18 < x3 then (best_next.j3 k x1 x2 x3 x4 x14 x15 x16 x17 x18 bt123.1 (decide (((rd_T65 x4 (wrap64 (x18 - x2))).f1) < 0)) x116000 x116001 x117000 x117001 x117002 x117003 x117004 x117005 x119000 x119001 ((rd_T65 x4 (wrap64 (x18 - x2))).f0) ((rd_T65 x4 (wrap64 (x18 - x2))).f1)) else (best_next.j3 k x1 x2 x3 x4 x14 x15 x16 x17 x18 bt123.1 false x116000 x116001 x117000 x117001 x117002 x117003 x117004 x117005 x119000 x119001 ((rd_T65 x4 (wrap64 (x18 - x2))).f0) ((rd_T65 x4 (wrap64 (x18 - x2))).f1))) else (best_next.j3 k x1 x2 x3 x4 x14 x15 x16 x17 x18 bt123.1 true x116000 x116001 x117000 x117001 x117002 x117003 x117004 x117005 x119000 x119001 ((rd_T65 x4 (wrap64 (x18 - x2))).f0) ((rd_T65 x4 (wrap64 (x18 - x2))).f1))) else (none)) else (none)))
def best_next.j3 : Nat → Int → Int → Int → List (S65) → Int → Int → Int → Int → Int → Int → Bool → List (S62) → List Int → Int → Int → Int → Int → Int → Nat → Int → Int → Int → Int → Option (Int × Int)
  | 0, _, _, _, _, _, _, _, _, _, _, _, _, _, _, _, _, _, _, _, _, _, _, _ => none
  | k + 1, x1, x2, x3, x4, x14, x15, x16, x17, x18, x20, x86, x116000, x116001, x117000, x117001, x117002, x117003, x117004, x117005, x119000, x119001, x127000, x127001 => if x86 = true then (best_next.l0 k x1 x2 x3 x4 x14 x15 x16 x17 (wrap64 (x18 + 1)) x116000 x116001 x117000 x117001 x117002 x117003 x117004 x117005 x119000 x119001) else (if x20 = 3 then ((best_price.f k x116000 x116001 x1 x20 (wrap64 (x15 + 1)) x17 (x18 == x3) x117000 x117001 x117002 x117003 x117004 x117005).bind fun bt127 => (if bt127.2 = true then (if x119001 < 0 then (best_next.l0 k x1 x2 x3 x4 x14 x15 x16 x17 (wrap64 (x18 + 1)) x116000 x116001 x117000 x117001 x117002 x117003 x117004 x117005 (wrap64 (bt127.1 + x127000)) x18) else (if (wrap64 (bt127.1 + x127000)) < x119000 then (best_next.l0 k x1 x2 x3 x4 x14 x15 x16 x17 (wrap64 (x18 + 1)) x116000 x116001 x117000 x117001 x117002 x117003 x117004 x117005 (wrap64 (bt127.1 + x127000)) x18) else (best_next.l0 k x1 x2 x3 x4 x14 x15 x16 x17 (wrap64 (x18 + 1)) x116000 x116001 x117000 x117001 x117002 x117003 x117004 x117005 x119000 x119001))) else (best_next.l0 k x1 x2 x3 x4 x14 x15 x16 x17 (wrap64 (x18 + 1)) x116000 x116001 x117000 x117001 x117002 x117003 x117004 x117005 x119000 x119001))) else ((best_price.f k x116000 x116001 x1 x20 x15 x17 (x18 == x3) x117000 x117001 x117002 x117003 x117004 x117005).bind fun bt129 => (if bt129.2 = true then (if x119001 < 0 then (best_next.l0 k x1 x2 x3 x4 x14 x15 x16 x17 (wrap64 (x18 + 1)) x116000 x116001 x117000 x117001 x117002 x117003 x117004 x117005 (wrap64 (bt129.1 + x127000)) x18) else (if (wrap64 (bt129.1 + x127000)) < x119000 then (best_next.l0 k x1 x2 x3 x4 x14 x15 x16 x17 (wrap64 (x18 + 1)) x116000 x116001 x117000 x117001 x117002 x117003 x117004 x117005 (wrap64 (bt129.1 + x127000)) x18) else (best_next.l0 k x1 x2 x3 x4 x14 x15 x16 x17 (wrap64 (x18 + 1)) x116000 x116001 x117000 x117001 x117002 x117003 x117004 x117005 x119000 x119001))) else (best_next.l0 k x1 x2 x3 x4 x14 x15 x16 x17 (wrap64 (x18 + 1)) x116000 x116001 x117000 x117001 x117002 x117003 x117004 x117005 x119000 x119001))))
end
def best_next.f (k : Nat) (l0_0 : List (S62)) (l0_1 : List Int) (a1 : Int) (a2 : Int) (a3 : Int) (l4 : List (S65)) (a5_0 : Int) (a5_1 : Int) (a5_2 : Int) (a5_3 : Int) (a5_4 : Int) (a5_5 : Nat) : Option (Int × Int) := best_next.l0 k a1 a2 a3 l4 0 0 0 0 (wrap64 (a1 + 1)) l0_0 l0_1 a5_0 a5_1 a5_2 a5_3 a5_4 a5_5 0 (-1)
theorem best_next.mono_l : ∀ k, (∀ y0 y1 y2 y3 y4 y5 y6 y7 y8 y9 y10 y11 y12 y13 y14 y15 y16 y17 y18, LeO (best_next.l0 k y0 y1 y2 y3 y4 y5 y6 y7 y8 y9 y10 y11 y12 y13 y14 y15 y16 y17 y18) (best_next.l0 (k + 1) y0 y1 y2 y3 y4 y5 y6 y7 y8 y9 y10 y11 y12 y13 y14 y15 y16 y17 y18)) ∧ (∀ y0 y1 y2 y3 y4 y5 y6 y7 y8 y9 y10 y11 y12 y13 y14 y15 y16 y17 y18, LeO (best_next.j1 k y0 y1 y2 y3 y4 y5 y6 y7 y8 y9 y10 y11 y12 y13 y14 y15 y16 y17 y18) (best_next.j1 (k + 1) y0 y1 y2 y3 y4 y5 y6 y7 y8 y9 y10 y11 y12 y13 y14 y15 y16 y17 y18)) ∧ (∀ y0 y1 y2 y3 y4 y5 y6 y7 y8 y9 y10 y11 y12 y13 y14 y15 y16 y17 y18, LeO (best_next.j2 k y0 y1 y2 y3 y4 y5 y6 y7 y8 y9 y10 y11 y12 y13 y14 y15 y16 y17 y18) (best_next.j2 (k + 1) y0 y1 y2 y3 y4 y5 y6 y7 y8 y9 y10 y11 y12 y13 y14 y15 y16 y17 y18)) ∧ (∀ y0 y1 y2 y3 y4 y5 y6 y7 y8 y9 y10 y11 y12 y13 y14 y15 y16 y17 y18 y19 y20 y21 y22, LeO (best_next.j3 k y0 y1 y2 y3 y4 y5 y6 y7 y8 y9 y10 y11 y12 y13 y14 y15 y16 y17 y18 y19 y20 y21 y22) (best_next.j3 (k + 1) y0 y1 y2 y3 y4 y5 y6 y7 y8 y9 y10 y11 y12 y13 y14 y15 y16 y17 y18 y19 y20 y21 y22))
  | 0 => ⟨fun _ _ _ _ _ _ _ _ _ _ _ _ _ _ _ _ _ _ _ r h => by simp [best_next.l0] at h, fun _ _ _ _ _ _ _ _ _ _ _ _ _ _ _ _ _ _ _ r h => by simp [best_next.j1] at h, fun _ _ _ _ _ _ _ _ _ _ _ _ _ _ _ _ _ _ _ r h => by simp [best_next.j2] at h, fun _ _ _ _ _ _ _ _ _ _ _ _ _ _ _ _ _ _ _ _ _ _ _ r h => by simp [best_next.j3] at h⟩
  | k + 1 => by
    obtain ⟨ih0, ih1, ih2, ih3⟩ := best_next.mono_l k; refine ⟨?_, ?_, ?_, ?_⟩
    · intro y0 y1 y2 y3 y4 y5 y6 y7 y8 y9 y10 y11 y12 y13 y14 y15 y16 y17 y18
      unfold best_next.l0
      repeat' first
      | (with_reducible exact ih0 _ _ _ _ _ _ _ _ _ _ _ _ _ _ _ _ _ _ _)
      | (with_reducible exact ih1 _ _ _ _ _ _ _ _ _ _ _ _ _ _ _ _ _ _ _)
      | (with_reducible exact ih2 _ _ _ _ _ _ _ _ _ _ _ _ _ _ _ _ _ _ _)
      | (with_reducible exact ih3 _ _ _ _ _ _ _ _ _ _ _ _ _ _ _ _ _ _ _ _ _ _ _)
      | (with_reducible exact best_price.mono _ _ _ _ _ _ _ _ _ _ _ _ _ _)
      | (with_reducible exact span_Trim.mono _ _ _ _ _)
      | (with_reducible exact LeO.refl _)
      | (with_reducible exact LeO.none _)
      | (with_reducible refine LeO.ite ?_ ?_)
      | (with_reducible refine LeO.bind ?_ (fun _ => ?_))
      | exact ih0 _ _ _ _ _ _ _ _ _ _ _ _ _ _ _ _ _ _ _
      | exact ih1 _ _ _ _ _ _ _ _ _ _ _ _ _ _ _ _ _ _ _
      | exact ih2 _ _ _ _ _ _ _ _ _ _ _ _ _ _ _ _ _ _ _
      | exact ih3 _ _ _ _ _ _ _ _ _ _ _ _ _ _ _ _ _ _ _ _ _ _ _
      | exact best_price.mono _ _ _ _ _ _ _ _ _ _ _ _ _ _
      | exact span_Trim.mono _ _ _ _ _
      | exact LeO.none _
      | refine LeO.ite ?_ ?_
      | refine LeO.bind ?_ (fun _ => ?_)
    · intro y0 y1 y2 y3 y4 y5 y6 y7 y8 y9 y10 y11 y12 y13 y14 y15 y16 y17 y18
      unfold best_next.j1
      repeat' first
      | (with_reducible exact ih0 _ _ _ _ _ _ _ _ _ _ _ _ _ _ _ _ _ _ _)
      | (with_reducible exact ih1 _ _ _ _ _ _ _ _ _ _ _ _ _ _ _ _ _ _ _)
      | (with_reducible exact ih2 _ _ _ _ _ _ _ _ _ _ _ _ _ _ _ _ _ _ _)
      | (with_reducible exact ih3 _ _ _ _ _ _ _ _ _ _ _ _ _ _ _ _ _ _ _ _ _ _ _)
      | (with_reducible exact best_price.mono _ _ _ _ _ _ _ _ _ _ _ _ _ _)
      | (with_reducible exact span_Trim.mono _ _ _ _ _)
      | (with_reducible exact LeO.refl _)
      | (with_reducible exact LeO.none _)
      | (with_reducible refine LeO.ite ?_ ?_)
      | (with_reducible refine LeO.bind ?_ (fun _ => ?_))
      | exact ih0 _ _ _ _ _ _ _ _ _ _ _ _ _ _ _ _ _ _ _
      | exact ih1 _ _ _ _ _ _ _ _ _ _ _ _ _ _ _ _ _ _ _
      | exact ih2 _ _ _ _ _ _ _ _ _ _ _ _ _ _ _ _ _ _ _
      | exact ih3 _ _ _ _ _ _ _ _ _ _ _ _ _ _ _ _ _ _ _ _ _ _ _
      | exact best_price.mono _ _ _ _ _ _ _ _ _ _ _ _ _ _
      | exact span_Trim.mono _ _ _ _ _
      | exact LeO.none _
      | refine LeO.ite ?_ ?_
      | refine LeO.bind ?_ (fun _ => ?_)
    · intro y0 y1 y2 y3 y4 y5 y6 y7 y8 y9 y10 y11 y12 y13 y14 y15 y16 y17 y18
      unfold best_next.j2
      repeat' first
      | (with_reducible exact ih0 _ _ _ _ _ _ _ _ _ _ _ _ _ _ _ _ _ _ _)
      | (with_reducible exact ih1 _ _ _ _ _ _ _ _ _ _ _ _ _ _ _ _ _ _ _)
      | (with_reducible exact ih2 _ _ _ _ _ _ _ _ _ _ _ _ _ _ _ _ _ _ _)
      | (with_reducible exact ih3 _ _ _ _ _ _ _ _ _ _ _ _ _ _ _ _ _ _ _ _ _ _ _)
      | (with_reducible exact best_price.mono _ _ _ _ _ _ _ _ _ _ _ _ _ _)
      | (with_reducible exact span_Trim.mono _ _ _ _ _)
      | (with_reducible exact LeO.refl _)
      | (with_reducible exact LeO.none _)
      | (with_reducible refine LeO.ite ?_ ?_)
      | (with_reducible refine LeO.bind ?_ (fun _ => ?_))
      | exact ih0 _ _ _ _ _ _ _ _ _ _ _ _ _ _ _ _ _ _ _
      | exact ih1 _ _ _ _ _ _ _ _ _ _ _ _ _ _ _ _ _ _ _
      | exact ih2 _ _ _ _ _ _ _ _ _ _ _ _ _ _ _ _ _ _ _
      | exact ih3 _ _ _ _ _ _ _ _ _ _ _ _ _ _ _ _ _ _ _ _ _ _ _
      | exact best_price.mono _ _ _ _ _ _ _ _ _ _ _ _ _ _
      | exact span_Trim.mono _ _ _ _ _
      | exact LeO.none _
      | refine LeO.ite ?_ ?_
      | refine LeO.bind ?_ (fun _ => ?_)
    · intro y0 y1 y2 y3 y4 y5 y6 y7 y8 y9 y10 y11 y12 y13 y14 y15 y16 y17 y18 y19 y20 y21 y22
      unfold best_next.j3
      repeat' first
      | (with_reducible exact ih0 _ _ _ _ _ _ _ _ _ _ _ _ _ _ _ _ _ _ _)
      | (with_reducible exact ih1 _ _ _ _ _ _ _ _ _ _ _ _ _ _ _ _ _ _ _)
      | (with_reducible exact ih2 _ _ _ _ _ _ _ _ _ _ _ _ _ _ _ _ _ _ _)
      | (with_reducible exact ih3 _ _ _ _ _ _ _ _ _ _ _ _ _ _ _ _ _ _ _ _ _ _ _)
      | (with_reducible exact best_price.mono _ _ _ _ _ _ _ _ _ _ _ _ _ _)
      | (with_reducible exact span_Trim.mono _ _ _ _ _)
      | (with_reducible exact LeO.refl _)
      | (with_reducible exact LeO.none _)
      | (with_reducible refine LeO.ite ?_ ?_)
      | (with_reducible refine LeO.bind ?_ (fun _ => ?_))
      | exact ih0 _ _ _ _ _ _ _ _ _ _ _ _ _ _ _ _ _ _ _
      | exact ih1 _ _ _ _ _ _ _ _ _ _ _ _ _ _ _ _ _ _ _
      | exact ih2 _ _ _ _ _ _ _ _ _ _ _ _ _ _ _ _ _ _ _
      | exact ih3 _ _ _ _ _ _ _ _ _ _ _ _ _ _ _ _ _ _ _ _ _ _ _
      | exact best_price.mono _ _ _ _ _ _ _ _ _ _ _ _ _ _
      | exact span_Trim.mono _ _ _ _ _
      | exact LeO.none _
      | refine LeO.ite ?_ ?_
      | refine LeO.bind ?_ (fun _ => ?_)
theorem best_next.mono : ∀ a0 a1 a2 a3 a4 a5 a6 a7 a8 a9 a10 a11 k, LeO (best_next.f k a0 a1 a2 a3 a4 a5 a6 a7 a8 a9 a10 a11) (best_next.f (k + 1) a0 a1 a2 a3 a4 a5 a6 a7 a8 a9 a10 a11) := by
  intro a0 a1 a2 a3 a4 a5 a6 a7 a8 a9 a10 a11 k
  obtain ⟨ih0, ih1, ih2, ih3⟩ := best_next.mono_l k; unfold best_next.f
  repeat' first
      | (with_reducible exact ih0 _ _ _ _ _ _ _ _ _ _ _ _ _ _ _ _ _ _ _)
      | (with_reducible exact ih1 _ _ _ _ _ _ _ _ _ _ _ _ _ _ _ _ _ _ _)
      | (with_reducible exact ih2 _ _ _ _ _ _ _ _ _ _ _ _ _ _ _ _ _ _ _)
      | (with_reducible exact ih3 _ _ _ _ _ _ _ _ _ _ _ _ _ _ _ _ _ _ _ _ _ _ _)
      | (with_reducible exact best_price.mono _ _ _ _ _ _ _ _ _ _ _ _ _ _)
      | (with_reducible exact span_Trim.mono _ _ _ _ _)
      | (with_reducible exact LeO.refl _)
      | (with_reducible exact LeO.none _)
      | (with_reducible refine LeO.ite ?_ ?_)
      | (with_reducible refine LeO.bind ?_ (fun _ => ?_))
      | exact ih0 _ _ _ _ _ _ _ _ _ _ _ _ _ _ _ _ _ _ _
      | exact ih1 _ _ _ _ _ _ _ _ _ _ _ _ _ _ _ _ _ _ _
      | exact ih2 _ _ _ _ _ _ _ _ _ _ _ _ _ _ _ _ _ _ _
      | exact ih3 _ _ _ _ _ _ _ _ _ _ _ _ _ _ _ _ _ _ _ _ _ _ _
      | exact best_price.mono _ _ _ _ _ _ _ _ _ _ _ _ _ _
      | exact span_Trim.mono _ _ _ _ _
      | exact LeO.none _
      | refine LeO.ite ?_ ?_
      | refine LeO.bind ?_ (fun _ => ?_)
set_option maxHeartbeats 8000000 in
set_option maxRecDepth 100000 in
theorem best_next.calls (k : Nat) (A0_0 : Option Addr) (c0_0 : Nat) (l0_0 : List (S62)) (A0_1 : Option Addr) (c0_1 : Nat) (l0_1 : List Int) (a1 : Int) (a2 : Int) (a3 : Int) (A4 : Option Addr) (c4 : Nat) (l4 : List (S65)) (a5_0 : Int) (a5_1 : Int) (a5_2 : Int) (a5_3 : Int) (a5_4 : Int) (a5_5 : Nat) (r1 : Int) (r2 : Int) (w : World) (hr0_0 : Kd.C k62 w A0_0 l0_0.length l0_0) (hc0_0 : l0_0.length ≤ c0_0) (hr0_1 : Kd.C (Kd.int .u8) w A0_1 l0_1.length l0_1) (hc0_1 : l0_1.length ≤ c0_1) (hr4 : Kd.C k65 w A4 l4.length l4) (hc4 : l4.length ≤ c4) (h : best_next.f k l0_0 l0_1 a1 a2 a3 l4 a5_0 a5_1 a5_2 a5_3 a5_4 a5_5 = some (r1, r2)) :
    Calls Try.prog 24 #[.agg #[.slice A0_0 l0_0.length c0_0, .slice A0_1 l0_1.length c0_1], .int .i64 a1, .int .i64 a2, .int .i64 a3, .slice A4 l4.length c4, .agg #[.int .i64 a5_0, .int .i64 a5_1, .int .u8 a5_2, .int .i64 a5_3, .int .i64 a5_4, .float .f64 a5_5]] w fun e w' => e = .returned (.agg #[.int .i64 r1, .int .i64 r2]) ∧ Below w.heap.size w w' := by
  have hu31 := Try.underlying31; have hu35 := Try.underlying35; have hu65 := Try.underlying65; have hu62 := Try.underlying62; have HR0_0 := zD.mk hr0_0; have HC0_0 := zD.mk hc0_0; clear hr0_0 hc0_0; have HR0_1 := zD.mk hr0_1; have HC0_1 := zD.mk hc0_1; clear hr0_1 hc0_1; have HR4 := zD.mk hr4; have HC4 := zD.mk hc4; clear hr4 hc4; have HB := zD.mk (Below.refl w.heap.size w); have H : (best_next.l0 k a1 a2 a3 l4 0 0 0 0 (wrap64 (a1 + 1)) l0_0 l0_1 a5_0 a5_1 a5_2 a5_3 a5_4 a5_5 0 (-1)) = some (r1, r2) := h
  clear h; have H' := zD.mk H
  clear H; go_enter Try.func24, Try.ntmps24
  go_wp2_with (first | ((with_reducible refine gate_dst (N := 6) rfl ?_); refine box_event ?hg (N := 6) ?hd (cs := #[.slice A0_0 l0_0.length c0_0, .slice A0_1 l0_1.length c0_1]) (t := 31) ?hr ?_; (case hd => rfl); (case hg => rfl); (case hr => first | (go_simp; done) | (go_simp; rfl)); intro gb115 hg w7 hbox hb; have n0_ := zD.mk (below_step (by repeat (first | (with_reducible first | exact HB.out | apply zJ | apply zF | apply zI) | exact HB.out)) hb); have n1_ := zD.mk (hbox); have n2_ := zD.mk ((by rw [hg]; exact (zM (by repeat (first | (with_reducible first | exact HB.out | apply zJ | apply zF | apply zI) | exact HB.out))) : w.heap.size ≤ gb115)); have n3_ := zD.mk ((by rw [hg]; exact (zM (by repeat (first | (with_reducible first | exact HB.out | apply zJ | apply zF | apply zI) | exact HB.out))) : w.heap.size ≤ gb115)); clear HB; have HB := n0_; have BK115 := n1_; have GW115 := n2_; have GE115 := n3_; clear n0_ n1_ n2_ n3_; clear hb hbox hg) | ((with_reducible refine gate_dst (N := 11) rfl ?_); refine box_event ?hg (N := 11) ?hd (cs := #[.int .i64 a5_0, .int .i64 a5_1, .int .u8 a5_2, .int .i64 a5_3, .int .i64 a5_4, .float .f64 a5_5]) (t := 35) ?hr ?_; (case hd => rfl); (case hg => rfl); (case hr => first | (go_simp; done) | (go_simp; rfl)); intro gb116 hg w8 hbox hb; have n0_ := zD.mk (zK (g := gb115) (o := .cells #[.slice A0_0 l0_0.length c0_0, .slice A0_1 l0_1.length c0_1] 31 (0, 0)) (by (with_reducible repeat (first | refine zB ?_ _ | refine zC ?_ | refine zA ?_ _)); exact BK115.out) hb); have n1_ := zD.mk (below_step (by repeat (first | (with_reducible first | exact HB.out | apply zJ | apply zF | apply zI | refine zE ?_ GE115.out) | exact HB.out)) hb); have n2_ := zD.mk (hbox); have n3_ := zD.mk ((by rw [hg]; exact (zM (by repeat (first | (with_reducible first | exact HB.out | apply zJ | apply zF | apply zI | refine zE ?_ GE115.out) | exact HB.out))) : w.heap.size ≤ gb116)); have n4_ := zD.mk ((by rw [hg]; exact (zM (by repeat (first | (with_reducible first | exact HB.out | apply zJ | apply zF | apply zI | refine zE ?_ GE115.out) | exact HB.out))) : w.heap.size ≤ gb116)); have n5_ := zD.mk ((by rw [hg]; exact Nat.ne_of_lt (blk_lt (g := gb115) (o := .cells #[.slice A0_0 l0_0.length c0_0, .slice A0_1 l0_1.length c0_1] 31 (0, 0)) (by (with_reducible repeat (first | refine zB ?_ _ | refine zC ?_ | refine zA ?_ _)); exact BK115.out)) : gb115 ≠ gb116)); have n6_ := zD.mk ((by rw [hg]; exact Nat.ne_of_gt (blk_lt (g := gb115) (o := .cells #[.slice A0_0 l0_0.length c0_0, .slice A0_1 l0_1.length c0_1] 31 (0, 0)) (by (with_reducible repeat (first | refine zB ?_ _ | refine zC ?_ | refine zA ?_ _)); exact BK115.out)) : gb116 ≠ gb115)); clear BK115; clear HB; have BK115 := n0_; have HB := n1_; have BK116 := n2_; have GW116 := n3_; have GE116 := n4_; have NB115_116 := n5_; have NB116_115 := n6_; clear n0_ n1_ n2_ n3_ n4_ n5_ n6_; clear hb hbox hg) | ((with_reducible refine gate_dst (N := 12) rfl ?_); refine box_event ?hg (N := 12) ?hd (cs := #[.int .i64 0, .int .i64 0]) (t := 65) ?hr ?_; (case hd => rfl); (case hg => rfl); (case hr => first | (go_simp; done) | (go_simp; rfl)); intro gb117 hg w9 hbox hb; have n0_ := zD.mk (zK (g := gb115) (o := .cells #[.slice A0_0 l0_0.length c0_0, .slice A0_1 l0_1.length c0_1] 31 (0, 0)) (by (with_reducible repeat (first | refine zB ?_ _ | refine zC ?_ | refine zA ?_ _)); exact BK115.out) hb); have n1_ := zD.mk (zK (g := gb116) (o := .cells #[.int .i64 a5_0, .int .i64 a5_1, .int .u8 a5_2, .int .i64 a5_3, .int .i64 a5_4, .float .f64 a5_5] 35 (0, 0)) (by (with_reducible repeat (first | refine zB ?_ _ | refine zC ?_ | refine zA ?_ _)); exact BK116.out) hb); have n2_ := zD.mk (below_step (by repeat (first | (with_reducible first | exact HB.out | apply zJ | apply zF | apply zI | refine zE ?_ GE115.out | refine zE ?_ GE116.out) | exact HB.out)) hb); have n3_ := zD.mk (hbox); have n4_ := zD.mk ((by rw [hg]; exact (zM (by repeat (first | (with_reducible first | exact HB.out | apply zJ | apply zF | apply zI | refine zE ?_ GE115.out | refine zE ?_ GE116.out) | exact HB.out))) : w.heap.size ≤ gb117)); have n5_ := zD.mk ((by rw [hg]; exact (zM (by repeat (first | (with_reducible first | exact HB.out | apply zJ | apply zF | apply zI | refine zE ?_ GE115.out | refine zE ?_ GE116.out) | exact HB.out))) : w.heap.size ≤ gb117)); have n6_ := zD.mk ((by rw [hg]; exact Nat.ne_of_lt (blk_lt (g := gb115) (o := .cells #[.slice A0_0 l0_0.length c0_0, .slice A0_1 l0_1.length c0_1] 31 (0, 0)) (by (with_reducible repeat (first | refine zB ?_ _ | refine zC ?_ | refine zA ?_ _)); exact BK115.out)) : gb115 ≠ gb117)); have n7_ := zD.mk ((by rw [hg]; exact Nat.ne_of_gt (blk_lt (g := gb115) (o := .cells #[.slice A0_0 l0_0.length c0_0, .slice A0_1 l0_1.length c0_1] 31 (0, 0)) (by (with_reducible repeat (first | refine zB ?_ _ | refine zC ?_ | refine zA ?_ _)); exact BK115.out)) : gb117 ≠ gb115)); have n8_ := zD.mk ((by rw [hg]; exact Nat.ne_of_lt (blk_lt (g := gb116) (o := .cells #[.int .i64 a5_0, .int .i64 a5_1, .int .u8 a5_2, .int .i64 a5_3, .int .i64 a5_4, .float .f64 a5_5] 35 (0, 0)) (by (with_reducible repeat (first | refine zB ?_ _ | refine zC ?_ | refine zA ?_ _)); exact BK116.out)) : gb116 ≠ gb117)); have n9_ := zD.mk ((by rw [hg]; exact Nat.ne_of_gt (blk_lt (g := gb116) (o := .cells #[.int .i64 a5_0, .int .i64 a5_1, .int .u8 a5_2, .int .i64 a5_3, .int .i64 a5_4, .float .f64 a5_5] 35 (0, 0)) (by (with_reducible repeat (first | refine zB ?_ _ | refine zC ?_ | refine zA ?_ _)); exact BK116.out)) : gb117 ≠ gb116)); clear BK115; clear BK116; clear HB; have BK115 := n0_; have BK116 := n1_; have HB := n2_; have BK117 := n3_; have GW117 := n4_; have GE117 := n5_; have NB115_117 := n6_; have NB117_115 := n7_; have NB116_117 := n8_; have NB117_116 := n9_; clear n0_ n1_ n2_ n3_ n4_ n5_ n6_ n7_ n8_ n9_; clear hb hbox hg) | ((with_reducible refine gate_dst (N := 13) rfl ?_); refine box_event ?hg (N := 13) ?hd (cs := #[.int .i64 0, .int .i64 0]) (t := 65) ?hr ?_; (case hd => rfl); (case hg => rfl); (case hr => first | (go_simp; done) | (go_simp; rfl)); intro gb118 hg w10 hbox hb; have n0_ := zD.mk (zK (g := gb115) (o := .cells #[.slice A0_0 l0_0.length c0_0, .slice A0_1 l0_1.length c0_1] 31 (0, 0)) (by (with_reducible repeat (first | refine zB ?_ _ | refine zC ?_ | refine zA ?_ _)); exact BK115.out) hb); have n1_ := zD.mk (zK (g := gb116) (o := .cells #[.int .i64 a5_0, .int .i64 a5_1, .int .u8 a5_2, .int .i64 a5_3, .int .i64 a5_4, .float .f64 a5_5] 35 (0, 0)) (by (with_reducible repeat (first | refine zB ?_ _ | refine zC ?_ | refine zA ?_ _)); exact BK116.out) hb); have n2_ := zD.mk (zK (g := gb117) (o := .cells #[.int .i64 0, .int .i64 0] 65 (0, 0)) (by (with_reducible repeat (first | refine zB ?_ _ | refine zC ?_ | refine zA ?_ _)); exact BK117.out) hb); have n3_ := zD.mk (below_step (by repeat (first | (with_reducible first | exact HB.out | apply zJ | apply zF | apply zI | refine zE ?_ GE115.out | refine zE ?_ GE116.out | refine zE ?_ GE117.out) | exact HB.out)) hb); have n4_ := zD.mk (hbox); have n5_ := zD.mk ((by rw [hg]; exact (zM (by repeat (first | (with_reducible first | exact HB.out | apply zJ | apply zF | apply zI | refine zE ?_ GE115.out | refine zE ?_ GE116.out | refine zE ?_ GE117.out) | exact HB.out))) : w.heap.size ≤ gb118)); have n6_ := zD.mk ((by rw [hg]; exact (zM (by repeat (first | (with_reducible first | exact HB.out | apply zJ | apply zF | apply zI | refine zE ?_ GE115.out | refine zE ?_ GE116.out | refine zE ?_ GE117.out) | exact HB.out))) : w.heap.size ≤ gb118)); have n7_ := zD.mk ((by rw [hg]; exact Nat.ne_of_lt (blk_lt (g := gb115) (o := .cells #[.slice A0_0 l0_0.length c0_0, .slice A0_1 l0_1.length c0_1] 31 (0, 0)) (by (with_reducible repeat (first | refine zB ?_ _ | refine zC ?_ | refine zA ?_ _)); exact BK115.out)) : gb115 ≠ gb118)); have n8_ := zD.mk ((by rw [hg]; exact Nat.ne_of_gt (blk_lt (g := gb115) (o := .cells #[.slice A0_0 l0_0.length c0_0, .slice A0_1 l0_1.length c0_1] 31 (0, 0)) (by (with_reducible repeat (first | refine zB ?_ _ | refine zC ?_ | refine zA ?_ _)); exact BK115.out)) : gb118 ≠ gb115)); have n9_ := zD.mk ((by rw [hg]; exact Nat.ne_of_lt (blk_lt (g := gb116) (o := .cells #[.int .i64 a5_0, .int .i64 a5_1, .int .u8 a5_2, .int .i64 a5_3, .int .i64 a5_4, .float .f64 a5_5] 35 (0, 0)) (by (with_reducible repeat (first | refine zB ?_ _ | refine zC ?_ | refine zA ?_ _)); exact BK116.out)) : gb116 ≠ gb118)); have n10_ := zD.mk ((by rw [hg]; exact Nat.ne_of_gt (blk_lt (g := gb116) (o := .cells #[.int .i64 a5_0, .int .i64 a5_1, .int .u8 a5_2, .int .i64 a5_3, .int .i64 a5_4, .float .f64 a5_5] 35 (0, 0)) (by (with_reducible repeat (first | refine zB ?_ _ | refine zC ?_ | refine zA ?_ _)); exact BK116.out)) : gb118 ≠ gb116)); have n11_ := zD.mk ((by rw [hg]; exact Nat.ne_of_lt (blk_lt (g := gb117) (o := .cells #[.int .i64 0, .int .i64 0] 65 (0, 0)) (by (with_reducible repeat (first | refine zB ?_ _ | refine zC ?_ | refine zA ?_ _)); exact BK117.out)) : gb117 ≠ gb118)); have n12_ := zD.mk ((by rw [hg]; exact Nat.ne_of_gt (blk_lt (g := gb117) (o := .cells #[.int .i64 0, .int .i64 0] 65 (0, 0)) (by (with_reducible repeat (first | refine zB ?_ _ | refine zC ?_ | refine zA ?_ _)); exact BK117.out)) : gb118 ≠ gb117)); clear BK115; clear BK116; clear BK117; clear HB; have BK115 := n0_; have BK116 := n1_; have BK117 := n2_; have HB := n3_; have BK118 := n4_; have GW118 := n5_; have GE118 := n6_; have NB115_118 := n7_; have NB118_115 := n8_; have NB116_118 := n9_; have NB118_116 := n10_; have NB117_118 := n11_; have NB118_117 := n12_; clear n0_ n1_ n2_ n3_ n4_ n5_ n6_ n7_ n8_ n9_ n10_ n11_ n12_; clear hb hbox hg; have hnb11 := NB118_115.out; have hnc11 := NB115_118.out; have hnb12 := NB118_116.out; have hnc12 := NB116_118.out; have hnb13 := NB118_117.out; have hnc13 := NB117_118.out; have hcz14_0 : w10.cell? ⟨gb118, 0, none⟩ = some (.int .i64 0) := (zH BK118.out 0).trans rfl; have hcz14_1 : w10.cell? ⟨gb118, 1, none⟩ = some (.int .i64 0) := (zH BK118.out 1).trans rfl; have hfz14_0 := zG BK118.out 0; have hfz14_1 := zG BK118.out 1) | ((with_reducible refine gate_store (t := 65) (p := 13) rfl ?_); refine store_event (t := 65) (p := 13) (v := ?vo_w15) (w1 := ((w10.setCell ⟨gb118, 0, none⟩ (.int .i64 0)).setCell ⟨gb118, 1, none⟩ (.int .i64 (-1)))) ?hg ?ho ?hn ?hr ?_; (case ho => rfl); (case hg => rfl); (case hn => rfl); (case hr => first | (go_simp; done) | (go_simp; rfl)); intro w15 hw; have n0_ : zD (w15.heap[gb115]? = some (.cells #[.slice A0_0 l0_0.length c0_0, .slice A0_1 l0_1.length c0_1] 31 (0, 0))) := ⟨(by rw [hw]; exact (by (with_reducible repeat (first | refine zB ?_ _ | refine zC ?_ | refine zA ?_ _)); refine zL ?_ NB115_118.out _; (with_reducible repeat (first | refine zB ?_ _ | refine zC ?_ | refine zA ?_ _)); refine zL ?_ NB115_118.out _; (with_reducible repeat (first | refine zB ?_ _ | refine zC ?_ | refine zA ?_ _)); exact BK115.out))⟩; have n1_ : zD (w15.heap[gb116]? = some (.cells #[.int .i64 a5_0, .int .i64 a5_1, .int .u8 a5_2, .int .i64 a5_3, .int .i64 a5_4, .float .f64 a5_5] 35 (0, 0))) := ⟨(by rw [hw]; exact (by (with_reducible repeat (first | refine zB ?_ _ | refine zC ?_ | refine zA ?_ _)); refine zL ?_ NB116_118.out _; (with_reducible repeat (first | refine zB ?_ _ | refine zC ?_ | refine zA ?_ _)); refine zL ?_ NB116_118.out _; (with_reducible repeat (first | refine zB ?_ _ | refine zC ?_ | refine zA ?_ _)); exact BK116.out))⟩; have n2_ : zD (w15.heap[gb117]? = some (.cells #[.int .i64 0, .int .i64 0] 65 (0, 0))) := ⟨(by rw [hw]; exact (by (with_reducible repeat (first | refine zB ?_ _ | refine zC ?_ | refine zA ?_ _)); refine zL ?_ NB117_118.out _; (with_reducible repeat (first | refine zB ?_ _ | refine zC ?_ | refine zA ?_ _)); refine zL ?_ NB117_118.out _; (with_reducible repeat (first | refine zB ?_ _ | refine zC ?_ | refine zA ?_ _)); exact BK117.out))⟩; have n3_ : zD (w15.heap[gb118]? = some (.cells #[.int .i64 0, .int .i64 (-1)] 65 (0, 0))) := ⟨(by rw [hw]; exact (by (with_reducible repeat (first | refine zB ?_ _ | refine zC ?_ | refine zA ?_ _)); refine blk_put (cs := #[.int .i64 0, .int .i64 0]) ?_ 1 _ rfl; (with_reducible repeat (first | refine zB ?_ _ | refine zC ?_ | refine zA ?_ _)); refine blk_put (cs := #[.int .i64 0, .int .i64 0]) ?_ 0 _ rfl; (with_reducible repeat (first | refine zB ?_ _ | refine zC ?_ | refine zA ?_ _)); exact BK118.out))⟩; have n4_ : zD (Below w.heap.size w w15) := ⟨(by rw [hw]; exact (by repeat (first | (with_reducible first | exact HB.out | apply zJ | apply zF | apply zI | refine zE ?_ GE115.out | refine zE ?_ GE116.out | refine zE ?_ GE117.out | refine zE ?_ GE118.out) | exact HB.out)))⟩; clear hw; clear BK115; clear BK116; clear BK117; clear BK118; clear HB; have BK115 := n0_; have BK116 := n1_; have BK117 := n2_; have BK118 := n3_; have HB := n4_; clear n0_ n1_ n2_ n3_ n4_))
  go_loopg [14, 15, 16, 17, 18] k (fun kq v14 v15 v16 v17 v18 w' => ∃ (x14_1 : Int) (x15_1 : Int) (x16_1 : Int) (x17_1 : Int) (x18_1 : Int) (x119000_1 : Int) (x119001_1 : Int), v14 = .int .i64 x14_1 ∧ v15 = .int .i64 x15_1 ∧ v16 = .int .i64 x16_1 ∧ v17 = .int .i64 x17_1 ∧ v18 = .int .i64 x18_1 ∧ zD (best_next.l0 kq a1 a2 a3 l4 x14_1 x15_1 x16_1 x17_1 x18_1 l0_0 l0_1 a5_0 a5_1 a5_2 a5_3 a5_4 a5_5 x119000_1 x119001_1 = some (r1, r2)) ∧ zD (kq ≤ k) ∧ zD (w'.heap[gb115]? = some (.cells #[(.slice A0_0 l0_0.length c0_0), (.slice A0_1 l0_1.length c0_1)] 31 (0, 0))) ∧ zD (w'.heap[gb116]? = some (.cells #[.int .i64 a5_0, .int .i64 a5_1, .int .u8 a5_2, .int .i64 a5_3, .int .i64 a5_4, .float .f64 a5_5] 35 (0, 0))) ∧ zD (w'.heap[gb117]? = some (.cells #[.int .i64 0, .int .i64 0] 65 (0, 0))) ∧ zD (w'.heap[gb118]? = some (.cells #[.int .i64 x119000_1, .int .i64 x119001_1] 65 (0, 0))) ∧ zD (Below w.heap.size w w'))
  case atStart => exact ⟨(0), (0), (0), (0), (wrap64 (a1 + 1)), (0), ((-1)), (by first | rfl | (simp; done) | (simp [*]; done)), (by first | rfl | (simp; done) | (simp [*]; done)), (by first | rfl | (simp; done) | (simp [*]; done)), (by first | rfl | (simp; done) | (simp [*]; done)), (by first | rfl | (simp; done) | (simp [*]; done)), H', ⟨Nat.le_refl _⟩, ⟨by (with_reducible repeat (first | refine zB ?_ _ | refine zC ?_ | refine zA ?_ _)); exact BK115.out⟩, ⟨by (with_reducible repeat (first | refine zB ?_ _ | refine zC ?_ | refine zA ?_ _)); exact BK116.out⟩, ⟨by (with_reducible repeat (first | refine zB ?_ _ | refine zC ?_ | refine zA ?_ _)); exact BK117.out⟩, ⟨by (with_reducible repeat (first | refine zB ?_ _ | refine zC ?_ | refine zA ?_ _)); exact BK118.out⟩, ⟨by repeat (first | (with_reducible first | exact HB.out | apply zJ | apply zF | apply zI | refine zE ?_ GE115.out | refine zE ?_ GE116.out | refine zE ?_ GE117.out | refine zE ?_ GE118.out) | exact HB.out)⟩⟩
  clear H'; try clear c1
  try clear c2
  try clear p2
  try clear c4
  try clear p6
  try clear c11
  try clear c12
  try clear c13
  try clear hcz14_0
  try clear hcz14_1
  try clear hfz14_0
  try clear hfz14_1
  obtain ⟨x14_1, x15_1, x16_1, x17_1, x18_1, x119000_1, x119001_1, rfl, rfl, rfl, rfl, rfl, HA, HK1, BK115, BK116, BK117, BK118, HB⟩ := hrel; cases gk with
  | zero => exact absurd HA.out (by simp [best_next.l0])
  | succ k1 =>
    have H := HA.out; clear HA; simp only [best_next.l0] at H; by_cases c16 : x18_1 ≤ a3
    rotate_left
    · rw [if_neg c16] at H
      have c16b0 : decide (x18_1 ≤ a3) = false := decide_eq_false c16
      clear c16; simp only [Option.some.injEq, Prod.mk.injEq] at H; obtain ⟨rfl, rfl⟩ := H; have hnb246 := NB118_115.out; have hnc246 := NB115_118.out; have hnb247 := NB118_116.out; have hnc247 := NB116_118.out; have hnb248 := NB118_117.out; have hnc248 := NB117_118.out; have hcz249_0 : wr.cell? ⟨gb118, 0, none⟩ = some (.int .i64 x119000_1) := (zH BK118.out 0).trans rfl
      have hcz249_1 : wr.cell? ⟨gb118, 1, none⟩ = some (.int .i64 x119001_1) := (zH BK118.out 1).trans rfl
      have hfz249_0 := zG BK118.out 0; have hfz249_1 := zG BK118.out 1; have hnb250 := NB117_115.out; have hnc250 := NB115_117.out; have hnb251 := NB117_116.out; have hnc251 := NB116_117.out; have hcz252_0 : wr.cell? ⟨gb117, 0, none⟩ = some (.int .i64 0) := (zH BK117.out 0).trans rfl
      have hcz252_1 : wr.cell? ⟨gb117, 1, none⟩ = some (.int .i64 0) := (zH BK117.out 1).trans rfl
      have hfz252_0 := zG BK117.out 0; have hfz252_1 := zG BK117.out 1; go_wp2_with (first | ((with_reducible refine gate_store (t := 65) (p := 12) rfl ?_); refine store_event (t := 65) (p := 12) (v := ?vo_w253) (w1 := ((wr.setCell ⟨gb117, 0, none⟩ (.int .i64 x119000_1)).setCell ⟨gb117, 1, none⟩ (.int .i64 x119001_1))) ?hg ?ho ?hn ?hr ?_; (case ho => rfl); (case hg => rfl); (case hn => rfl); (case hr => first | (go_simp; done) | (go_simp; rfl)); intro w253 hw; have n0_ : zD (w253.heap[gb115]? = some (.cells #[.slice A0_0 l0_0.length c0_0, .slice A0_1 l0_1.length c0_1] 31 (0, 0))) := ⟨(by rw [hw]; exact (by (with_reducible repeat (first | refine zB ?_ _ | refine zC ?_ | refine zA ?_ _)); refine zL ?_ NB115_117.out _; (with_reducible repeat (first | refine zB ?_ _ | refine zC ?_ | refine zA ?_ _)); refine zL ?_ NB115_117.out _; (with_reducible repeat (first | refine zB ?_ _ | refine zC ?_ | refine zA ?_ _)); exact BK115.out))⟩; have n1_ : zD (w253.heap[gb116]? = some (.cells #[.int .i64 a5_0, .int .i64 a5_1, .int .u8 a5_2, .int .i64 a5_3, .int .i64 a5_4, .float .f64 a5_5] 35 (0, 0))) := ⟨(by rw [hw]; exact (by (with_reducible repeat (first | refine zB ?_ _ | refine zC ?_ | refine zA ?_ _)); refine zL ?_ NB116_117.out _; (with_reducible repeat (first | refine zB ?_ _ | refine zC ?_ | refine zA ?_ _)); refine zL ?_ NB116_117.out _; (with_reducible repeat (first | refine zB ?_ _ | refine zC ?_ | refine zA ?_ _)); exact BK116.out))⟩; have n2_ : zD (w253.heap[gb117]? = some (.cells #[.int .i64 x119000_1, .int .i64 x119001_1] 65 (0, 0))) := ⟨(by rw [hw]; exact (by (with_reducible repeat (first | refine zB ?_ _ | refine zC ?_ | refine zA ?_ _)); refine blk_put (cs := #[.int .i64 x119000_1, .int .i64 0]) ?_ 1 _ rfl; (with_reducible repeat (first | refine zB ?_ _ | refine zC ?_ | refine zA ?_ _)); refine blk_put (cs := #[.int .i64 0, .int .i64 0]) ?_ 0 _ rfl; (with_reducible repeat (first | refine zB ?_ _ | refine zC ?_ | refine zA ?_ _)); exact BK117.out))⟩; have n3_ : zD (w253.heap[gb118]? = some (.cells #[.int .i64 x119000_1, .int .i64 x119001_1] 65 (0, 0))) := ⟨(by rw [hw]; exact (by (with_reducible repeat (first | refine zB ?_ _ | refine zC ?_ | refine zA ?_ _)); refine zL ?_ NB118_117.out _; (with_reducible repeat (first | refine zB ?_ _ | refine zC ?_ | refine zA ?_ _)); refine zL ?_ NB118_117.out _; (with_reducible repeat (first | refine zB ?_ _ | refine zC ?_ | refine zA ?_ _)); exact BK118.out))⟩; have n4_ : zD (Below w.heap.size w w253) := ⟨(by rw [hw]; exact (by repeat (first | (with_reducible first | exact HB.out | apply zJ | apply zF | apply zI | refine zE ?_ GE115.out | refine zE ?_ GE116.out | refine zE ?_ GE117.out | refine zE ?_ GE118.out) | exact HB.out)))⟩; clear hw; clear BK115; clear BK116; clear BK117; clear BK118; clear HB; have BK115 := n0_; have BK116 := n1_; have BK117 := n2_; have BK118 := n3_; have HB := n4_; clear n0_ n1_ n2_ n3_ n4_))
      refine bodyPost_ret (results_cell_row rfl _ _ gb117 65 #[.int .i64 x119000_1, .int .i64 x119001_1] (0, 0) _ rfl (by (with_reducible repeat (first | refine zB ?_ _ | refine zC ?_ | refine zA ?_ _)); exact BK117.out) Try.underlying65 rfl (by kernel_rfl)) rfl ?_
      exact ⟨by first | rfl | (simp [errW_none, errW_some] <;> rfl) | (simp [*, errW_none, errW_some] <;> rfl), by repeat (first | (with_reducible first | exact HB.out | apply zJ | apply zF | apply zI | refine zE ?_ GE115.out | refine zE ?_ GE116.out | refine zE ?_ GE117.out | refine zE ?_ GE118.out) | exact HB.out)⟩
    rw [if_pos c16] at H; have c16b0 : decide (x18_1 ≤ a3) = true := decide_eq_true c16
    clear c16; obtain ⟨ji17, hji17⟩ : ∃ j_ : Int, (wrap64 (x18_1 - 1)) = j_ := ⟨_, rfl⟩; replace H : (if 0 ≤ (ji17) then (if (ji17) < (l0_0.length : Int) then ((span_Next.f ((rd_T62 l0_0 (ji17)).f0) ((rd_T62 l0_0 (ji17)).f1) ((rd_T62 l0_0 (ji17)).f2) ((rd_T62 l0_0 (ji17)).f3) x14_1 a5_1).bind fun t121 => (if ((rd_T62 l0_0 (ji17)).f3) = 1 then (best_next.j1 k1 a1 a2 a3 l4 t121 x15_1 (wrap64 (x16_1 + 1)) x17_1 x18_1 l0_0 l0_1 a5_0 a5_1 a5_2 a5_3 a5_4 a5_5 x119000_1 x119001_1) else (best_next.j1 k1 a1 a2 a3 l4 t121 x15_1 x16_1 x17_1 x18_1 l0_0 l0_1 a5_0 a5_1 a5_2 a5_3 a5_4 a5_5 x119000_1 x119001_1))) else (none)) else (none)) = some (r1, r2) := by first | (rw [hji17] at H; exact H) | (simp only [hji17] at H ⊢; exact H)
    have hji17w : (IntKind.i64.wrap (x18_1 - 1)) = ji17 := (i64_w _).trans hji17
    by_cases c18 : 0 ≤ (ji17)
    rotate_left
    · rw [if_neg c18] at H
      exact absurd H (by simp)
    rw [if_pos c18] at H; have c18b0 : decide (0 ≤ (ji17)) = true := decide_eq_true c18
    clear c18; by_cases c19 : (ji17) < (l0_0.length : Int)
    rotate_left
    · rw [if_neg c19] at H
      exact absurd H (by simp)
    rw [if_pos c19] at H; have c19b0 : decide ((ji17) < (l0_0.length : Int)) = true := decide_eq_true c19
    clear c19; replace H := Option.bind_eq_some_iff.mp H; obtain ⟨t121, A200, H⟩ := H; replace H : (if ((rd_T62 l0_0 (ji17)).f3) = 1 then (best_next.j1 k1 a1 a2 a3 l4 t121 x15_1 (wrap64 (x16_1 + 1)) x17_1 x18_1 l0_0 l0_1 a5_0 a5_1 a5_2 a5_3 a5_4 a5_5 x119000_1 x119001_1) else (best_next.j1 k1 a1 a2 a3 l4 t121 x15_1 x16_1 x17_1 x18_1 l0_0 l0_1 a5_0 a5_1 a5_2 a5_3 a5_4 a5_5 x119000_1 x119001_1)) = some (r1, r2) := H; have A20 := zD.mk A200; clear A200; have HC21 := zD.mk H; clear H; have hnb22 := NB115_116.out; have hnc22 := NB116_115.out; have hnb23 := NB115_117.out; have hnc23 := NB117_115.out; have hnb24 := NB115_118.out; have hnc24 := NB118_115.out; have hcz25_0 : wr.cell? ⟨gb115, 0, none⟩ = some (.slice A0_0 l0_0.length c0_0) := (zH BK115.out 0).trans rfl
    have hcz25_1 : wr.cell? ⟨gb115, 1, none⟩ = some (.slice A0_1 l0_1.length c0_1) := (zH BK115.out 1).trans rfl
    have hfz25_0 := zG BK115.out 0; have hfz25_1 := zG BK115.out 1; have p119 : 0 ≤ ((ji17) : Int) := of_decide_eq_true (by first | (with_reducible assumption) | assumption)
    have q119 : (ji17) < (l0_0.length : Int) := of_decide_eq_true (by first | (with_reducible assumption) | assumption)
    obtain ⟨ad119, e119, hx119_0, hx119_1, hx119_2, hx119_3⟩ := at_T62 HR0_0.out (ji17) p119 q119; cases e119
    replace hx119_0 := (HB.out.cell (World.block_lt_of_cell? w _ hx119_0)).trans hx119_0; replace hx119_1 := (HB.out.cell (World.block_lt_of_cell? w _ hx119_1)).trans hx119_1; replace hx119_2 := (HB.out.cell (World.block_lt_of_cell? w _ hx119_2)).trans hx119_2; replace hx119_3 := (HB.out.cell (World.block_lt_of_cell? w _ hx119_3)).trans hx119_3; replace p119 := eq_true p119; replace q119 := eq_true q119; go_upto_if 47 with (first | ((with_reducible refine gate_dst (N := 19) rfl ?_); refine box_event ?hg (N := 19) ?hd (cs := #[.int .i64 0, .int .i64 0, .int .i64 0, .int .u8 0]) (t := 62) ?hr ?_; (case hd => rfl); (case hg => rfl); (case hr => first | (go_simp; done) | (go_simp; rfl)); intro gb120 hg w26 hbox hb; have n0_ := zD.mk (zK (g := gb115) (o := .cells #[.slice (some ad119) l0_0.length c0_0, .slice A0_1 l0_1.length c0_1] 31 (0, 0)) (by (with_reducible repeat (first | refine zB ?_ _ | refine zC ?_ | refine zA ?_ _)); exact BK115.out) hb); have n1_ := zD.mk (zK (g := gb116) (o := .cells #[.int .i64 a5_0, .int .i64 a5_1, .int .u8 a5_2, .int .i64 a5_3, .int .i64 a5_4, .float .f64 a5_5] 35 (0, 0)) (by (with_reducible repeat (first | refine zB ?_ _ | refine zC ?_ | refine zA ?_ _)); exact BK116.out) hb); have n2_ := zD.mk (zK (g := gb117) (o := .cells #[.int .i64 0, .int .i64 0] 65 (0, 0)) (by (with_reducible repeat (first | refine zB ?_ _ | refine zC ?_ | refine zA ?_ _)); exact BK117.out) hb); have n3_ := zD.mk (zK (g := gb118) (o := .cells #[.int .i64 x119000_1, .int .i64 x119001_1] 65 (0, 0)) (by (with_reducible repeat (first | refine zB ?_ _ | refine zC ?_ | refine zA ?_ _)); exact BK118.out) hb); have n4_ := zD.mk (below_step (by repeat (first | (with_reducible first | exact HB.out | apply zJ | apply zF | apply zI | refine zE ?_ GE115.out | refine zE ?_ GE116.out | refine zE ?_ GE117.out | refine zE ?_ GE118.out) | exact HB.out)) hb); have n5_ := zD.mk (hbox); have n6_ := zD.mk ((by rw [hg]; exact (zM (by repeat (first | (with_reducible first | exact HB.out | apply zJ | apply zF | apply zI | refine zE ?_ GE115.out | refine zE ?_ GE116.out | refine zE ?_ GE117.out | refine zE ?_ GE118.out) | exact HB.out))) : w.heap.size ≤ gb120)); have n7_ := zD.mk ((by rw [hg]; exact (zM (by repeat (first | (with_reducible first | exact HB.out | apply zJ | apply zF | apply zI | refine zE ?_ GE115.out | refine zE ?_ GE116.out | refine zE ?_ GE117.out | refine zE ?_ GE118.out) | exact HB.out))) : w.heap.size ≤ gb120)); have n8_ := zD.mk ((by rw [hg]; exact Nat.ne_of_lt (blk_lt (g := gb115) (o := .cells #[.slice (some ad119) l0_0.length c0_0, .slice A0_1 l0_1.length c0_1] 31 (0, 0)) (by (with_reducible repeat (first | refine zB ?_ _ | refine zC ?_ | refine zA ?_ _)); exact BK115.out)) : gb115 ≠ gb120)); have n9_ := zD.mk ((by rw [hg]; exact Nat.ne_of_gt (blk_lt (g := gb115) (o := .cells #[.slice (some ad119) l0_0.length c0_0, .slice A0_1 l0_1.length c0_1] 31 (0, 0)) (by (with_reducible repeat (first | refine zB ?_ _ | refine zC ?_ | refine zA ?_ _)); exact BK115.out)) : gb120 ≠ gb115)); have n10_ := zD.mk ((by rw [hg]; exact Nat.ne_of_lt (blk_lt (g := gb116) (o := .cells #[.int .i64 a5_0, .int .i64 a5_1, .int .u8 a5_2, .int .i64 a5_3, .int .i64 a5_4, .float .f64 a5_5] 35 (0, 0)) (by (with_reducible repeat (first | refine zB ?_ _ | refine zC ?_ | refine zA ?_ _)); exact BK116.out)) : gb116 ≠ gb120)); have n11_ := zD.mk ((by rw [hg]; exact Nat.ne_of_gt (blk_lt (g := gb116) (o := .cells #[.int .i64 a5_0, .int .i64 a5_1, .int .u8 a5_2, .int .i64 a5_3, .int .i64 a5_4, .float .f64 a5_5] 35 (0, 0)) (by (with_reducible repeat (first | refine zB ?_ _ | refine zC ?_ | refine zA ?_ _)); exact BK116.out)) : gb120 ≠ gb116)); have n12_ := zD.mk ((by rw [hg]; exact Nat.ne_of_lt (blk_lt (g := gb117) (o := .cells #[.int .i64 0, .int .i64 0] 65 (0, 0)) (by (with_reducible repeat (first | refine zB ?_ _ | refine zC ?_ | refine zA ?_ _)); exact BK117.out)) : gb117 ≠ gb120)); have n13_ := zD.mk ((by rw [hg]; exact Nat.ne_of_gt (blk_lt (g := gb117) (o := .cells #[.int .i64 0, .int .i64 0] 65 (0, 0)) (by (with_reducible repeat (first | refine zB ?_ _ | refine zC ?_ | refine zA ?_ _)); exact BK117.out)) : gb120 ≠ gb117)); have n14_ := zD.mk ((by rw [hg]; exact Nat.ne_of_lt (blk_lt (g := gb118) (o := .cells #[.int .i64 x119000_1, .int .i64 x119001_1] 65 (0, 0)) (by (with_reducible repeat (first | refine zB ?_ _ | refine zC ?_ | refine zA ?_ _)); exact BK118.out)) : gb118 ≠ gb120)); have n15_ := zD.mk ((by rw [hg]; exact Nat.ne_of_gt (blk_lt (g := gb118) (o := .cells #[.int .i64 x119000_1, .int .i64 x119001_1] 65 (0, 0)) (by (with_reducible repeat (first | refine zB ?_ _ | refine zC ?_ | refine zA ?_ _)); exact BK118.out)) : gb120 ≠ gb118)); clear BK115; clear BK116; clear BK117; clear BK118; clear HB; have BK115 := n0_; have BK116 := n1_; have BK117 := n2_; have BK118 := n3_; have HB := n4_; have BK120 := n5_; have GW120 := n6_; have GE120 := n7_; have NB115_120 := n8_; have NB120_115 := n9_; have NB116_120 := n10_; have NB120_116 := n11_; have NB117_120 := n12_; have NB120_117 := n13_; have NB118_120 := n14_; have NB120_118 := n15_; clear n0_ n1_ n2_ n3_ n4_ n5_ n6_ n7_ n8_ n9_ n10_ n11_ n12_ n13_ n14_ n15_; clear hb hbox hg; have hnb27 := NB120_115.out; have hnc27 := NB115_120.out; have hnb28 := NB120_116.out; have hnc28 := NB116_120.out; have hnb29 := NB120_117.out; have hnc29 := NB117_120.out; have hnb30 := NB120_118.out; have hnc30 := NB118_120.out; have hcz31_0 : w26.cell? ⟨gb120, 0, none⟩ = some (.int .i64 0) := (zH BK120.out 0).trans rfl; have hcz31_1 : w26.cell? ⟨gb120, 1, none⟩ = some (.int .i64 0) := (zH BK120.out 1).trans rfl; have hcz31_2 : w26.cell? ⟨gb120, 2, none⟩ = some (.int .i64 0) := (zH BK120.out 2).trans rfl; have hcz31_3 : w26.cell? ⟨gb120, 3, none⟩ = some (.int .u8 0) := (zH BK120.out 3).trans rfl; have hfz31_0 := zG BK120.out 0; have hfz31_1 := zG BK120.out 1; have hfz31_2 := zG BK120.out 2; have hfz31_3 := zG BK120.out 3) | ((with_reducible refine gate_store (t := 62) (p := 19) rfl ?_); refine store_event (t := 62) (p := 19) (v := ?vo_w32) (w1 := ((((w26.setCell ⟨gb120, 0, none⟩ (.int .i64 ((rd_T62 l0_0 (ji17)).f0))).setCell ⟨gb120, 1, none⟩ (.int .i64 ((rd_T62 l0_0 (ji17)).f1))).setCell ⟨gb120, 2, none⟩ (.int .i64 ((rd_T62 l0_0 (ji17)).f2))).setCell ⟨gb120, 3, none⟩ (.int .u8 ((rd_T62 l0_0 (ji17)).f3)))) ?hg ?ho ?hn ?hr ?_; (case ho => rfl); (case hg => rfl); (case hn => rfl); (case hr => first | (go_simp; done) | (go_simp; rfl)); intro w32 hw; have n0_ : zD (w32.heap[gb115]? = some (.cells #[.slice (some ad119) l0_0.length c0_0, .slice A0_1 l0_1.length c0_1] 31 (0, 0))) := ⟨(by rw [hw]; exact (by (with_reducible repeat (first | refine zB ?_ _ | refine zC ?_ | refine zA ?_ _)); refine zL ?_ NB115_120.out _; (with_reducible repeat (first | refine zB ?_ _ | refine zC ?_ | refine zA ?_ _)); refine zL ?_ NB115_120.out _; (with_reducible repeat (first | refine zB ?_ _ | refine zC ?_ | refine zA ?_ _)); refine zL ?_ NB115_120.out _; (with_reducible repeat (first | refine zB ?_ _ | refine zC ?_ | refine zA ?_ _)); refine zL ?_ NB115_120.out _; (with_reducible repeat (first | refine zB ?_ _ | refine zC ?_ | refine zA ?_ _)); exact BK115.out))⟩; have n1_ : zD (w32.heap[gb116]? = some (.cells #[.int .i64 a5_0, .int .i64 a5_1, .int .u8 a5_2, .int .i64 a5_3, .int .i64 a5_4, .float .f64 a5_5] 35 (0, 0))) := ⟨(by rw [hw]; exact (by (with_reducible repeat (first | refine zB ?_ _ | refine zC ?_ | refine zA ?_ _)); refine zL ?_ NB116_120.out _; (with_reducible repeat (first | refine zB ?_ _ | refine zC ?_ | refine zA ?_ _)); refine zL ?_ NB116_120.out _; (with_reducible repeat (first | refine zB ?_ _ | refine zC ?_ | refine zA ?_ _)); refine zL ?_ NB116_120.out _; (with_reducible repeat (first | refine zB ?_ _ | refine zC ?_ | refine zA ?_ _)); refine zL ?_ NB116_120.out _; (with_reducible repeat (first | refine zB ?_ _ | refine zC ?_ | refine zA ?_ _)); exact BK116.out))⟩; have n2_ : zD (w32.heap[gb117]? = some (.cells #[.int .i64 0, .int .i64 0] 65 (0, 0))) := ⟨(by rw [hw]; exact (by (with_reducible repeat (first | refine zB ?_ _ | refine zC ?_ | refine zA ?_ _)); refine zL ?_ NB117_120.out _; (with_reducible repeat (first | refine zB ?_ _ | refine zC ?_ | refine zA ?_ _)); refine zL ?_ NB117_120.out _; (with_reducible repeat (first | refine zB ?_ _ | refine zC ?_ | refine zA ?_ _)); refine zL ?_ NB117_120.out _; (with_reducible repeat (first | refine zB ?_ _ | refine zC ?_ | refine zA ?_ _)); refine zL ?_ NB117_120.out _; (with_reducible repeat (first | refine zB ?_ _ | refine zC ?_ | refine zA ?_ _)); exact BK117.out))⟩; have n3_ : zD (w32.heap[gb118]? = some (.cells #[.int .i64 x119000_1, .int .i64 x119001_1] 65 (0, 0))) := ⟨(by rw [hw]; exact (by (with_reducible repeat (first | refine zB ?_ _ | refine zC ?_ | refine zA ?_ _)); refine zL ?_ NB118_120.out _; (with_reducible repeat (first | refine zB ?_ _ | refine zC ?_ | refine zA ?_ _)); refine zL ?_ NB118_120.out _; (with_reducible repeat (first | refine zB ?_ _ | refine zC ?_ | refine zA ?_ _)); refine zL ?_ NB118_120.out _; (with_reducible repeat (first | refine zB ?_ _ | refine zC ?_ | refine zA ?_ _)); refine zL ?_ NB118_120.out _; (with_reducible repeat (first | refine zB ?_ _ | refine zC ?_ | refine zA ?_ _)); exact BK118.out))⟩; have n4_ : zD (w32.heap[gb120]? = some (.cells #[.int .i64 ((rd_T62 l0_0 (ji17)).f0), .int .i64 ((rd_T62 l0_0 (ji17)).f1), .int .i64 ((rd_T62 l0_0 (ji17)).f2), .int .u8 ((rd_T62 l0_0 (ji17)).f3)] 62 (0, 0))) := ⟨(by rw [hw]; exact (by (with_reducible repeat (first | refine zB ?_ _ | refine zC ?_ | refine zA ?_ _)); refine blk_put (cs := #[.int .i64 ((rd_T62 l0_0 (ji17)).f0), .int .i64 ((rd_T62 l0_0 (ji17)).f1), .int .i64 ((rd_T62 l0_0 (ji17)).f2), .int .u8 0]) ?_ 3 _ rfl; (with_reducible repeat (first | refine zB ?_ _ | refine zC ?_ | refine zA ?_ _)); refine blk_put (cs := #[.int .i64 ((rd_T62 l0_0 (ji17)).f0), .int .i64 ((rd_T62 l0_0 (ji17)).f1), .int .i64 0, .int .u8 0]) ?_ 2 _ rfl; (with_reducible repeat (first | refine zB ?_ _ | refine zC ?_ | refine zA ?_ _)); refine blk_put (cs := #[.int .i64 ((rd_T62 l0_0 (ji17)).f0), .int .i64 0, .int .i64 0, .int .u8 0]) ?_ 1 _ rfl; (with_reducible repeat (first | refine zB ?_ _ | refine zC ?_ | refine zA ?_ _)); refine blk_put (cs := #[.int .i64 0, .int .i64 0, .int .i64 0, .int .u8 0]) ?_ 0 _ rfl; (with_reducible repeat (first | refine zB ?_ _ | refine zC ?_ | refine zA ?_ _)); exact BK120.out))⟩; have n5_ : zD (Below w.heap.size w w32) := ⟨(by rw [hw]; exact (by repeat (first | (with_reducible first | exact HB.out | apply zJ | apply zF | apply zI | refine zE ?_ GE115.out | refine zE ?_ GE116.out | refine zE ?_ GE117.out | refine zE ?_ GE118.out | refine zE ?_ GE120.out) | exact HB.out)))⟩; clear hw; clear BK115; clear BK116; clear BK117; clear BK118; clear BK120; clear HB; have BK115 := n0_; have BK116 := n1_; have BK117 := n2_; have BK118 := n3_; have BK120 := n4_; have HB := n5_; clear n0_ n1_ n2_ n3_ n4_ n5_; have hcz33_0 : w32.cell? ⟨gb120, 0, none⟩ = some (.int .i64 ((rd_T62 l0_0 (ji17)).f0)) := (zH BK120.out 0).trans rfl; have hcz33_1 : w32.cell? ⟨gb120, 1, none⟩ = some (.int .i64 ((rd_T62 l0_0 (ji17)).f1)) := (zH BK120.out 1).trans rfl; have hcz33_2 : w32.cell? ⟨gb120, 2, none⟩ = some (.int .i64 ((rd_T62 l0_0 (ji17)).f2)) := (zH BK120.out 2).trans rfl; have hcz33_3 : w32.cell? ⟨gb120, 3, none⟩ = some (.int .u8 ((rd_T62 l0_0 (ji17)).f3)) := (zH BK120.out 3).trans rfl; have hfz33_0 := zG BK120.out 0; have hfz33_1 := zG BK120.out 1; have hfz33_2 := zG BK120.out 2; have hfz33_3 := zG BK120.out 3; have hnb34 := NB116_117.out; have hnc34 := NB117_116.out; have hnb35 := NB116_118.out; have hnc35 := NB118_116.out; have hcz36_0 : w32.cell? ⟨gb116, 0, none⟩ = some (.int .i64 a5_0) := (zH BK116.out 0).trans rfl; have hcz36_1 : w32.cell? ⟨gb116, 1, none⟩ = some (.int .i64 a5_1) := (zH BK116.out 1).trans rfl; have hcz36_2 : w32.cell? ⟨gb116, 2, none⟩ = some (.int .u8 a5_2) := (zH BK116.out 2).trans rfl; have hcz36_3 : w32.cell? ⟨gb116, 3, none⟩ = some (.int .i64 a5_3) := (zH BK116.out 3).trans rfl; have hcz36_4 : w32.cell? ⟨gb116, 4, none⟩ = some (.int .i64 a5_4) := (zH BK116.out 4).trans rfl; have hcz36_5 : w32.cell? ⟨gb116, 5, none⟩ = some (.float .f64 a5_5) := (zH BK116.out 5).trans rfl; have hfz36_0 := zG BK116.out 0; have hfz36_1 := zG BK116.out 1; have hfz36_2 := zG BK116.out 2; have hfz36_3 := zG BK116.out 3; have hfz36_4 := zG BK116.out 4; have hfz36_5 := zG BK116.out 5) | ((with_reducible refine gate_callee (f := 37) rfl ?_); refine goesL_ (some 44) rfl rfl Try.func37 (by kernel_rfl) rfl #[.agg #[.int .i64 ((rd_T62 l0_0 (ji17)).f0), .int .i64 ((rd_T62 l0_0 (ji17)).f1), .int .i64 ((rd_T62 l0_0 (ji17)).f2), .int .u8 ((rd_T62 l0_0 (ji17)).f3)], .int .i64 x14_1, .int .i64 a5_1] rfl (by (try simp only [List.map_toArray, List.map_cons, List.map_nil]); first | done | (simp only [hji17]; rfl) | rfl | (simp only [List.length_drop, List.length_take]; rfl)) ?_; (with_reducible refine (span_Next.calls ((rd_T62 l0_0 (ji17)).f0) ((rd_T62 l0_0 (ji17)).f1) ((rd_T62 l0_0 (ji17)).f2) ((rd_T62 l0_0 (ji17)).f3) x14_1 a5_1 t121 _ A20.out).mono ?_); rintro e w37 ⟨rfl, hb⟩; refine ⟨_, rfl, ?_⟩; have n0_ := zD.mk (zK (g := gb115) (o := .cells #[.slice (some ad119) l0_0.length c0_0, .slice A0_1 l0_1.length c0_1] 31 (0, 0)) (by (with_reducible repeat (first | refine zB ?_ _ | refine zC ?_ | refine zA ?_ _)); exact BK115.out) hb); have n1_ := zD.mk (zK (g := gb116) (o := .cells #[.int .i64 a5_0, .int .i64 a5_1, .int .u8 a5_2, .int .i64 a5_3, .int .i64 a5_4, .float .f64 a5_5] 35 (0, 0)) (by (with_reducible repeat (first | refine zB ?_ _ | refine zC ?_ | refine zA ?_ _)); exact BK116.out) hb); have n2_ := zD.mk (zK (g := gb117) (o := .cells #[.int .i64 0, .int .i64 0] 65 (0, 0)) (by (with_reducible repeat (first | refine zB ?_ _ | refine zC ?_ | refine zA ?_ _)); exact BK117.out) hb); have n3_ := zD.mk (zK (g := gb118) (o := .cells #[.int .i64 x119000_1, .int .i64 x119001_1] 65 (0, 0)) (by (with_reducible repeat (first | refine zB ?_ _ | refine zC ?_ | refine zA ?_ _)); exact BK118.out) hb); have n4_ := zD.mk (zK (g := gb120) (o := .cells #[.int .i64 ((rd_T62 l0_0 (ji17)).f0), .int .i64 ((rd_T62 l0_0 (ji17)).f1), .int .i64 ((rd_T62 l0_0 (ji17)).f2), .int .u8 ((rd_T62 l0_0 (ji17)).f3)] 62 (0, 0)) (by (with_reducible repeat (first | refine zB ?_ _ | refine zC ?_ | refine zA ?_ _)); exact BK120.out) hb); have n5_ := zD.mk (below_step (by repeat (first | (with_reducible first | exact HB.out | apply zJ | apply zF | apply zI | refine zE ?_ GE115.out | refine zE ?_ GE116.out | refine zE ?_ GE117.out | refine zE ?_ GE118.out | refine zE ?_ GE120.out) | exact HB.out)) hb); clear BK115; clear BK116; clear BK117; clear BK118; clear BK120; clear HB; have BK115 := n0_; have BK116 := n1_; have BK117 := n2_; have BK118 := n3_; have BK120 := n4_; have HB := n5_; clear n0_ n1_ n2_ n3_ n4_ n5_; (try clear hb); (try clear hb2); (try clear hk); (try clear hi); have hcz38_0 : w37.cell? ⟨gb120, 0, none⟩ = some (.int .i64 ((rd_T62 l0_0 (ji17)).f0)) := (zH BK120.out 0).trans rfl; have hcz38_1 : w37.cell? ⟨gb120, 1, none⟩ = some (.int .i64 ((rd_T62 l0_0 (ji17)).f1)) := (zH BK120.out 1).trans rfl; have hcz38_2 : w37.cell? ⟨gb120, 2, none⟩ = some (.int .i64 ((rd_T62 l0_0 (ji17)).f2)) := (zH BK120.out 2).trans rfl; have hcz38_3 : w37.cell? ⟨gb120, 3, none⟩ = some (.int .u8 ((rd_T62 l0_0 (ji17)).f3)) := (zH BK120.out 3).trans rfl; have hfz38_0 := zG BK120.out 0; have hfz38_1 := zG BK120.out 1; have hfz38_2 := zG BK120.out 2; have hfz38_3 := zG BK120.out 3))
    (try simp only [Act.put, sA_, sB_, sC_])
    go_cut [16] (fun v16 wc => ∃ (kq : Nat) (x16_20 : Int), v16 = .int .i64 x16_20 ∧ zD (best_next.j1 kq a1 a2 a3 l4 t121 x15_1 x16_20 x17_1 x18_1 l0_0 l0_1 a5_0 a5_1 a5_2 a5_3 a5_4 a5_5 x119000_1 x119001_1 = some (r1, r2)) ∧ zD (kq ≤ k1) ∧ zD (wc.heap[gb115]? = some (.cells #[(.slice (some ad119) l0_0.length c0_0), (.slice A0_1 l0_1.length c0_1)] 31 (0, 0))) ∧ zD (wc.heap[gb116]? = some (.cells #[.int .i64 a5_0, .int .i64 a5_1, .int .u8 a5_2, .int .i64 a5_3, .int .i64 a5_4, .float .f64 a5_5] 35 (0, 0))) ∧ zD (wc.heap[gb117]? = some (.cells #[.int .i64 0, .int .i64 0] 65 (0, 0))) ∧ zD (wc.heap[gb118]? = some (.cells #[.int .i64 x119000_1, .int .i64 x119001_1] 65 (0, 0))) ∧ zD (wc.heap[gb120]? = some (.cells #[.int .i64 ((rd_T62 l0_0 (ji17)).f0), .int .i64 ((rd_T62 l0_0 (ji17)).f1), .int .i64 ((rd_T62 l0_0 (ji17)).f2), .int .u8 ((rd_T62 l0_0 (ji17)).f3)] 62 (0, 0))) ∧ zD (Below w.heap.size w wc))
    case first =>
      have H := HC21.out; clear HC21; by_cases c39 : ((rd_T62 l0_0 (ji17)).f3) = 1
      · rw [if_pos c39] at H
        have c39b0 : (((rd_T62 l0_0 (ji17)).f3) == 1) = true := beq_iff_eq.mpr c39
        have c39b1 : (((rd_T62 l0_0 (ji17)).f3) != 1) = false := bne_eq_false_iff_eq.mpr c39
        clear c39; (first | rw [c39b0] | (simp only [i64_w, i32_w]; rw [c39b0]) | skip)
        have H' := zD.mk H
        clear H; go_wp2
        go_meet
        case rel => exact ⟨_, (wrap64 (x16_1 + 1)), (by first | rfl | (simp; done) | (simp [*]; done)), H', ⟨by have := HK1.out; first | omega | exact Nat.le_refl _⟩, ⟨by (with_reducible repeat (first | refine zB ?_ _ | refine zC ?_ | refine zA ?_ _)); exact BK115.out⟩, ⟨by (with_reducible repeat (first | refine zB ?_ _ | refine zC ?_ | refine zA ?_ _)); exact BK116.out⟩, ⟨by (with_reducible repeat (first | refine zB ?_ _ | refine zC ?_ | refine zA ?_ _)); exact BK117.out⟩, ⟨by (with_reducible repeat (first | refine zB ?_ _ | refine zC ?_ | refine zA ?_ _)); exact BK118.out⟩, ⟨by (with_reducible repeat (first | refine zB ?_ _ | refine zC ?_ | refine zA ?_ _)); exact BK120.out⟩, ⟨by repeat (first | (with_reducible first | exact HB.out | apply zJ | apply zF | apply zI | refine zE ?_ GE115.out | refine zE ?_ GE116.out | refine zE ?_ GE117.out | refine zE ?_ GE118.out | refine zE ?_ GE120.out) | exact HB.out)⟩⟩
      rw [if_neg c39] at H; have c39b0 : (((rd_T62 l0_0 (ji17)).f3) == 1) = false := beq_eq_false_iff_ne.mpr c39
      have c39b1 : (((rd_T62 l0_0 (ji17)).f3) != 1) = true := bne_iff_ne.mpr c39
      (first | rw [c39b0] | (simp only [i64_w, i32_w]; rw [c39b0]) | skip)
      have H' := zD.mk H
      clear H; go_wp2
      go_meet
      case rel => exact ⟨_, (x16_1), (by first | rfl | (simp; done) | (simp [*]; done)), H', ⟨by have := HK1.out; first | omega | exact Nat.le_refl _⟩, ⟨by (with_reducible repeat (first | refine zB ?_ _ | refine zC ?_ | refine zA ?_ _)); exact BK115.out⟩, ⟨by (with_reducible repeat (first | refine zB ?_ _ | refine zC ?_ | refine zA ?_ _)); exact BK116.out⟩, ⟨by (with_reducible repeat (first | refine zB ?_ _ | refine zC ?_ | refine zA ?_ _)); exact BK117.out⟩, ⟨by (with_reducible repeat (first | refine zB ?_ _ | refine zC ?_ | refine zA ?_ _)); exact BK118.out⟩, ⟨by (with_reducible repeat (first | refine zB ?_ _ | refine zC ?_ | refine zA ?_ _)); exact BK120.out⟩, ⟨by repeat (first | (with_reducible first | exact HB.out | apply zJ | apply zF | apply zI | refine zE ?_ GE115.out | refine zE ?_ GE116.out | refine zE ?_ GE117.out | refine zE ?_ GE118.out | refine zE ?_ GE120.out) | exact HB.out)⟩⟩
    clear HC21; try clear c1
    try clear p1
    try clear q1
    try clear hx1
    try clear c2
    try clear p2
    try clear c3
    try clear c4
    try clear p6
    try clear c11
    try clear p11
    try clear q11
    try clear hx11
    try clear c12
    try clear c13
    try clear c16
    try clear c16b0
    try clear c18
    try clear c18b0
    try clear c19
    try clear c19b0
    try clear c22
    try clear c23
    try clear c24
    try clear c27
    try clear c28
    try clear c29
    try clear c30
    try clear c34
    try clear c35
    try clear c37
    try clear c39
    try clear c39b0
    try clear c39b1
    try clear hcz14_0
    try clear hcz14_1
    try clear hcz25_0
    try clear hcz25_1
    try clear hcz31_0
    try clear hcz31_1
    try clear hcz31_2
    try clear hcz31_3
    try clear hcz33_0
    try clear hcz33_1
    try clear hcz33_2
    try clear hcz33_3
    try clear hcz36_0
    try clear hcz36_1
    try clear hcz36_2
    try clear hcz36_3
    try clear hcz36_4
    try clear hcz36_5
    try clear hcz38_0
    try clear hcz38_1
    try clear hcz38_2
    try clear hcz38_3
    try clear hfz14_0
    try clear hfz14_1
    try clear hfz25_0
    try clear hfz25_1
    try clear hfz31_0
    try clear hfz31_1
    try clear hfz31_2
    try clear hfz31_3
    try clear hfz33_0
    try clear hfz33_1
    try clear hfz33_2
    try clear hfz33_3
    try clear hfz36_0
    try clear hfz36_1
    try clear hfz36_2
    try clear hfz36_3
    try clear hfz36_4
    try clear hfz36_5
    try clear hfz38_0
    try clear hfz38_1
    try clear hfz38_2
    try clear hfz38_3
    try clear hx119_0
    try clear hx119_1
    try clear hx119_2
    try clear hx119_3
    try clear p119
    try clear p2
    try clear p6
    try clear q119
    obtain ⟨kq, x16_20, rfl, HA, HJ20, BK115, BK116, BK117, BK118, BK120, HB⟩ := hcut; cases kq with
    | zero => exact absurd HA.out (by simp [best_next.j1])
    | succ kj20 =>
      have H := HA.out; clear HA; simp only [best_next.j1] at H; replace H := Option.bind_eq_some_iff.mp H; obtain ⟨t122, A400, H⟩ := H; replace H : (if t122 = x18_1 then (best_next.j2 kj20 a1 a2 a3 l4 t121 t121 x16_20 x16_20 x18_1 l0_0 l0_1 a5_0 a5_1 a5_2 a5_3 a5_4 a5_5 x119000_1 x119001_1) else (best_next.j2 kj20 a1 a2 a3 l4 t121 x15_1 x16_20 x17_1 x18_1 l0_0 l0_1 a5_0 a5_1 a5_2 a5_3 a5_4 a5_5 x119000_1 x119001_1)) = some (r1, r2) := H; have A40 := zD.mk A400; clear A400; have HC41 := zD.mk H; clear H; have hnb42 := NB115_116.out; have hnc42 := NB116_115.out; have hnb43 := NB115_117.out; have hnc43 := NB117_115.out; have hnb44 := NB115_118.out; have hnc44 := NB118_115.out; have hnb45 := NB115_120.out; have hnc45 := NB120_115.out; have hcz46_0 : wc.cell? ⟨gb115, 0, none⟩ = some (.slice (some ad119) l0_0.length c0_0) := (zH BK115.out 0).trans rfl
      have hcz46_1 : wc.cell? ⟨gb115, 1, none⟩ = some (.slice A0_1 l0_1.length c0_1) := (zH BK115.out 1).trans rfl
      have hfz46_0 := zG BK115.out 0; have hfz46_1 := zG BK115.out 1; go_upto_if 56 with (first | ((with_reducible refine gate_callee (f := 38) rfl ?_); refine goesL_ (some 54) rfl rfl Try.func38 (by kernel_rfl) rfl #[.agg #[.slice (some ad119) l0_0.length c0_0, .slice A0_1 l0_1.length c0_1], .int .i64 (wrap64 (x18_1 - 1)), .int .i64 x18_1] rfl (by (try simp only [List.map_toArray, List.map_cons, List.map_nil]); first | done | (rw [hji17] <;> rfl) | rfl | (simp only [List.length_drop, List.length_take]; rfl)) ?_; (with_reducible refine (span_Trim.calls kj20 _ _ l0_0 _ _ l0_1 (wrap64 (x18_1 - 1)) x18_1 t122 _ ?side1 ?side2 ?side3 ?side4 A40.out).mono ?_); (case side1 => repeat (first | exact (Kd.C_below HR0_0.out HB.out) | (with_reducible refine Kd.C_alloc ?_ _) | (with_reducible refine Kd.C_drewN ?_ _) | (with_reducible refine Kd.C_drew ?_))); (case side2 => exact HC0_0.out); (case side3 => repeat (first | exact (Kd.C_below HR0_1.out HB.out) | (with_reducible refine Kd.C_alloc ?_ _) | (with_reducible refine Kd.C_drewN ?_ _) | (with_reducible refine Kd.C_drew ?_))); (case side4 => exact HC0_1.out); rintro e w47 ⟨rfl, hb⟩; refine ⟨_, rfl, ?_⟩; have n0_ := zD.mk (zK (g := gb115) (o := .cells #[.slice (some ad119) l0_0.length c0_0, .slice A0_1 l0_1.length c0_1] 31 (0, 0)) (by (with_reducible repeat (first | refine zB ?_ _ | refine zC ?_ | refine zA ?_ _)); exact BK115.out) hb); have n1_ := zD.mk (zK (g := gb116) (o := .cells #[.int .i64 a5_0, .int .i64 a5_1, .int .u8 a5_2, .int .i64 a5_3, .int .i64 a5_4, .float .f64 a5_5] 35 (0, 0)) (by (with_reducible repeat (first | refine zB ?_ _ | refine zC ?_ | refine zA ?_ _)); exact BK116.out) hb); have n2_ := zD.mk (zK (g := gb117) (o := .cells #[.int .i64 0, .int .i64 0] 65 (0, 0)) (by (with_reducible repeat (first | refine zB ?_ _ | refine zC ?_ | refine zA ?_ _)); exact BK117.out) hb); have n3_ := zD.mk (zK (g := gb118) (o := .cells #[.int .i64 x119000_1, .int .i64 x119001_1] 65 (0, 0)) (by (with_reducible repeat (first | refine zB ?_ _ | refine zC ?_ | refine zA ?_ _)); exact BK118.out) hb); have n4_ := zD.mk (zK (g := gb120) (o := .cells #[.int .i64 ((rd_T62 l0_0 (ji17)).f0), .int .i64 ((rd_T62 l0_0 (ji17)).f1), .int .i64 ((rd_T62 l0_0 (ji17)).f2), .int .u8 ((rd_T62 l0_0 (ji17)).f3)] 62 (0, 0)) (by (with_reducible repeat (first | refine zB ?_ _ | refine zC ?_ | refine zA ?_ _)); exact BK120.out) hb); have n5_ := zD.mk (below_step (by repeat (first | (with_reducible first | exact HB.out | apply zJ | apply zF | apply zI | refine zE ?_ GE115.out | refine zE ?_ GE116.out | refine zE ?_ GE117.out | refine zE ?_ GE118.out | refine zE ?_ GE120.out) | exact HB.out)) hb); clear BK115; clear BK116; clear BK117; clear BK118; clear BK120; clear HB; have BK115 := n0_; have BK116 := n1_; have BK117 := n2_; have BK118 := n3_; have BK120 := n4_; have HB := n5_; clear n0_ n1_ n2_ n3_ n4_ n5_; (try clear hb); (try clear hb2); (try clear hk); (try clear hi)))
      (try simp only [Act.put, sA_, sB_, sC_])
      go_cut [15, 17] (fun v15 v17 wc => ∃ (kq : Nat) (x15_40 : Int) (x17_40 : Int), v15 = .int .i64 x15_40 ∧ v17 = .int .i64 x17_40 ∧ zD (best_next.j2 kq a1 a2 a3 l4 t121 x15_40 x16_20 x17_40 x18_1 l0_0 l0_1 a5_0 a5_1 a5_2 a5_3 a5_4 a5_5 x119000_1 x119001_1 = some (r1, r2)) ∧ zD (kq ≤ kj20) ∧ zD (wc.heap[gb115]? = some (.cells #[(.slice (some ad119) l0_0.length c0_0), (.slice A0_1 l0_1.length c0_1)] 31 (0, 0))) ∧ zD (wc.heap[gb116]? = some (.cells #[.int .i64 a5_0, .int .i64 a5_1, .int .u8 a5_2, .int .i64 a5_3, .int .i64 a5_4, .float .f64 a5_5] 35 (0, 0))) ∧ zD (wc.heap[gb117]? = some (.cells #[.int .i64 0, .int .i64 0] 65 (0, 0))) ∧ zD (wc.heap[gb118]? = some (.cells #[.int .i64 x119000_1, .int .i64 x119001_1] 65 (0, 0))) ∧ zD (wc.heap[gb120]? = some (.cells #[.int .i64 ((rd_T62 l0_0 (ji17)).f0), .int .i64 ((rd_T62 l0_0 (ji17)).f1), .int .i64 ((rd_T62 l0_0 (ji17)).f2), .int .u8 ((rd_T62 l0_0 (ji17)).f3)] 62 (0, 0))) ∧ zD (Below w.heap.size w wc))
      case first =>
        have H := HC41.out; clear HC41; by_cases c48 : t122 = x18_1
        · rw [if_pos c48] at H
          have c48b0 : (t122 == x18_1) = true := beq_iff_eq.mpr c48
          have c48b1 : (t122 != x18_1) = false := bne_eq_false_iff_eq.mpr c48
          clear c48; (first | rw [c48b0] | (simp only [i64_w, i32_w]; rw [c48b0]) | skip)
          have H' := zD.mk H
          clear H; go_wp2
          go_meet
          case rel => exact ⟨_, (t121), (x16_20), (by first | rfl | (simp; done) | (simp [*]; done)), (by first | rfl | (simp; done) | (simp [*]; done)), H', ⟨by have := HK1.out; have := HJ20.out; first | omega | exact Nat.le_refl _⟩, ⟨by (with_reducible repeat (first | refine zB ?_ _ | refine zC ?_ | refine zA ?_ _)); exact BK115.out⟩, ⟨by (with_reducible repeat (first | refine zB ?_ _ | refine zC ?_ | refine zA ?_ _)); exact BK116.out⟩, ⟨by (with_reducible repeat (first | refine zB ?_ _ | refine zC ?_ | refine zA ?_ _)); exact BK117.out⟩, ⟨by (with_reducible repeat (first | refine zB ?_ _ | refine zC ?_ | refine zA ?_ _)); exact BK118.out⟩, ⟨by (with_reducible repeat (first | refine zB ?_ _ | refine zC ?_ | refine zA ?_ _)); exact BK120.out⟩, ⟨by repeat (first | (with_reducible first | exact HB.out | apply zJ | apply zF | apply zI | refine zE ?_ GE115.out | refine zE ?_ GE116.out | refine zE ?_ GE117.out | refine zE ?_ GE118.out | refine zE ?_ GE120.out) | exact HB.out)⟩⟩
        rw [if_neg c48] at H; have c48b0 : (t122 == x18_1) = false := beq_eq_false_iff_ne.mpr c48
        have c48b1 : (t122 != x18_1) = true := bne_iff_ne.mpr c48
        (first | rw [c48b0] | (simp only [i64_w, i32_w]; rw [c48b0]) | skip)
        have H' := zD.mk H
        clear H; go_wp2
        go_meet
        case rel => exact ⟨_, (x15_1), (x17_1), (by first | rfl | (simp; done) | (simp [*]; done)), (by first | rfl | (simp; done) | (simp [*]; done)), H', ⟨by have := HK1.out; have := HJ20.out; first | omega | exact Nat.le_refl _⟩, ⟨by (with_reducible repeat (first | refine zB ?_ _ | refine zC ?_ | refine zA ?_ _)); exact BK115.out⟩, ⟨by (with_reducible repeat (first | refine zB ?_ _ | refine zC ?_ | refine zA ?_ _)); exact BK116.out⟩, ⟨by (with_reducible repeat (first | refine zB ?_ _ | refine zC ?_ | refine zA ?_ _)); exact BK117.out⟩, ⟨by (with_reducible repeat (first | refine zB ?_ _ | refine zC ?_ | refine zA ?_ _)); exact BK118.out⟩, ⟨by (with_reducible repeat (first | refine zB ?_ _ | refine zC ?_ | refine zA ?_ _)); exact BK120.out⟩, ⟨by repeat (first | (with_reducible first | exact HB.out | apply zJ | apply zF | apply zI | refine zE ?_ GE115.out | refine zE ?_ GE116.out | refine zE ?_ GE117.out | refine zE ?_ GE118.out | refine zE ?_ GE120.out) | exact HB.out)⟩⟩
      clear HC41; try clear c1
      try clear p1
      try clear q1
      try clear hx1
      try clear c2
      try clear p2
      try clear c3
      try clear c4
      try clear p6
      try clear c11
      try clear p11
      try clear q11
      try clear hx11
      try clear c12
      try clear c13
      try clear c16
      try clear c16b0
      try clear c18
      try clear c18b0
      try clear c19
      try clear c19b0
      try clear c22
      try clear c23
      try clear c24
      try clear c27
      try clear c28
      try clear c29
      try clear c30
      try clear c34
      try clear c35
      try clear c37
      try clear c38
      try clear c39
      try clear c39b0
      try clear c39b1
      try clear c42
      try clear c43
      try clear c44
      try clear c45
      try clear c48
      try clear c48b0
      try clear c48b1
      try clear hcz14_0
      try clear hcz14_1
      try clear hcz25_0
      try clear hcz25_1
      try clear hcz31_0
      try clear hcz31_1
      try clear hcz31_2
      try clear hcz31_3
      try clear hcz33_0
      try clear hcz33_1
      try clear hcz33_2
      try clear hcz33_3
      try clear hcz36_0
      try clear hcz36_1
      try clear hcz36_2
      try clear hcz36_3
      try clear hcz36_4
      try clear hcz36_5
      try clear hcz38_0
      try clear hcz38_1
      try clear hcz38_2
      try clear hcz38_3
      try clear hcz46_0
      try clear hcz46_1
      try clear hfz14_0
      try clear hfz14_1
      try clear hfz25_0
      try clear hfz25_1
      try clear hfz31_0
      try clear hfz31_1
      try clear hfz31_2
      try clear hfz31_3
      try clear hfz33_0
      try clear hfz33_1
      try clear hfz33_2
      try clear hfz33_3
      try clear hfz36_0
      try clear hfz36_1
      try clear hfz36_2
      try clear hfz36_3
      try clear hfz36_4
      try clear hfz36_5
      try clear hfz38_0
      try clear hfz38_1
      try clear hfz38_2
      try clear hfz38_3
      try clear hfz46_0
      try clear hfz46_1
      try clear hx119_0
      try clear hx119_1
      try clear hx119_2
      try clear hx119_3
      try clear p1
      try clear p11
      try clear p119
      try clear p2
      try clear p6
      try clear q1
      try clear q11
      try clear q119
      obtain ⟨kq, x15_40, x17_40, rfl, rfl, HA, HJ40, BK115, BK116, BK117, BK118, BK120, HB⟩ := hcut; cases kq with
      | zero => exact absurd HA.out (by simp [best_next.j2])
      | succ kj40 =>
        have H := HA.out; clear HA; simp only [best_next.j2] at H; by_cases c49 : x15_40 > a5_0
        · rw [if_pos c49] at H
          have c49b0 : decide (a5_0 < x15_40) = true := decide_eq_true c49
          clear c49; simp only [Option.some.injEq, Prod.mk.injEq] at H; obtain ⟨rfl, rfl⟩ := H; have hnb50 := NB116_115.out; have hnc50 := NB115_116.out; have hnb51 := NB116_117.out; have hnc51 := NB117_116.out; have hnb52 := NB116_118.out; have hnc52 := NB118_116.out; have hnb53 := NB116_120.out; have hnc53 := NB120_116.out; have hcz54_0 : wc.cell? ⟨gb116, 0, none⟩ = some (.int .i64 a5_0) := (zH BK116.out 0).trans rfl
          have hcz54_1 : wc.cell? ⟨gb116, 1, none⟩ = some (.int .i64 a5_1) := (zH BK116.out 1).trans rfl
          have hcz54_2 : wc.cell? ⟨gb116, 2, none⟩ = some (.int .u8 a5_2) := (zH BK116.out 2).trans rfl
          have hcz54_3 : wc.cell? ⟨gb116, 3, none⟩ = some (.int .i64 a5_3) := (zH BK116.out 3).trans rfl
          have hcz54_4 : wc.cell? ⟨gb116, 4, none⟩ = some (.int .i64 a5_4) := (zH BK116.out 4).trans rfl
          have hcz54_5 : wc.cell? ⟨gb116, 5, none⟩ = some (.float .f64 a5_5) := (zH BK116.out 5).trans rfl
          have hfz54_0 := zG BK116.out 0; have hfz54_1 := zG BK116.out 1; have hfz54_2 := zG BK116.out 2; have hfz54_3 := zG BK116.out 3; have hfz54_4 := zG BK116.out 4; have hfz54_5 := zG BK116.out 5; have hnb55 := NB118_115.out; have hnc55 := NB115_118.out; have hnb56 := NB118_117.out; have hnc56 := NB117_118.out; have hnb57 := NB118_120.out; have hnc57 := NB120_118.out; have hcz58_0 : wc.cell? ⟨gb118, 0, none⟩ = some (.int .i64 x119000_1) := (zH BK118.out 0).trans rfl
          have hcz58_1 : wc.cell? ⟨gb118, 1, none⟩ = some (.int .i64 x119001_1) := (zH BK118.out 1).trans rfl
          have hfz58_0 := zG BK118.out 0; have hfz58_1 := zG BK118.out 1; have hnb59 := NB117_115.out; have hnc59 := NB115_117.out; have hnb60 := NB117_120.out; have hnc60 := NB120_117.out; have hcz61_0 : wc.cell? ⟨gb117, 0, none⟩ = some (.int .i64 0) := (zH BK117.out 0).trans rfl
          have hcz61_1 : wc.cell? ⟨gb117, 1, none⟩ = some (.int .i64 0) := (zH BK117.out 1).trans rfl
          have hfz61_0 := zG BK117.out 0; have hfz61_1 := zG BK117.out 1; go_wp2_with (first | ((with_reducible refine gate_store (t := 65) (p := 12) rfl ?_); refine store_event (t := 65) (p := 12) (v := ?vo_w62) (w1 := ((wc.setCell ⟨gb117, 0, none⟩ (.int .i64 x119000_1)).setCell ⟨gb117, 1, none⟩ (.int .i64 x119001_1))) ?hg ?ho ?hn ?hr ?_; (case ho => rfl); (case hg => rfl); (case hn => rfl); (case hr => first | (go_simp; done) | (go_simp; rfl)); intro w62 hw; have n0_ : zD (w62.heap[gb115]? = some (.cells #[.slice (some ad119) l0_0.length c0_0, .slice A0_1 l0_1.length c0_1] 31 (0, 0))) := ⟨(by rw [hw]; exact (by (with_reducible repeat (first | refine zB ?_ _ | refine zC ?_ | refine zA ?_ _)); refine zL ?_ NB115_117.out _; (with_reducible repeat (first | refine zB ?_ _ | refine zC ?_ | refine zA ?_ _)); refine zL ?_ NB115_117.out _; (with_reducible repeat (first | refine zB ?_ _ | refine zC ?_ | refine zA ?_ _)); exact BK115.out))⟩; have n1_ : zD (w62.heap[gb116]? = some (.cells #[.int .i64 a5_0, .int .i64 a5_1, .int .u8 a5_2, .int .i64 a5_3, .int .i64 a5_4, .float .f64 a5_5] 35 (0, 0))) := ⟨(by rw [hw]; exact (by (with_reducible repeat (first | refine zB ?_ _ | refine zC ?_ | refine zA ?_ _)); refine zL ?_ NB116_117.out _; (with_reducible repeat (first | refine zB ?_ _ | refine zC ?_ | refine zA ?_ _)); refine zL ?_ NB116_117.out _; (with_reducible repeat (first | refine zB ?_ _ | refine zC ?_ | refine zA ?_ _)); exact BK116.out))⟩; have n2_ : zD (w62.heap[gb117]? = some (.cells #[.int .i64 x119000_1, .int .i64 x119001_1] 65 (0, 0))) := ⟨(by rw [hw]; exact (by (with_reducible repeat (first | refine zB ?_ _ | refine zC ?_ | refine zA ?_ _)); refine blk_put (cs := #[.int .i64 x119000_1, .int .i64 0]) ?_ 1 _ rfl; (with_reducible repeat (first | refine zB ?_ _ | refine zC ?_ | refine zA ?_ _)); refine blk_put (cs := #[.int .i64 0, .int .i64 0]) ?_ 0 _ rfl; (with_reducible repeat (first | refine zB ?_ _ | refine zC ?_ | refine zA ?_ _)); exact BK117.out))⟩; have n3_ : zD (w62.heap[gb118]? = some (.cells #[.int .i64 x119000_1, .int .i64 x119001_1] 65 (0, 0))) := ⟨(by rw [hw]; exact (by (with_reducible repeat (first | refine zB ?_ _ | refine zC ?_ | refine zA ?_ _)); refine zL ?_ NB118_117.out _; (with_reducible repeat (first | refine zB ?_ _ | refine zC ?_ | refine zA ?_ _)); refine zL ?_ NB118_117.out _; (with_reducible repeat (first | refine zB ?_ _ | refine zC ?_ | refine zA ?_ _)); exact BK118.out))⟩; have n4_ : zD (w62.heap[gb120]? = some (.cells #[.int .i64 ((rd_T62 l0_0 (ji17)).f0), .int .i64 ((rd_T62 l0_0 (ji17)).f1), .int .i64 ((rd_T62 l0_0 (ji17)).f2), .int .u8 ((rd_T62 l0_0 (ji17)).f3)] 62 (0, 0))) := ⟨(by rw [hw]; exact (by (with_reducible repeat (first | refine zB ?_ _ | refine zC ?_ | refine zA ?_ _)); refine zL ?_ NB120_117.out _; (with_reducible repeat (first | refine zB ?_ _ | refine zC ?_ | refine zA ?_ _)); refine zL ?_ NB120_117.out _; (with_reducible repeat (first | refine zB ?_ _ | refine zC ?_ | refine zA ?_ _)); exact BK120.out))⟩; have n5_ : zD (Below w.heap.size w w62) := ⟨(by rw [hw]; exact (by repeat (first | (with_reducible first | exact HB.out | apply zJ | apply zF | apply zI | refine zE ?_ GE115.out | refine zE ?_ GE116.out | refine zE ?_ GE117.out | refine zE ?_ GE118.out | refine zE ?_ GE120.out) | exact HB.out)))⟩; clear hw; clear BK115; clear BK116; clear BK117; clear BK118; clear BK120; clear HB; have BK115 := n0_; have BK116 := n1_; have BK117 := n2_; have BK118 := n3_; have BK120 := n4_; have HB := n5_; clear n0_ n1_ n2_ n3_ n4_ n5_))
          refine bodyPost_ret (results_cell_row rfl _ _ gb117 65 #[.int .i64 x119000_1, .int .i64 x119001_1] (0, 0) _ rfl (by (with_reducible repeat (first | refine zB ?_ _ | refine zC ?_ | refine zA ?_ _)); exact BK117.out) Try.underlying65 rfl (by kernel_rfl)) rfl ?_
          exact ⟨by first | rfl | (simp [errW_none, errW_some] <;> rfl) | (simp only [← hji17]; first | rfl | (simp [errW_none, errW_some] <;> rfl)) | (simp [*, errW_none, errW_some] <;> rfl), by repeat (first | (with_reducible first | exact HB.out | apply zJ | apply zF | apply zI | refine zE ?_ GE115.out | refine zE ?_ GE116.out | refine zE ?_ GE117.out | refine zE ?_ GE118.out | refine zE ?_ GE120.out) | exact HB.out)⟩
        rw [if_neg c49] at H; have c49b0 : decide (a5_0 < x15_40) = false := decide_eq_false c49
        clear c49; replace H := Option.bind_eq_some_iff.mp H; obtain ⟨⟨t123, t124⟩, A630, H⟩ := H; replace H : (if 0 ≤ (wrap64 (x18_1 - a2)) then (if (wrap64 (x18_1 - a2)) < (l4.length : Int) then (if t124 = true then (if x18_1 < a3 then (best_next.j3 kj40 a1 a2 a3 l4 t121 x15_40 x16_20 x17_40 x18_1 t123 (decide (((rd_T65 l4 (wrap64 (x18_1 - a2))).f1) < 0)) l0_0 l0_1 a5_0 a5_1 a5_2 a5_3 a5_4 a5_5 x119000_1 x119001_1 ((rd_T65 l4 (wrap64 (x18_1 - a2))).f0) ((rd_T65 l4 (wrap64 (x18_1 - a2))).f1)) else (best_next.j3 kj40 a1 a2 a3 l4 t121 x15_40 x16_20 x17_40 x18_1 t123 false l0_0 l0_1 a5_0 a5_1 a5_2 a5_3 a5_4 a5_5 x119000_1 x119001_1 ((rd_T65 l4 (wrap64 (x18_1 - a2))).f0) ((rd_T65 l4 (wrap64 (x18_1 - a2))).f1))) else (best_next.j3 kj40 a1 a2 a3 l4 t121 x15_40 x16_20 x17_40 x18_1 t123 true l0_0 l0_1 a5_0 a5_1 a5_2 a5_3 a5_4 a5_5 x119000_1 x119001_1 ((rd_T65 l4 (wrap64 (x18_1 - a2))).f0) ((rd_T65 l4 (wrap64 (x18_1 - a2))).f1))) else (none)) else (none)) = some (r1, r2) := H; have A63 := zD.mk A630; clear A630; obtain ⟨ji64, hji64⟩ : ∃ j_ : Int, (wrap64 (x18_1 - a2)) = j_ := ⟨_, rfl⟩; replace H : (if 0 ≤ (ji64) then (if (ji64) < (l4.length : Int) then (if t124 = true then (if x18_1 < a3 then (best_next.j3 kj40 a1 a2 a3 l4 t121 x15_40 x16_20 x17_40 x18_1 t123 (decide (((rd_T65 l4 (ji64)).f1) < 0)) l0_0 l0_1 a5_0 a5_1 a5_2 a5_3 a5_4 a5_5 x119000_1 x119001_1 ((rd_T65 l4 (ji64)).f0) ((rd_T65 l4 (ji64)).f1)) else (best_next.j3 kj40 a1 a2 a3 l4 t121 x15_40 x16_20 x17_40 x18_1 t123 false l0_0 l0_1 a5_0 a5_1 a5_2 a5_3 a5_4 a5_5 x119000_1 x119001_1 ((rd_T65 l4 (ji64)).f0) ((rd_T65 l4 (ji64)).f1))) else (best_next.j3 kj40 a1 a2 a3 l4 t121 x15_40 x16_20 x17_40 x18_1 t123 true l0_0 l0_1 a5_0 a5_1 a5_2 a5_3 a5_4 a5_5 x119000_1 x119001_1 ((rd_T65 l4 (ji64)).f0) ((rd_T65 l4 (ji64)).f1))) else (none)) else (none)) = some (r1, r2) := by first | (rw [hji64] at H; exact H) | (simp only [hji64] at H ⊢; exact H)
        (try rw [hji64] at A63)
        have hji64w : (IntKind.i64.wrap (x18_1 - a2)) = ji64 := (i64_w _).trans hji64
        by_cases c65 : 0 ≤ (ji64)
        rotate_left
        · rw [if_neg c65] at H
          exact absurd H (by simp)
        rw [if_pos c65] at H; have c65b0 : decide (0 ≤ (ji64)) = true := decide_eq_true c65
        clear c65; by_cases c66 : (ji64) < (l4.length : Int)
        rotate_left
        · rw [if_neg c66] at H
          exact absurd H (by simp)
        rw [if_pos c66] at H; have c66b0 : decide ((ji64) < (l4.length : Int)) = true := decide_eq_true c66
        clear c66; have HC67 := zD.mk H; clear H; have hnb68 := NB116_115.out; have hnc68 := NB115_116.out; have hnb69 := NB116_117.out; have hnc69 := NB117_116.out; have hnb70 := NB116_118.out; have hnc70 := NB118_116.out; have hnb71 := NB116_120.out; have hnc71 := NB120_116.out; have hcz72_0 : wc.cell? ⟨gb116, 0, none⟩ = some (.int .i64 a5_0) := (zH BK116.out 0).trans rfl
        have hcz72_1 : wc.cell? ⟨gb116, 1, none⟩ = some (.int .i64 a5_1) := (zH BK116.out 1).trans rfl
        have hcz72_2 : wc.cell? ⟨gb116, 2, none⟩ = some (.int .u8 a5_2) := (zH BK116.out 2).trans rfl
        have hcz72_3 : wc.cell? ⟨gb116, 3, none⟩ = some (.int .i64 a5_3) := (zH BK116.out 3).trans rfl
        have hcz72_4 : wc.cell? ⟨gb116, 4, none⟩ = some (.int .i64 a5_4) := (zH BK116.out 4).trans rfl
        have hcz72_5 : wc.cell? ⟨gb116, 5, none⟩ = some (.float .f64 a5_5) := (zH BK116.out 5).trans rfl
        have hfz72_0 := zG BK116.out 0; have hfz72_1 := zG BK116.out 1; have hfz72_2 := zG BK116.out 2; have hfz72_3 := zG BK116.out 3; have hfz72_4 := zG BK116.out 4; have hfz72_5 := zG BK116.out 5; have hnb73 := NB115_117.out; have hnc73 := NB117_115.out; have hnb74 := NB115_118.out; have hnc74 := NB118_115.out; have hnb75 := NB115_120.out; have hnc75 := NB120_115.out; have hcz76_0 : wc.cell? ⟨gb115, 0, none⟩ = some (.slice (some ad119) l0_0.length c0_0) := (zH BK115.out 0).trans rfl
        have hcz76_1 : wc.cell? ⟨gb115, 1, none⟩ = some (.slice A0_1 l0_1.length c0_1) := (zH BK115.out 1).trans rfl
        have hfz76_0 := zG BK115.out 0; have hfz76_1 := zG BK115.out 1; go_upto_region 15 with (first | ((with_reducible refine gate_callee (f := 30) rfl ?_); refine goesL_ (some 66) rfl rfl Try.func30 (by kernel_rfl) rfl #[.agg #[.slice (some ad119) l0_0.length c0_0, .slice A0_1 l0_1.length c0_1], .int .i64 x18_1] rfl (by (try simp only [List.map_toArray, List.map_cons, List.map_nil]); first | done | rfl | (simp only [List.length_drop, List.length_take]; rfl)) ?_; (with_reducible refine (span_Ends.calls _ _ l0_0 _ _ l0_1 x18_1 t123 t124 _ ?side1 ?side2 ?side3 ?side4 A63.out).mono ?_); (case side1 => repeat (first | exact (Kd.C_below HR0_0.out HB.out) | (with_reducible refine Kd.C_alloc ?_ _) | (with_reducible refine Kd.C_drewN ?_ _) | (with_reducible refine Kd.C_drew ?_))); (case side2 => exact HC0_0.out); (case side3 => repeat (first | exact (Kd.C_below HR0_1.out HB.out) | (with_reducible refine Kd.C_alloc ?_ _) | (with_reducible refine Kd.C_drewN ?_ _) | (with_reducible refine Kd.C_drew ?_))); (case side4 => exact HC0_1.out); rintro e w77 ⟨rfl, hb⟩; refine ⟨_, rfl, ?_⟩; have n0_ := zD.mk (zK (g := gb115) (o := .cells #[.slice (some ad119) l0_0.length c0_0, .slice A0_1 l0_1.length c0_1] 31 (0, 0)) (by (with_reducible repeat (first | refine zB ?_ _ | refine zC ?_ | refine zA ?_ _)); exact BK115.out) hb); have n1_ := zD.mk (zK (g := gb116) (o := .cells #[.int .i64 a5_0, .int .i64 a5_1, .int .u8 a5_2, .int .i64 a5_3, .int .i64 a5_4, .float .f64 a5_5] 35 (0, 0)) (by (with_reducible repeat (first | refine zB ?_ _ | refine zC ?_ | refine zA ?_ _)); exact BK116.out) hb); have n2_ := zD.mk (zK (g := gb117) (o := .cells #[.int .i64 0, .int .i64 0] 65 (0, 0)) (by (with_reducible repeat (first | refine zB ?_ _ | refine zC ?_ | refine zA ?_ _)); exact BK117.out) hb); have n3_ := zD.mk (zK (g := gb118) (o := .cells #[.int .i64 x119000_1, .int .i64 x119001_1] 65 (0, 0)) (by (with_reducible repeat (first | refine zB ?_ _ | refine zC ?_ | refine zA ?_ _)); exact BK118.out) hb); have n4_ := zD.mk (zK (g := gb120) (o := .cells #[.int .i64 ((rd_T62 l0_0 (ji17)).f0), .int .i64 ((rd_T62 l0_0 (ji17)).f1), .int .i64 ((rd_T62 l0_0 (ji17)).f2), .int .u8 ((rd_T62 l0_0 (ji17)).f3)] 62 (0, 0)) (by (with_reducible repeat (first | refine zB ?_ _ | refine zC ?_ | refine zA ?_ _)); exact BK120.out) hb); have n5_ := zD.mk (below_step (by repeat (first | (with_reducible first | exact HB.out | apply zJ | apply zF | apply zI | refine zE ?_ GE115.out | refine zE ?_ GE116.out | refine zE ?_ GE117.out | refine zE ?_ GE118.out | refine zE ?_ GE120.out) | exact HB.out)) hb); clear BK115; clear BK116; clear BK117; clear BK118; clear BK120; clear HB; have BK115 := n0_; have BK116 := n1_; have BK117 := n2_; have BK118 := n3_; have BK120 := n4_; have HB := n5_; clear n0_ n1_ n2_ n3_ n4_ n5_; (try clear hb); (try clear hb2); (try clear hk); (try clear hi); have p125 : 0 ≤ ((ji64) : Int) := of_decide_eq_true (by first | (with_reducible assumption) | assumption); have q125 : (ji64) < (l4.length : Int) := of_decide_eq_true (by first | (with_reducible assumption) | assumption); obtain ⟨ad125, e125, hx125_0, hx125_1⟩ := at_T65 HR4.out (ji64) p125 q125; cases e125; replace hx125_0 := (HB.out.cell (World.block_lt_of_cell? w _ hx125_0)).trans hx125_0; replace hx125_1 := (HB.out.cell (World.block_lt_of_cell? w _ hx125_1)).trans hx125_1; replace p125 := eq_true p125; replace q125 := eq_true q125) | ((with_reducible refine gate_dst (N := 22) rfl ?_); refine box_event ?hg (N := 22) ?hd (cs := #[.int .i64 0, .int .i64 0]) (t := 65) ?hr ?_; (case hd => rfl); (case hg => rfl); (case hr => first | (go_simp; done) | (go_simp; rfl)); intro gb126 hg w78 hbox hb; have n0_ := zD.mk (zK (g := gb115) (o := .cells #[.slice (some ad119) l0_0.length c0_0, .slice A0_1 l0_1.length c0_1] 31 (0, 0)) (by (with_reducible repeat (first | refine zB ?_ _ | refine zC ?_ | refine zA ?_ _)); exact BK115.out) hb); have n1_ := zD.mk (zK (g := gb116) (o := .cells #[.int .i64 a5_0, .int .i64 a5_1, .int .u8 a5_2, .int .i64 a5_3, .int .i64 a5_4, .float .f64 a5_5] 35 (0, 0)) (by (with_reducible repeat (first | refine zB ?_ _ | refine zC ?_ | refine zA ?_ _)); exact BK116.out) hb); have n2_ := zD.mk (zK (g := gb117) (o := .cells #[.int .i64 0, .int .i64 0] 65 (0, 0)) (by (with_reducible repeat (first | refine zB ?_ _ | refine zC ?_ | refine zA ?_ _)); exact BK117.out) hb); have n3_ := zD.mk (zK (g := gb118) (o := .cells #[.int .i64 x119000_1, .int .i64 x119001_1] 65 (0, 0)) (by (with_reducible repeat (first | refine zB ?_ _ | refine zC ?_ | refine zA ?_ _)); exact BK118.out) hb); have n4_ := zD.mk (zK (g := gb120) (o := .cells #[.int .i64 ((rd_T62 l0_0 (ji17)).f0), .int .i64 ((rd_T62 l0_0 (ji17)).f1), .int .i64 ((rd_T62 l0_0 (ji17)).f2), .int .u8 ((rd_T62 l0_0 (ji17)).f3)] 62 (0, 0)) (by (with_reducible repeat (first | refine zB ?_ _ | refine zC ?_ | refine zA ?_ _)); exact BK120.out) hb); have n5_ := zD.mk (below_step (by repeat (first | (with_reducible first | exact HB.out | apply zJ | apply zF | apply zI | refine zE ?_ GE115.out | refine zE ?_ GE116.out | refine zE ?_ GE117.out | refine zE ?_ GE118.out | refine zE ?_ GE120.out) | exact HB.out)) hb); have n6_ := zD.mk (hbox); have n7_ := zD.mk ((by rw [hg]; exact (zM (by repeat (first | (with_reducible first | exact HB.out | apply zJ | apply zF | apply zI | refine zE ?_ GE115.out | refine zE ?_ GE116.out | refine zE ?_ GE117.out | refine zE ?_ GE118.out | refine zE ?_ GE120.out) | exact HB.out))) : w.heap.size ≤ gb126)); have n8_ := zD.mk ((by rw [hg]; exact (zM (by repeat (first | (with_reducible first | exact HB.out | apply zJ | apply zF | apply zI | refine zE ?_ GE115.out | refine zE ?_ GE116.out | refine zE ?_ GE117.out | refine zE ?_ GE118.out | refine zE ?_ GE120.out) | exact HB.out))) : w.heap.size ≤ gb126)); have n9_ := zD.mk ((by rw [hg]; exact Nat.ne_of_lt (blk_lt (g := gb115) (o := .cells #[.slice (some ad119) l0_0.length c0_0, .slice A0_1 l0_1.length c0_1] 31 (0, 0)) (by (with_reducible repeat (first | refine zB ?_ _ | refine zC ?_ | refine zA ?_ _)); exact BK115.out)) : gb115 ≠ gb126)); have n10_ := zD.mk ((by rw [hg]; exact Nat.ne_of_gt (blk_lt (g := gb115) (o := .cells #[.slice (some ad119) l0_0.length c0_0, .slice A0_1 l0_1.length c0_1] 31 (0, 0)) (by (with_reducible repeat (first | refine zB ?_ _ | refine zC ?_ | refine zA ?_ _)); exact BK115.out)) : gb126 ≠ gb115)); have n11_ := zD.mk ((by rw [hg]; exact Nat.ne_of_lt (blk_lt (g := gb116) (o := .cells #[.int .i64 a5_0, .int .i64 a5_1, .int .u8 a5_2, .int .i64 a5_3, .int .i64 a5_4, .float .f64 a5_5] 35 (0, 0)) (by (with_reducible repeat (first | refine zB ?_ _ | refine zC ?_ | refine zA ?_ _)); exact BK116.out)) : gb116 ≠ gb126)); have n12_ := zD.mk ((by rw [hg]; exact Nat.ne_of_gt (blk_lt (g := gb116) (o := .cells #[.int .i64 a5_0, .int .i64 a5_1, .int .u8 a5_2, .int .i64 a5_3, .int .i64 a5_4, .float .f64 a5_5] 35 (0, 0)) (by (with_reducible repeat (first | refine zB ?_ _ | refine zC ?_ | refine zA ?_ _)); exact BK116.out)) : gb126 ≠ gb116)); have n13_ := zD.mk ((by rw [hg]; exact Nat.ne_of_lt (blk_lt (g := gb117) (o := .cells #[.int .i64 0, .int .i64 0] 65 (0, 0)) (by (with_reducible repeat (first | refine zB ?_ _ | refine zC ?_ | refine zA ?_ _)); exact BK117.out)) : gb117 ≠ gb126)); have n14_ := zD.mk ((by rw [hg]; exact Nat.ne_of_gt (blk_lt (g := gb117) (o := .cells #[.int .i64 0, .int .i64 0] 65 (0, 0)) (by (with_reducible repeat (first | refine zB ?_ _ | refine zC ?_ | refine zA ?_ _)); exact BK117.out)) : gb126 ≠ gb117)); have n15_ := zD.mk ((by rw [hg]; exact Nat.ne_of_lt (blk_lt (g := gb118) (o := .cells #[.int .i64 x119000_1, .int .i64 x119001_1] 65 (0, 0)) (by (with_reducible repeat (first | refine zB ?_ _ | refine zC ?_ | refine zA ?_ _)); exact BK118.out)) : gb118 ≠ gb126)); have n16_ := zD.mk ((by rw [hg]; exact Nat.ne_of_gt (blk_lt (g := gb118) (o := .cells #[.int .i64 x119000_1, .int .i64 x119001_1] 65 (0, 0)) (by (with_reducible repeat (first | refine zB ?_ _ | refine zC ?_ | refine zA ?_ _)); exact BK118.out)) : gb126 ≠ gb118)); have n17_ := zD.mk ((by rw [hg]; exact Nat.ne_of_lt (blk_lt (g := gb120) (o := .cells #[.int .i64 ((rd_T62 l0_0 (ji17)).f0), .int .i64 ((rd_T62 l0_0 (ji17)).f1), .int .i64 ((rd_T62 l0_0 (ji17)).f2), .int .u8 ((rd_T62 l0_0 (ji17)).f3)] 62 (0, 0)) (by (with_reducible repeat (first | refine zB ?_ _ | refine zC ?_ | refine zA ?_ _)); exact BK120.out)) : gb120 ≠ gb126)); have n18_ := zD.mk ((by rw [hg]; exact Nat.ne_of_gt (blk_lt (g := gb120) (o := .cells #[.int .i64 ((rd_T62 l0_0 (ji17)).f0), .int .i64 ((rd_T62 l0_0 (ji17)).f1), .int .i64 ((rd_T62 l0_0 (ji17)).f2), .int .u8 ((rd_T62 l0_0 (ji17)).f3)] 62 (0, 0)) (by (with_reducible repeat (first | refine zB ?_ _ | refine zC ?_ | refine zA ?_ _)); exact BK120.out)) : gb126 ≠ gb120)); clear BK115; clear BK116; clear BK117; clear BK118; clear BK120; clear HB; have BK115 := n0_; have BK116 := n1_; have BK117 := n2_; have BK118 := n3_; have BK120 := n4_; have HB := n5_; have BK126 := n6_; have GW126 := n7_; have GE126 := n8_; have NB115_126 := n9_; have NB126_115 := n10_; have NB116_126 := n11_; have NB126_116 := n12_; have NB117_126 := n13_; have NB126_117 := n14_; have NB118_126 := n15_; have NB126_118 := n16_; have NB120_126 := n17_; have NB126_120 := n18_; clear n0_ n1_ n2_ n3_ n4_ n5_ n6_ n7_ n8_ n9_ n10_ n11_ n12_ n13_ n14_ n15_ n16_ n17_ n18_; clear hb hbox hg; have hnb79 := NB126_115.out; have hnc79 := NB115_126.out; have hnb80 := NB126_116.out; have hnc80 := NB116_126.out; have hnb81 := NB126_117.out; have hnc81 := NB117_126.out; have hnb82 := NB126_118.out; have hnc82 := NB118_126.out; have hnb83 := NB126_120.out; have hnc83 := NB120_126.out; have hcz84_0 : w78.cell? ⟨gb126, 0, none⟩ = some (.int .i64 0) := (zH BK126.out 0).trans rfl; have hcz84_1 : w78.cell? ⟨gb126, 1, none⟩ = some (.int .i64 0) := (zH BK126.out 1).trans rfl; have hfz84_0 := zG BK126.out 0; have hfz84_1 := zG BK126.out 1) | ((with_reducible refine gate_store (t := 65) (p := 22) rfl ?_); refine store_event (t := 65) (p := 22) (v := ?vo_w85) (w1 := ((w78.setCell ⟨gb126, 0, none⟩ (.int .i64 ((rd_T65 l4 (ji64)).f0))).setCell ⟨gb126, 1, none⟩ (.int .i64 ((rd_T65 l4 (ji64)).f1)))) ?hg ?ho ?hn ?hr ?_; (case ho => rfl); (case hg => rfl); (case hn => rfl); (case hr => first | (go_simp; done) | (go_simp; rfl)); intro w85 hw; have n0_ : zD (w85.heap[gb115]? = some (.cells #[.slice (some ad119) l0_0.length c0_0, .slice A0_1 l0_1.length c0_1] 31 (0, 0))) := ⟨(by rw [hw]; exact (by (with_reducible repeat (first | refine zB ?_ _ | refine zC ?_ | refine zA ?_ _)); refine zL ?_ NB115_126.out _; (with_reducible repeat (first | refine zB ?_ _ | refine zC ?_ | refine zA ?_ _)); refine zL ?_ NB115_126.out _; (with_reducible repeat (first | refine zB ?_ _ | refine zC ?_ | refine zA ?_ _)); exact BK115.out))⟩; have n1_ : zD (w85.heap[gb116]? = some (.cells #[.int .i64 a5_0, .int .i64 a5_1, .int .u8 a5_2, .int .i64 a5_3, .int .i64 a5_4, .float .f64 a5_5] 35 (0, 0))) := ⟨(by rw [hw]; exact (by (with_reducible repeat (first | refine zB ?_ _ | refine zC ?_ | refine zA ?_ _)); refine zL ?_ NB116_126.out _; (with_reducible repeat (first | refine zB ?_ _ | refine zC ?_ | refine zA ?_ _)); refine zL ?_ NB116_126.out _; (with_reducible repeat (first | refine zB ?_ _ | refine zC ?_ | refine zA ?_ _)); exact BK116.out))⟩; have n2_ : zD (w85.heap[gb117]? = some (.cells #[.int .i64 0, .int .i64 0] 65 (0, 0))) := ⟨(by rw [hw]; exact (by (with_reducible repeat (first | refine zB ?_ _ | refine zC ?_ | refine zA ?_ _)); refine zL ?_ NB117_126.out _; (with_reducible repeat (first | refine zB ?_ _ | refine zC ?_ | refine zA ?_ _)); refine zL ?_ NB117_126.out _; (with_reducible repeat (first | refine zB ?_ _ | refine zC ?_ | refine zA ?_ _)); exact BK117.out))⟩; have n3_ : zD (w85.heap[gb118]? = some (.cells #[.int .i64 x119000_1, .int .i64 x119001_1] 65 (0, 0))) := ⟨(by rw [hw]; exact (by (with_reducible repeat (first | refine zB ?_ _ | refine zC ?_ | refine zA ?_ _)); refine zL ?_ NB118_126.out _; (with_reducible repeat (first | refine zB ?_ _ | refine zC ?_ | refine zA ?_ _)); refine zL ?_ NB118_126.out _; (with_reducible repeat (first | refine zB ?_ _ | refine zC ?_ | refine zA ?_ _)); exact BK118.out))⟩; have n4_ : zD (w85.heap[gb120]? = some (.cells #[.int .i64 ((rd_T62 l0_0 (ji17)).f0), .int .i64 ((rd_T62 l0_0 (ji17)).f1), .int .i64 ((rd_T62 l0_0 (ji17)).f2), .int .u8 ((rd_T62 l0_0 (ji17)).f3)] 62 (0, 0))) := ⟨(by rw [hw]; exact (by (with_reducible repeat (first | refine zB ?_ _ | refine zC ?_ | refine zA ?_ _)); refine zL ?_ NB120_126.out _; (with_reducible repeat (first | refine zB ?_ _ | refine zC ?_ | refine zA ?_ _)); refine zL ?_ NB120_126.out _; (with_reducible repeat (first | refine zB ?_ _ | refine zC ?_ | refine zA ?_ _)); exact BK120.out))⟩; have n5_ : zD (w85.heap[gb126]? = some (.cells #[.int .i64 ((rd_T65 l4 (ji64)).f0), .int .i64 ((rd_T65 l4 (ji64)).f1)] 65 (0, 0))) := ⟨(by rw [hw]; exact (by (with_reducible repeat (first | refine zB ?_ _ | refine zC ?_ | refine zA ?_ _)); refine blk_put (cs := #[.int .i64 ((rd_T65 l4 (ji64)).f0), .int .i64 0]) ?_ 1 _ rfl; (with_reducible repeat (first | refine zB ?_ _ | refine zC ?_ | refine zA ?_ _)); refine blk_put (cs := #[.int .i64 0, .int .i64 0]) ?_ 0 _ rfl; (with_reducible repeat (first | refine zB ?_ _ | refine zC ?_ | refine zA ?_ _)); exact BK126.out))⟩; have n6_ : zD (Below w.heap.size w w85) := ⟨(by rw [hw]; exact (by repeat (first | (with_reducible first | exact HB.out | apply zJ | apply zF | apply zI | refine zE ?_ GE115.out | refine zE ?_ GE116.out | refine zE ?_ GE117.out | refine zE ?_ GE118.out | refine zE ?_ GE120.out | refine zE ?_ GE126.out) | exact HB.out)))⟩; clear hw; clear BK115; clear BK116; clear BK117; clear BK118; clear BK120; clear BK126; clear HB; have BK115 := n0_; have BK116 := n1_; have BK117 := n2_; have BK118 := n3_; have BK120 := n4_; have BK126 := n5_; have HB := n6_; clear n0_ n1_ n2_ n3_ n4_ n5_ n6_))
        (try simp only [Act.put, sA_, sB_, sC_])
        go_cut [86] (fun v86 wc => ∃ (kq : Nat) (x86_66 : Bool), v86 = .bool x86_66 ∧ zD (best_next.j3 kq a1 a2 a3 l4 t121 x15_40 x16_20 x17_40 x18_1 t123 x86_66 l0_0 l0_1 a5_0 a5_1 a5_2 a5_3 a5_4 a5_5 x119000_1 x119001_1 ((rd_T65 l4 (ji64)).f0) ((rd_T65 l4 (ji64)).f1) = some (r1, r2)) ∧ zD (kq ≤ kj40) ∧ zD (wc.heap[gb115]? = some (.cells #[(.slice (some ad119) l0_0.length c0_0), (.slice A0_1 l0_1.length c0_1)] 31 (0, 0))) ∧ zD (wc.heap[gb116]? = some (.cells #[.int .i64 a5_0, .int .i64 a5_1, .int .u8 a5_2, .int .i64 a5_3, .int .i64 a5_4, .float .f64 a5_5] 35 (0, 0))) ∧ zD (wc.heap[gb117]? = some (.cells #[.int .i64 0, .int .i64 0] 65 (0, 0))) ∧ zD (wc.heap[gb118]? = some (.cells #[.int .i64 x119000_1, .int .i64 x119001_1] 65 (0, 0))) ∧ zD (wc.heap[gb120]? = some (.cells #[.int .i64 ((rd_T62 l0_0 (ji17)).f0), .int .i64 ((rd_T62 l0_0 (ji17)).f1), .int .i64 ((rd_T62 l0_0 (ji17)).f2), .int .u8 ((rd_T62 l0_0 (ji17)).f3)] 62 (0, 0))) ∧ zD (wc.heap[gb126]? = some (.cells #[.int .i64 ((rd_T65 l4 (ji64)).f0), .int .i64 ((rd_T65 l4 (ji64)).f1)] 65 (0, 0))) ∧ zD (Below w.heap.size w wc))
        case first =>
          have H := HC67.out; clear HC67; by_cases c86 : t124 = true
          rotate_left
          · replace c86 := Bool.eq_false_iff.mpr c86
            subst c86; have H1 : (best_next.j3 kj40 a1 a2 a3 l4 t121 x15_40 x16_20 x17_40 x18_1 t123 true l0_0 l0_1 a5_0 a5_1 a5_2 a5_3 a5_4 a5_5 x119000_1 x119001_1 ((rd_T65 l4 (ji64)).f0) ((rd_T65 l4 (ji64)).f1)) = some (r1, r2) := by rw [if_neg (show ¬ (false = true) by decide)] at H; exact H
            clear H; have H := H1; clear H1; have H' := zD.mk H
            clear H; go_wp2
            go_meet
            case rel => exact ⟨_, (true), (by first | rfl | (simp; done) | (simp [*]; done)), H', ⟨by have := HK1.out; have := HJ20.out; have := HJ40.out; first | omega | exact Nat.le_refl _⟩, ⟨by (with_reducible repeat (first | refine zB ?_ _ | refine zC ?_ | refine zA ?_ _)); exact BK115.out⟩, ⟨by (with_reducible repeat (first | refine zB ?_ _ | refine zC ?_ | refine zA ?_ _)); exact BK116.out⟩, ⟨by (with_reducible repeat (first | refine zB ?_ _ | refine zC ?_ | refine zA ?_ _)); exact BK117.out⟩, ⟨by (with_reducible repeat (first | refine zB ?_ _ | refine zC ?_ | refine zA ?_ _)); exact BK118.out⟩, ⟨by (with_reducible repeat (first | refine zB ?_ _ | refine zC ?_ | refine zA ?_ _)); exact BK120.out⟩, ⟨by (with_reducible repeat (first | refine zB ?_ _ | refine zC ?_ | refine zA ?_ _)); exact BK126.out⟩, ⟨by repeat (first | (with_reducible first | exact HB.out | apply zJ | apply zF | apply zI | refine zE ?_ GE115.out | refine zE ?_ GE116.out | refine zE ?_ GE117.out | refine zE ?_ GE118.out | refine zE ?_ GE120.out | refine zE ?_ GE126.out) | exact HB.out)⟩⟩
          subst c86; have H1 : (if x18_1 < a3 then (best_next.j3 kj40 a1 a2 a3 l4 t121 x15_40 x16_20 x17_40 x18_1 t123 (decide (((rd_T65 l4 (ji64)).f1) < 0)) l0_0 l0_1 a5_0 a5_1 a5_2 a5_3 a5_4 a5_5 x119000_1 x119001_1 ((rd_T65 l4 (ji64)).f0) ((rd_T65 l4 (ji64)).f1)) else (best_next.j3 kj40 a1 a2 a3 l4 t121 x15_40 x16_20 x17_40 x18_1 t123 false l0_0 l0_1 a5_0 a5_1 a5_2 a5_3 a5_4 a5_5 x119000_1 x119001_1 ((rd_T65 l4 (ji64)).f0) ((rd_T65 l4 (ji64)).f1))) = some (r1, r2) := by rw [if_pos rfl] at H; exact H
          clear H; have H := H1; clear H1; by_cases c87 : x18_1 < a3
          rotate_left
          · rw [if_neg c87] at H
            have c87b0 : decide (x18_1 < a3) = false := decide_eq_false c87
            clear c87; (first | rw [c87b0] | (simp only [i64_w, i32_w]; rw [c87b0]) | skip)
            have H' := zD.mk H
            clear H; go_wp2
            go_meet
            case rel => exact ⟨_, (false), (by first | rfl | (simp; done) | (simp [*]; done)), H', ⟨by have := HK1.out; have := HJ20.out; have := HJ40.out; first | omega | exact Nat.le_refl _⟩, ⟨by (with_reducible repeat (first | refine zB ?_ _ | refine zC ?_ | refine zA ?_ _)); exact BK115.out⟩, ⟨by (with_reducible repeat (first | refine zB ?_ _ | refine zC ?_ | refine zA ?_ _)); exact BK116.out⟩, ⟨by (with_reducible repeat (first | refine zB ?_ _ | refine zC ?_ | refine zA ?_ _)); exact BK117.out⟩, ⟨by (with_reducible repeat (first | refine zB ?_ _ | refine zC ?_ | refine zA ?_ _)); exact BK118.out⟩, ⟨by (with_reducible repeat (first | refine zB ?_ _ | refine zC ?_ | refine zA ?_ _)); exact BK120.out⟩, ⟨by (with_reducible repeat (first | refine zB ?_ _ | refine zC ?_ | refine zA ?_ _)); exact BK126.out⟩, ⟨by repeat (first | (with_reducible first | exact HB.out | apply zJ | apply zF | apply zI | refine zE ?_ GE115.out | refine zE ?_ GE116.out | refine zE ?_ GE117.out | refine zE ?_ GE118.out | refine zE ?_ GE120.out | refine zE ?_ GE126.out) | exact HB.out)⟩⟩
          rw [if_pos c87] at H; have c87b0 : decide (x18_1 < a3) = true := decide_eq_true c87
          clear c87; (first | rw [c87b0] | (simp only [i64_w, i32_w]; rw [c87b0]) | skip)
          have H' := zD.mk H
          clear H; have hnb88 := NB126_115.out; have hnc88 := NB115_126.out; have hnb89 := NB126_116.out; have hnc89 := NB116_126.out; have hnb90 := NB126_117.out; have hnc90 := NB117_126.out; have hnb91 := NB126_118.out; have hnc91 := NB118_126.out; have hnb92 := NB126_120.out; have hnc92 := NB120_126.out; have hcz93_0 : w85.cell? ⟨gb126, 0, none⟩ = some (.int .i64 ((rd_T65 l4 (ji64)).f0)) := (zH BK126.out 0).trans rfl
          have hcz93_1 : w85.cell? ⟨gb126, 1, none⟩ = some (.int .i64 ((rd_T65 l4 (ji64)).f1)) := (zH BK126.out 1).trans rfl
          have hfz93_0 := zG BK126.out 0; have hfz93_1 := zG BK126.out 1; go_wp2
          go_meet
          case rel => exact ⟨_, (decide (((rd_T65 l4 (ji64)).f1) < 0)), (by first | rfl | (simp; done) | (simp only [← hji64] <;> (first | rfl | simp)) | (simp [*]; done)), H', ⟨by have := HK1.out; have := HJ20.out; have := HJ40.out; first | omega | exact Nat.le_refl _⟩, ⟨by (with_reducible repeat (first | refine zB ?_ _ | refine zC ?_ | refine zA ?_ _)); exact BK115.out⟩, ⟨by (with_reducible repeat (first | refine zB ?_ _ | refine zC ?_ | refine zA ?_ _)); exact BK116.out⟩, ⟨by (with_reducible repeat (first | refine zB ?_ _ | refine zC ?_ | refine zA ?_ _)); exact BK117.out⟩, ⟨by (with_reducible repeat (first | refine zB ?_ _ | refine zC ?_ | refine zA ?_ _)); exact BK118.out⟩, ⟨by (with_reducible repeat (first | refine zB ?_ _ | refine zC ?_ | refine zA ?_ _)); exact BK120.out⟩, ⟨by (with_reducible repeat (first | refine zB ?_ _ | refine zC ?_ | refine zA ?_ _)); exact BK126.out⟩, ⟨by repeat (first | (with_reducible first | exact HB.out | apply zJ | apply zF | apply zI | refine zE ?_ GE115.out | refine zE ?_ GE116.out | refine zE ?_ GE117.out | refine zE ?_ GE118.out | refine zE ?_ GE120.out | refine zE ?_ GE126.out) | exact HB.out)⟩⟩
        clear HC67; try clear c1
        try clear p1
        try clear q1
        try clear hx1
        try clear c2
        try clear p2
        try clear c3
        try clear c4
        try clear c5
        try clear c6
        try clear p6
        try clear c7
        try clear c8
        try clear c9
        try clear c11
        try clear p11
        try clear q11
        try clear hx11
        try clear c12
        try clear p12
        try clear q12
        try clear hx12
        try clear c13
        try clear c16
        try clear c16b0
        try clear c18
        try clear c18b0
        try clear c19
        try clear c19b0
        try clear c22
        try clear c23
        try clear c24
        try clear c27
        try clear c28
        try clear c29
        try clear c30
        try clear c34
        try clear c35
        try clear c37
        try clear c38
        try clear c39
        try clear c39b0
        try clear c39b1
        try clear c42
        try clear c43
        try clear c44
        try clear c45
        try clear c48
        try clear c48b0
        try clear c48b1
        try clear c49
        try clear c49b0
        try clear c50
        try clear c51
        try clear c52
        try clear c53
        try clear c55
        try clear c56
        try clear c57
        try clear c59
        try clear c60
        try clear p64
        try clear c65
        try clear c65b0
        try clear c66
        try clear c66b0
        try clear c68
        try clear c69
        try clear c70
        try clear c71
        try clear c73
        try clear c74
        try clear c75
        try clear c79
        try clear c80
        try clear c81
        try clear c82
        try clear c83
        try clear c86
        try clear c87
        try clear c87b0
        try clear c88
        try clear c89
        try clear c90
        try clear c91
        try clear c92
        try clear hcz14_0
        try clear hcz14_1
        try clear hcz25_0
        try clear hcz25_1
        try clear hcz31_0
        try clear hcz31_1
        try clear hcz31_2
        try clear hcz31_3
        try clear hcz33_0
        try clear hcz33_1
        try clear hcz33_2
        try clear hcz33_3
        try clear hcz36_0
        try clear hcz36_1
        try clear hcz36_2
        try clear hcz36_3
        try clear hcz36_4
        try clear hcz36_5
        try clear hcz38_0
        try clear hcz38_1
        try clear hcz38_2
        try clear hcz38_3
        try clear hcz46_0
        try clear hcz46_1
        try clear hcz54_0
        try clear hcz54_1
        try clear hcz54_2
        try clear hcz54_3
        try clear hcz54_4
        try clear hcz54_5
        try clear hcz58_0
        try clear hcz58_1
        try clear hcz61_0
        try clear hcz61_1
        try clear hcz72_0
        try clear hcz72_1
        try clear hcz72_2
        try clear hcz72_3
        try clear hcz72_4
        try clear hcz72_5
        try clear hcz76_0
        try clear hcz76_1
        try clear hcz84_0
        try clear hcz84_1
        try clear hcz93_0
        try clear hcz93_1
        try clear hfz14_0
        try clear hfz14_1
        try clear hfz25_0
        try clear hfz25_1
        try clear hfz31_0
        try clear hfz31_1
        try clear hfz31_2
        try clear hfz31_3
        try clear hfz33_0
        try clear hfz33_1
        try clear hfz33_2
        try clear hfz33_3
        try clear hfz36_0
        try clear hfz36_1
        try clear hfz36_2
        try clear hfz36_3
        try clear hfz36_4
        try clear hfz36_5
        try clear hfz38_0
        try clear hfz38_1
        try clear hfz38_2
        try clear hfz38_3
        try clear hfz46_0
        try clear hfz46_1
        try clear hfz54_0
        try clear hfz54_1
        try clear hfz54_2
        try clear hfz54_3
        try clear hfz54_4
        try clear hfz54_5
        try clear hfz58_0
        try clear hfz58_1
        try clear hfz61_0
        try clear hfz61_1
        try clear hfz72_0
        try clear hfz72_1
        try clear hfz72_2
        try clear hfz72_3
        try clear hfz72_4
        try clear hfz72_5
        try clear hfz76_0
        try clear hfz76_1
        try clear hfz84_0
        try clear hfz84_1
        try clear hfz93_0
        try clear hfz93_1
        try clear hx119_0
        try clear hx119_1
        try clear hx119_2
        try clear hx119_3
        try clear hx125_0
        try clear hx125_1
        try clear p1
        try clear p11
        try clear p119
        try clear p125
        try clear p2
        try clear p6
        try clear q1
        try clear q11
        try clear q119
        try clear q125
        obtain ⟨kq, x86_66, rfl, HA, HJ66, BK115, BK116, BK117, BK118, BK120, BK126, HB⟩ := hcut; cases kq with
        | zero => exact absurd HA.out (by simp [best_next.j3])
        | succ kj66 =>
          have H := HA.out; clear HA; simp only [best_next.j3] at H; by_cases c94 : x86_66 = true
          · subst c94
            have H1 : (best_next.l0 kj66 a1 a2 a3 l4 t121 x15_40 x16_20 x17_40 (wrap64 (x18_1 + 1)) l0_0 l0_1 a5_0 a5_1 a5_2 a5_3 a5_4 a5_5 x119000_1 x119001_1) = some (r1, r2) := by rw [if_pos rfl] at H; exact H
            clear H; have H := H1; clear H1; have H' := zD.mk H
            clear H; go_wp2
            go_roundg kj66
            case measure => have := HK1.out; have := HJ20.out; have := HJ40.out; have := HJ66.out; omega
            case rel => exact ⟨(t121), (x15_40), (x16_20), (x17_40), (wrap64 (x18_1 + 1)), (x119000_1), (x119001_1), (by first | rfl | (simp; done) | (simp [*]; done)), (by first | rfl | (simp; done) | (simp [*]; done)), (by first | rfl | (simp; done) | (simp [*]; done)), (by first | rfl | (simp; done) | (simp [*]; done)), (by first | rfl | (simp; done) | (simp [*]; done)), H', ⟨by have := HK1.out; have := HJ20.out; have := HJ40.out; have := HJ66.out; omega⟩, ⟨by (with_reducible repeat (first | refine zB ?_ _ | refine zC ?_ | refine zA ?_ _)); exact BK115.out⟩, ⟨by (with_reducible repeat (first | refine zB ?_ _ | refine zC ?_ | refine zA ?_ _)); exact BK116.out⟩, ⟨by (with_reducible repeat (first | refine zB ?_ _ | refine zC ?_ | refine zA ?_ _)); exact BK117.out⟩, ⟨by (with_reducible repeat (first | refine zB ?_ _ | refine zC ?_ | refine zA ?_ _)); exact BK118.out⟩, ⟨by repeat (first | (with_reducible first | exact HB.out | apply zJ | apply zF | apply zI | refine zE ?_ GE115.out | refine zE ?_ GE116.out | refine zE ?_ GE117.out | refine zE ?_ GE118.out | refine zE ?_ GE120.out | refine zE ?_ GE126.out) | exact HB.out)⟩⟩
          replace c94 := Bool.eq_false_iff.mpr c94; subst c94; have H1 : (if t123 = 3 then ((best_price.f kj66 l0_0 l0_1 a1 t123 (wrap64 (x15_40 + 1)) x17_40 (x18_1 == a3) a5_0 a5_1 a5_2 a5_3 a5_4 a5_5).bind fun bt127 => (if bt127.2 = true then (if x119001_1 < 0 then (best_next.l0 kj66 a1 a2 a3 l4 t121 x15_40 x16_20 x17_40 (wrap64 (x18_1 + 1)) l0_0 l0_1 a5_0 a5_1 a5_2 a5_3 a5_4 a5_5 (wrap64 (bt127.1 + ((rd_T65 l4 (ji64)).f0))) x18_1) else (if (wrap64 (bt127.1 + ((rd_T65 l4 (ji64)).f0))) < x119000_1 then (best_next.l0 kj66 a1 a2 a3 l4 t121 x15_40 x16_20 x17_40 (wrap64 (x18_1 + 1)) l0_0 l0_1 a5_0 a5_1 a5_2 a5_3 a5_4 a5_5 (wrap64 (bt127.1 + ((rd_T65 l4 (ji64)).f0))) x18_1) else (best_next.l0 kj66 a1 a2 a3 l4 t121 x15_40 x16_20 x17_40 (wrap64 (x18_1 + 1)) l0_0 l0_1 a5_0 a5_1 a5_2 a5_3 a5_4 a5_5 x119000_1 x119001_1))) else (best_next.l0 kj66 a1 a2 a3 l4 t121 x15_40 x16_20 x17_40 (wrap64 (x18_1 + 1)) l0_0 l0_1 a5_0 a5_1 a5_2 a5_3 a5_4 a5_5 x119000_1 x119001_1))) else ((best_price.f kj66 l0_0 l0_1 a1 t123 x15_40 x17_40 (x18_1 == a3) a5_0 a5_1 a5_2 a5_3 a5_4 a5_5).bind fun bt129 => (if bt129.2 = true then (if x119001_1 < 0 then (best_next.l0 kj66 a1 a2 a3 l4 t121 x15_40 x16_20 x17_40 (wrap64 (x18_1 + 1)) l0_0 l0_1 a5_0 a5_1 a5_2 a5_3 a5_4 a5_5 (wrap64 (bt129.1 + ((rd_T65 l4 (ji64)).f0))) x18_1) else (if (wrap64 (bt129.1 + ((rd_T65 l4 (ji64)).f0))) < x119000_1 then (best_next.l0 kj66 a1 a2 a3 l4 t121 x15_40 x16_20 x17_40 (wrap64 (x18_1 + 1)) l0_0 l0_1 a5_0 a5_1 a5_2 a5_3 a5_4 a5_5 (wrap64 (bt129.1 + ((rd_T65 l4 (ji64)).f0))) x18_1) else (best_next.l0 kj66 a1 a2 a3 l4 t121 x15_40 x16_20 x17_40 (wrap64 (x18_1 + 1)) l0_0 l0_1 a5_0 a5_1 a5_2 a5_3 a5_4 a5_5 x119000_1 x119001_1))) else (best_next.l0 kj66 a1 a2 a3 l4 t121 x15_40 x16_20 x17_40 (wrap64 (x18_1 + 1)) l0_0 l0_1 a5_0 a5_1 a5_2 a5_3 a5_4 a5_5 x119000_1 x119001_1)))) = some (r1, r2) := by rw [if_neg (show ¬ (false = true) by decide)] at H; exact H
          clear H; have H := H1; clear H1; by_cases c95 : t123 = 3
          rotate_left
          · rw [if_neg c95] at H
            have c95b0 : (t123 == 3) = false := beq_eq_false_iff_ne.mpr c95
            have c95b1 : (t123 != 3) = true := bne_iff_ne.mpr c95
            replace H := Option.bind_eq_some_iff.mp H; obtain ⟨⟨t129, t130⟩, A1710, H⟩ := H; replace H : (if t130 = true then (if x119001_1 < 0 then (best_next.l0 kj66 a1 a2 a3 l4 t121 x15_40 x16_20 x17_40 (wrap64 (x18_1 + 1)) l0_0 l0_1 a5_0 a5_1 a5_2 a5_3 a5_4 a5_5 (wrap64 (t129 + ((rd_T65 l4 (ji64)).f0))) x18_1) else (if (wrap64 (t129 + ((rd_T65 l4 (ji64)).f0))) < x119000_1 then (best_next.l0 kj66 a1 a2 a3 l4 t121 x15_40 x16_20 x17_40 (wrap64 (x18_1 + 1)) l0_0 l0_1 a5_0 a5_1 a5_2 a5_3 a5_4 a5_5 (wrap64 (t129 + ((rd_T65 l4 (ji64)).f0))) x18_1) else (best_next.l0 kj66 a1 a2 a3 l4 t121 x15_40 x16_20 x17_40 (wrap64 (x18_1 + 1)) l0_0 l0_1 a5_0 a5_1 a5_2 a5_3 a5_4 a5_5 x119000_1 x119001_1))) else (best_next.l0 kj66 a1 a2 a3 l4 t121 x15_40 x16_20 x17_40 (wrap64 (x18_1 + 1)) l0_0 l0_1 a5_0 a5_1 a5_2 a5_3 a5_4 a5_5 x119000_1 x119001_1)) = some (r1, r2) := H; have A171 := zD.mk A1710; clear A1710; by_cases c172 : t130 = true
            rotate_left
            · replace c172 := Bool.eq_false_iff.mpr c172
              subst c172; have H1 : (best_next.l0 kj66 a1 a2 a3 l4 t121 x15_40 x16_20 x17_40 (wrap64 (x18_1 + 1)) l0_0 l0_1 a5_0 a5_1 a5_2 a5_3 a5_4 a5_5 x119000_1 x119001_1) = some (r1, r2) := by rw [if_neg (show ¬ (false = true) by decide)] at H; exact H
              clear H; have H := H1; clear H1; have H' := zD.mk H
              clear H; have hnb234 := NB115_116.out; have hnc234 := NB116_115.out; have hnb235 := NB115_117.out; have hnc235 := NB117_115.out; have hnb236 := NB115_118.out; have hnc236 := NB118_115.out; have hnb237 := NB115_120.out; have hnc237 := NB120_115.out; have hnb238 := NB115_126.out; have hnc238 := NB126_115.out; have hcz239_0 : wc.cell? ⟨gb115, 0, none⟩ = some (.slice (some ad119) l0_0.length c0_0) := (zH BK115.out 0).trans rfl
              have hcz239_1 : wc.cell? ⟨gb115, 1, none⟩ = some (.slice A0_1 l0_1.length c0_1) := (zH BK115.out 1).trans rfl
              have hfz239_0 := zG BK115.out 0; have hfz239_1 := zG BK115.out 1; have hnb240 := NB116_117.out; have hnc240 := NB117_116.out; have hnb241 := NB116_118.out; have hnc241 := NB118_116.out; have hnb242 := NB116_120.out; have hnc242 := NB120_116.out; have hnb243 := NB116_126.out; have hnc243 := NB126_116.out; have hcz244_0 : wc.cell? ⟨gb116, 0, none⟩ = some (.int .i64 a5_0) := (zH BK116.out 0).trans rfl
              have hcz244_1 : wc.cell? ⟨gb116, 1, none⟩ = some (.int .i64 a5_1) := (zH BK116.out 1).trans rfl
              have hcz244_2 : wc.cell? ⟨gb116, 2, none⟩ = some (.int .u8 a5_2) := (zH BK116.out 2).trans rfl
              have hcz244_3 : wc.cell? ⟨gb116, 3, none⟩ = some (.int .i64 a5_3) := (zH BK116.out 3).trans rfl
              have hcz244_4 : wc.cell? ⟨gb116, 4, none⟩ = some (.int .i64 a5_4) := (zH BK116.out 4).trans rfl
              have hcz244_5 : wc.cell? ⟨gb116, 5, none⟩ = some (.float .f64 a5_5) := (zH BK116.out 5).trans rfl
              have hfz244_0 := zG BK116.out 0; have hfz244_1 := zG BK116.out 1; have hfz244_2 := zG BK116.out 2; have hfz244_3 := zG BK116.out 3; have hfz244_4 := zG BK116.out 4; have hfz244_5 := zG BK116.out 5; go_wp2_with (first | ((with_reducible refine gate_callee (f := 31) rfl ?_); refine goesL_ (some 102) rfl rfl Try.func31 (by kernel_rfl) rfl #[.agg #[.slice (some ad119) l0_0.length c0_0, .slice A0_1 l0_1.length c0_1], .int .i64 a1, .int .u8 t123, .int .i64 x15_40, .int .i64 x17_40, .bool (x18_1 == a3), .agg #[.int .i64 a5_0, .int .i64 a5_1, .int .u8 a5_2, .int .i64 a5_3, .int .i64 a5_4, .float .f64 a5_5]] rfl (by (try simp only [List.map_toArray, List.map_cons, List.map_nil]); first | done | rfl | (simp only [List.length_drop, List.length_take]; rfl)) ?_; (with_reducible refine (best_price.calls kj66 _ _ l0_0 _ _ l0_1 a1 t123 x15_40 x17_40 (x18_1 == a3) a5_0 a5_1 a5_2 a5_3 a5_4 a5_5 t129 false _ ?side1 ?side2 ?side3 ?side4 A171.out).mono ?_); (case side1 => repeat (first | exact (Kd.C_below HR0_0.out HB.out) | (with_reducible refine Kd.C_alloc ?_ _) | (with_reducible refine Kd.C_drewN ?_ _) | (with_reducible refine Kd.C_drew ?_))); (case side2 => exact HC0_0.out); (case side3 => repeat (first | exact (Kd.C_below HR0_1.out HB.out) | (with_reducible refine Kd.C_alloc ?_ _) | (with_reducible refine Kd.C_drewN ?_ _) | (with_reducible refine Kd.C_drew ?_))); (case side4 => exact HC0_1.out); rintro e w245 ⟨rfl, hb⟩; refine ⟨_, rfl, ?_⟩; have n0_ := zD.mk (zK (g := gb115) (o := .cells #[.slice (some ad119) l0_0.length c0_0, .slice A0_1 l0_1.length c0_1] 31 (0, 0)) (by (with_reducible repeat (first | refine zB ?_ _ | refine zC ?_ | refine zA ?_ _)); exact BK115.out) hb); have n1_ := zD.mk (zK (g := gb116) (o := .cells #[.int .i64 a5_0, .int .i64 a5_1, .int .u8 a5_2, .int .i64 a5_3, .int .i64 a5_4, .float .f64 a5_5] 35 (0, 0)) (by (with_reducible repeat (first | refine zB ?_ _ | refine zC ?_ | refine zA ?_ _)); exact BK116.out) hb); have n2_ := zD.mk (zK (g := gb117) (o := .cells #[.int .i64 0, .int .i64 0] 65 (0, 0)) (by (with_reducible repeat (first | refine zB ?_ _ | refine zC ?_ | refine zA ?_ _)); exact BK117.out) hb); have n3_ := zD.mk (zK (g := gb118) (o := .cells #[.int .i64 x119000_1, .int .i64 x119001_1] 65 (0, 0)) (by (with_reducible repeat (first | refine zB ?_ _ | refine zC ?_ | refine zA ?_ _)); exact BK118.out) hb); have n4_ := zD.mk (zK (g := gb120) (o := .cells #[.int .i64 ((rd_T62 l0_0 (ji17)).f0), .int .i64 ((rd_T62 l0_0 (ji17)).f1), .int .i64 ((rd_T62 l0_0 (ji17)).f2), .int .u8 ((rd_T62 l0_0 (ji17)).f3)] 62 (0, 0)) (by (with_reducible repeat (first | refine zB ?_ _ | refine zC ?_ | refine zA ?_ _)); exact BK120.out) hb); have n5_ := zD.mk (zK (g := gb126) (o := .cells #[.int .i64 ((rd_T65 l4 (ji64)).f0), .int .i64 ((rd_T65 l4 (ji64)).f1)] 65 (0, 0)) (by (with_reducible repeat (first | refine zB ?_ _ | refine zC ?_ | refine zA ?_ _)); exact BK126.out) hb); have n6_ := zD.mk (below_step (by repeat (first | (with_reducible first | exact HB.out | apply zJ | apply zF | apply zI | refine zE ?_ GE115.out | refine zE ?_ GE116.out | refine zE ?_ GE117.out | refine zE ?_ GE118.out | refine zE ?_ GE120.out | refine zE ?_ GE126.out) | exact HB.out)) hb); clear BK115; clear BK116; clear BK117; clear BK118; clear BK120; clear BK126; clear HB; have BK115 := n0_; have BK116 := n1_; have BK117 := n2_; have BK118 := n3_; have BK120 := n4_; have BK126 := n5_; have HB := n6_; clear n0_ n1_ n2_ n3_ n4_ n5_ n6_; (try clear hb); (try clear hb2); (try clear hk); (try clear hi)))
              go_roundg kj66
              case measure => have := HK1.out; have := HJ20.out; have := HJ40.out; have := HJ66.out; omega
              case rel => exact ⟨(t121), (x15_40), (x16_20), (x17_40), (wrap64 (x18_1 + 1)), (x119000_1), (x119001_1), (by first | rfl | (simp; done) | (simp [*]; done)), (by first | rfl | (simp; done) | (simp [*]; done)), (by first | rfl | (simp; done) | (simp [*]; done)), (by first | rfl | (simp; done) | (simp [*]; done)), (by first | rfl | (simp; done) | (simp [*]; done)), H', ⟨by have := HK1.out; have := HJ20.out; have := HJ40.out; have := HJ66.out; omega⟩, ⟨by (with_reducible repeat (first | refine zB ?_ _ | refine zC ?_ | refine zA ?_ _)); exact BK115.out⟩, ⟨by (with_reducible repeat (first | refine zB ?_ _ | refine zC ?_ | refine zA ?_ _)); exact BK116.out⟩, ⟨by (with_reducible repeat (first | refine zB ?_ _ | refine zC ?_ | refine zA ?_ _)); exact BK117.out⟩, ⟨by (with_reducible repeat (first | refine zB ?_ _ | refine zC ?_ | refine zA ?_ _)); exact BK118.out⟩, ⟨by repeat (first | (with_reducible first | exact HB.out | apply zJ | apply zF | apply zI | refine zE ?_ GE115.out | refine zE ?_ GE116.out | refine zE ?_ GE117.out | refine zE ?_ GE118.out | refine zE ?_ GE120.out | refine zE ?_ GE126.out) | exact HB.out)⟩⟩
            subst c172; have H1 : (if x119001_1 < 0 then (best_next.l0 kj66 a1 a2 a3 l4 t121 x15_40 x16_20 x17_40 (wrap64 (x18_1 + 1)) l0_0 l0_1 a5_0 a5_1 a5_2 a5_3 a5_4 a5_5 (wrap64 (t129 + ((rd_T65 l4 (ji64)).f0))) x18_1) else (if (wrap64 (t129 + ((rd_T65 l4 (ji64)).f0))) < x119000_1 then (best_next.l0 kj66 a1 a2 a3 l4 t121 x15_40 x16_20 x17_40 (wrap64 (x18_1 + 1)) l0_0 l0_1 a5_0 a5_1 a5_2 a5_3 a5_4 a5_5 (wrap64 (t129 + ((rd_T65 l4 (ji64)).f0))) x18_1) else (best_next.l0 kj66 a1 a2 a3 l4 t121 x15_40 x16_20 x17_40 (wrap64 (x18_1 + 1)) l0_0 l0_1 a5_0 a5_1 a5_2 a5_3 a5_4 a5_5 x119000_1 x119001_1))) = some (r1, r2) := by rw [if_pos rfl] at H; exact H
            clear H; have H := H1; clear H1; by_cases c173 : x119001_1 < 0
            · rw [if_pos c173] at H
              have c173b0 : decide (x119001_1 < 0) = true := decide_eq_true c173
              clear c173; have H' := zD.mk H
              clear H; have hnb174 := NB115_116.out; have hnc174 := NB116_115.out; have hnb175 := NB115_117.out; have hnc175 := NB117_115.out; have hnb176 := NB115_118.out; have hnc176 := NB118_115.out; have hnb177 := NB115_120.out; have hnc177 := NB120_115.out; have hnb178 := NB115_126.out; have hnc178 := NB126_115.out; have hcz179_0 : wc.cell? ⟨gb115, 0, none⟩ = some (.slice (some ad119) l0_0.length c0_0) := (zH BK115.out 0).trans rfl
              have hcz179_1 : wc.cell? ⟨gb115, 1, none⟩ = some (.slice A0_1 l0_1.length c0_1) := (zH BK115.out 1).trans rfl
              have hfz179_0 := zG BK115.out 0; have hfz179_1 := zG BK115.out 1; have hnb180 := NB116_117.out; have hnc180 := NB117_116.out; have hnb181 := NB116_118.out; have hnc181 := NB118_116.out; have hnb182 := NB116_120.out; have hnc182 := NB120_116.out; have hnb183 := NB116_126.out; have hnc183 := NB126_116.out; have hcz184_0 : wc.cell? ⟨gb116, 0, none⟩ = some (.int .i64 a5_0) := (zH BK116.out 0).trans rfl
              have hcz184_1 : wc.cell? ⟨gb116, 1, none⟩ = some (.int .i64 a5_1) := (zH BK116.out 1).trans rfl
              have hcz184_2 : wc.cell? ⟨gb116, 2, none⟩ = some (.int .u8 a5_2) := (zH BK116.out 2).trans rfl
              have hcz184_3 : wc.cell? ⟨gb116, 3, none⟩ = some (.int .i64 a5_3) := (zH BK116.out 3).trans rfl
              have hcz184_4 : wc.cell? ⟨gb116, 4, none⟩ = some (.int .i64 a5_4) := (zH BK116.out 4).trans rfl
              have hcz184_5 : wc.cell? ⟨gb116, 5, none⟩ = some (.float .f64 a5_5) := (zH BK116.out 5).trans rfl
              have hfz184_0 := zG BK116.out 0; have hfz184_1 := zG BK116.out 1; have hfz184_2 := zG BK116.out 2; have hfz184_3 := zG BK116.out 3; have hfz184_4 := zG BK116.out 4; have hfz184_5 := zG BK116.out 5; go_wp2_with (first | ((with_reducible refine gate_callee (f := 31) rfl ?_); refine goesL_ (some 102) rfl rfl Try.func31 (by kernel_rfl) rfl #[.agg #[.slice (some ad119) l0_0.length c0_0, .slice A0_1 l0_1.length c0_1], .int .i64 a1, .int .u8 t123, .int .i64 x15_40, .int .i64 x17_40, .bool (x18_1 == a3), .agg #[.int .i64 a5_0, .int .i64 a5_1, .int .u8 a5_2, .int .i64 a5_3, .int .i64 a5_4, .float .f64 a5_5]] rfl (by (try simp only [List.map_toArray, List.map_cons, List.map_nil]); first | done | rfl | (simp only [List.length_drop, List.length_take]; rfl)) ?_; (with_reducible refine (best_price.calls kj66 _ _ l0_0 _ _ l0_1 a1 t123 x15_40 x17_40 (x18_1 == a3) a5_0 a5_1 a5_2 a5_3 a5_4 a5_5 t129 true _ ?side1 ?side2 ?side3 ?side4 A171.out).mono ?_); (case side1 => repeat (first | exact (Kd.C_below HR0_0.out HB.out) | (with_reducible refine Kd.C_alloc ?_ _) | (with_reducible refine Kd.C_drewN ?_ _) | (with_reducible refine Kd.C_drew ?_))); (case side2 => exact HC0_0.out); (case side3 => repeat (first | exact (Kd.C_below HR0_1.out HB.out) | (with_reducible refine Kd.C_alloc ?_ _) | (with_reducible refine Kd.C_drewN ?_ _) | (with_reducible refine Kd.C_drew ?_))); (case side4 => exact HC0_1.out); rintro e w185 ⟨rfl, hb⟩; refine ⟨_, rfl, ?_⟩; have n0_ := zD.mk (zK (g := gb115) (o := .cells #[.slice (some ad119) l0_0.length c0_0, .slice A0_1 l0_1.length c0_1] 31 (0, 0)) (by (with_reducible repeat (first | refine zB ?_ _ | refine zC ?_ | refine zA ?_ _)); exact BK115.out) hb); have n1_ := zD.mk (zK (g := gb116) (o := .cells #[.int .i64 a5_0, .int .i64 a5_1, .int .u8 a5_2, .int .i64 a5_3, .int .i64 a5_4, .float .f64 a5_5] 35 (0, 0)) (by (with_reducible repeat (first | refine zB ?_ _ | refine zC ?_ | refine zA ?_ _)); exact BK116.out) hb); have n2_ := zD.mk (zK (g := gb117) (o := .cells #[.int .i64 0, .int .i64 0] 65 (0, 0)) (by (with_reducible repeat (first | refine zB ?_ _ | refine zC ?_ | refine zA ?_ _)); exact BK117.out) hb); have n3_ := zD.mk (zK (g := gb118) (o := .cells #[.int .i64 x119000_1, .int .i64 x119001_1] 65 (0, 0)) (by (with_reducible repeat (first | refine zB ?_ _ | refine zC ?_ | refine zA ?_ _)); exact BK118.out) hb); have n4_ := zD.mk (zK (g := gb120) (o := .cells #[.int .i64 ((rd_T62 l0_0 (ji17)).f0), .int .i64 ((rd_T62 l0_0 (ji17)).f1), .int .i64 ((rd_T62 l0_0 (ji17)).f2), .int .u8 ((rd_T62 l0_0 (ji17)).f3)] 62 (0, 0)) (by (with_reducible repeat (first | refine zB ?_ _ | refine zC ?_ | refine zA ?_ _)); exact BK120.out) hb); have n5_ := zD.mk (zK (g := gb126) (o := .cells #[.int .i64 ((rd_T65 l4 (ji64)).f0), .int .i64 ((rd_T65 l4 (ji64)).f1)] 65 (0, 0)) (by (with_reducible repeat (first | refine zB ?_ _ | refine zC ?_ | refine zA ?_ _)); exact BK126.out) hb); have n6_ := zD.mk (below_step (by repeat (first | (with_reducible first | exact HB.out | apply zJ | apply zF | apply zI | refine zE ?_ GE115.out | refine zE ?_ GE116.out | refine zE ?_ GE117.out | refine zE ?_ GE118.out | refine zE ?_ GE120.out | refine zE ?_ GE126.out) | exact HB.out)) hb); clear BK115; clear BK116; clear BK117; clear BK118; clear BK120; clear BK126; clear HB; have BK115 := n0_; have BK116 := n1_; have BK117 := n2_; have BK118 := n3_; have BK120 := n4_; have BK126 := n5_; have HB := n6_; clear n0_ n1_ n2_ n3_ n4_ n5_ n6_; (try clear hb); (try clear hb2); (try clear hk); (try clear hi); have hnb186 := NB118_117.out; have hnc186 := NB117_118.out; have hnb187 := NB118_120.out; have hnc187 := NB120_118.out; have hnb188 := NB118_126.out; have hnc188 := NB126_118.out; have hcz189_0 : w185.cell? ⟨gb118, 0, none⟩ = some (.int .i64 x119000_1) := (zH BK118.out 0).trans rfl; have hcz189_1 : w185.cell? ⟨gb118, 1, none⟩ = some (.int .i64 x119001_1) := (zH BK118.out 1).trans rfl; have hfz189_0 := zG BK118.out 0; have hfz189_1 := zG BK118.out 1; have hnb190 := NB126_117.out; have hnc190 := NB117_126.out; have hnb191 := NB126_120.out; have hnc191 := NB120_126.out; have hcz192_0 : w185.cell? ⟨gb126, 0, none⟩ = some (.int .i64 ((rd_T65 l4 (ji64)).f0)) := (zH BK126.out 0).trans rfl; have hcz192_1 : w185.cell? ⟨gb126, 1, none⟩ = some (.int .i64 ((rd_T65 l4 (ji64)).f1)) := (zH BK126.out 1).trans rfl; have hfz192_0 := zG BK126.out 0; have hfz192_1 := zG BK126.out 1) | ((with_reducible refine gate_store (t := 65) (p := 13) rfl ?_); refine store_event (t := 65) (p := 13) (v := ?vo_w193) (w1 := ((w185.setCell ⟨gb118, 0, none⟩ (.int .i64 (wrap64 (t129 + ((rd_T65 l4 (ji64)).f0))))).setCell ⟨gb118, 1, none⟩ (.int .i64 x18_1))) ?hg ?ho ?hn ?hr ?_; (case ho => rfl); (case hg => rfl); (case hn => rfl); (case hr => first | (go_simp; done) | (go_simp; rfl)); intro w193 hw; have n0_ : zD (w193.heap[gb115]? = some (.cells #[.slice (some ad119) l0_0.length c0_0, .slice A0_1 l0_1.length c0_1] 31 (0, 0))) := ⟨(by rw [hw]; exact (by (with_reducible repeat (first | refine zB ?_ _ | refine zC ?_ | refine zA ?_ _)); refine zL ?_ NB115_118.out _; (with_reducible repeat (first | refine zB ?_ _ | refine zC ?_ | refine zA ?_ _)); refine zL ?_ NB115_118.out _; (with_reducible repeat (first | refine zB ?_ _ | refine zC ?_ | refine zA ?_ _)); exact BK115.out))⟩; have n1_ : zD (w193.heap[gb116]? = some (.cells #[.int .i64 a5_0, .int .i64 a5_1, .int .u8 a5_2, .int .i64 a5_3, .int .i64 a5_4, .float .f64 a5_5] 35 (0, 0))) := ⟨(by rw [hw]; exact (by (with_reducible repeat (first | refine zB ?_ _ | refine zC ?_ | refine zA ?_ _)); refine zL ?_ NB116_118.out _; (with_reducible repeat (first | refine zB ?_ _ | refine zC ?_ | refine zA ?_ _)); refine zL ?_ NB116_118.out _; (with_reducible repeat (first | refine zB ?_ _ | refine zC ?_ | refine zA ?_ _)); exact BK116.out))⟩; have n2_ : zD (w193.heap[gb117]? = some (.cells #[.int .i64 0, .int .i64 0] 65 (0, 0))) := ⟨(by rw [hw]; exact (by (with_reducible repeat (first | refine zB ?_ _ | refine zC ?_ | refine zA ?_ _)); refine zL ?_ NB117_118.out _; (with_reducible repeat (first | refine zB ?_ _ | refine zC ?_ | refine zA ?_ _)); refine zL ?_ NB117_118.out _; (with_reducible repeat (first | refine zB ?_ _ | refine zC ?_ | refine zA ?_ _)); exact BK117.out))⟩; have n3_ : zD (w193.heap[gb118]? = some (.cells #[.int .i64 (wrap64 (t129 + ((rd_T65 l4 (ji64)).f0))), .int .i64 x18_1] 65 (0, 0))) := ⟨(by rw [hw]; exact (by (with_reducible repeat (first | refine zB ?_ _ | refine zC ?_ | refine zA ?_ _)); refine blk_put (cs := #[.int .i64 (wrap64 (t129 + ((rd_T65 l4 (ji64)).f0))), .int .i64 x119001_1]) ?_ 1 _ rfl; (with_reducible repeat (first | refine zB ?_ _ | refine zC ?_ | refine zA ?_ _)); refine blk_put (cs := #[.int .i64 x119000_1, .int .i64 x119001_1]) ?_ 0 _ rfl; (with_reducible repeat (first | refine zB ?_ _ | refine zC ?_ | refine zA ?_ _)); exact BK118.out))⟩; have n4_ : zD (w193.heap[gb120]? = some (.cells #[.int .i64 ((rd_T62 l0_0 (ji17)).f0), .int .i64 ((rd_T62 l0_0 (ji17)).f1), .int .i64 ((rd_T62 l0_0 (ji17)).f2), .int .u8 ((rd_T62 l0_0 (ji17)).f3)] 62 (0, 0))) := ⟨(by rw [hw]; exact (by (with_reducible repeat (first | refine zB ?_ _ | refine zC ?_ | refine zA ?_ _)); refine zL ?_ NB120_118.out _; (with_reducible repeat (first | refine zB ?_ _ | refine zC ?_ | refine zA ?_ _)); refine zL ?_ NB120_118.out _; (with_reducible repeat (first | refine zB ?_ _ | refine zC ?_ | refine zA ?_ _)); exact BK120.out))⟩; have n5_ : zD (w193.heap[gb126]? = some (.cells #[.int .i64 ((rd_T65 l4 (ji64)).f0), .int .i64 ((rd_T65 l4 (ji64)).f1)] 65 (0, 0))) := ⟨(by rw [hw]; exact (by (with_reducible repeat (first | refine zB ?_ _ | refine zC ?_ | refine zA ?_ _)); refine zL ?_ NB126_118.out _; (with_reducible repeat (first | refine zB ?_ _ | refine zC ?_ | refine zA ?_ _)); refine zL ?_ NB126_118.out _; (with_reducible repeat (first | refine zB ?_ _ | refine zC ?_ | refine zA ?_ _)); exact BK126.out))⟩; have n6_ : zD (Below w.heap.size w w193) := ⟨(by rw [hw]; exact (by repeat (first | (with_reducible first | exact HB.out | apply zJ | apply zF | apply zI | refine zE ?_ GE115.out | refine zE ?_ GE116.out | refine zE ?_ GE117.out | refine zE ?_ GE118.out | refine zE ?_ GE120.out | refine zE ?_ GE126.out) | exact HB.out)))⟩; clear hw; clear BK115; clear BK116; clear BK117; clear BK118; clear BK120; clear BK126; clear HB; have BK115 := n0_; have BK116 := n1_; have BK117 := n2_; have BK118 := n3_; have BK120 := n4_; have BK126 := n5_; have HB := n6_; clear n0_ n1_ n2_ n3_ n4_ n5_ n6_))
              go_roundg kj66
              case measure => have := HK1.out; have := HJ20.out; have := HJ40.out; have := HJ66.out; omega
              case rel => exact ⟨(t121), (x15_40), (x16_20), (x17_40), (wrap64 (x18_1 + 1)), (wrap64 (t129 + ((rd_T65 l4 (ji64)).f0))), (x18_1), (by first | rfl | (simp; done) | (simp [*]; done)), (by first | rfl | (simp; done) | (simp [*]; done)), (by first | rfl | (simp; done) | (simp [*]; done)), (by first | rfl | (simp; done) | (simp [*]; done)), (by first | rfl | (simp; done) | (simp [*]; done)), H', ⟨by have := HK1.out; have := HJ20.out; have := HJ40.out; have := HJ66.out; omega⟩, ⟨by (with_reducible repeat (first | refine zB ?_ _ | refine zC ?_ | refine zA ?_ _)); exact BK115.out⟩, ⟨by (with_reducible repeat (first | refine zB ?_ _ | refine zC ?_ | refine zA ?_ _)); exact BK116.out⟩, ⟨by (with_reducible repeat (first | refine zB ?_ _ | refine zC ?_ | refine zA ?_ _)); exact BK117.out⟩, ⟨by (with_reducible repeat (first | refine zB ?_ _ | refine zC ?_ | refine zA ?_ _)); exact BK118.out⟩, ⟨by repeat (first | (with_reducible first | exact HB.out | apply zJ | apply zF | apply zI | refine zE ?_ GE115.out | refine zE ?_ GE116.out | refine zE ?_ GE117.out | refine zE ?_ GE118.out | refine zE ?_ GE120.out | refine zE ?_ GE126.out) | exact HB.out)⟩⟩
            rw [if_neg c173] at H; have c173b0 : decide (x119001_1 < 0) = false := decide_eq_false c173
            clear c173; by_cases c194 : (wrap64 (t129 + ((rd_T65 l4 (ji64)).f0))) < x119000_1
            rotate_left
            · rw [if_neg c194] at H
              have c194b0 : decide ((wrap64 (t129 + ((rd_T65 l4 (ji64)).f0))) < x119000_1) = false := decide_eq_false c194
              clear c194; have H' := zD.mk H
              clear H; have hnb215 := NB115_116.out; have hnc215 := NB116_115.out; have hnb216 := NB115_117.out; have hnc216 := NB117_115.out; have hnb217 := NB115_118.out; have hnc217 := NB118_115.out; have hnb218 := NB115_120.out; have hnc218 := NB120_115.out; have hnb219 := NB115_126.out; have hnc219 := NB126_115.out; have hcz220_0 : wc.cell? ⟨gb115, 0, none⟩ = some (.slice (some ad119) l0_0.length c0_0) := (zH BK115.out 0).trans rfl
              have hcz220_1 : wc.cell? ⟨gb115, 1, none⟩ = some (.slice A0_1 l0_1.length c0_1) := (zH BK115.out 1).trans rfl
              have hfz220_0 := zG BK115.out 0; have hfz220_1 := zG BK115.out 1; have hnb221 := NB116_117.out; have hnc221 := NB117_116.out; have hnb222 := NB116_118.out; have hnc222 := NB118_116.out; have hnb223 := NB116_120.out; have hnc223 := NB120_116.out; have hnb224 := NB116_126.out; have hnc224 := NB126_116.out; have hcz225_0 : wc.cell? ⟨gb116, 0, none⟩ = some (.int .i64 a5_0) := (zH BK116.out 0).trans rfl
              have hcz225_1 : wc.cell? ⟨gb116, 1, none⟩ = some (.int .i64 a5_1) := (zH BK116.out 1).trans rfl
              have hcz225_2 : wc.cell? ⟨gb116, 2, none⟩ = some (.int .u8 a5_2) := (zH BK116.out 2).trans rfl
              have hcz225_3 : wc.cell? ⟨gb116, 3, none⟩ = some (.int .i64 a5_3) := (zH BK116.out 3).trans rfl
              have hcz225_4 : wc.cell? ⟨gb116, 4, none⟩ = some (.int .i64 a5_4) := (zH BK116.out 4).trans rfl
              have hcz225_5 : wc.cell? ⟨gb116, 5, none⟩ = some (.float .f64 a5_5) := (zH BK116.out 5).trans rfl
              have hfz225_0 := zG BK116.out 0; have hfz225_1 := zG BK116.out 1; have hfz225_2 := zG BK116.out 2; have hfz225_3 := zG BK116.out 3; have hfz225_4 := zG BK116.out 4; have hfz225_5 := zG BK116.out 5; go_wp2_with (first | ((with_reducible refine gate_callee (f := 31) rfl ?_); refine goesL_ (some 102) rfl rfl Try.func31 (by kernel_rfl) rfl #[.agg #[.slice (some ad119) l0_0.length c0_0, .slice A0_1 l0_1.length c0_1], .int .i64 a1, .int .u8 t123, .int .i64 x15_40, .int .i64 x17_40, .bool (x18_1 == a3), .agg #[.int .i64 a5_0, .int .i64 a5_1, .int .u8 a5_2, .int .i64 a5_3, .int .i64 a5_4, .float .f64 a5_5]] rfl (by (try simp only [List.map_toArray, List.map_cons, List.map_nil]); first | done | rfl | (simp only [List.length_drop, List.length_take]; rfl)) ?_; (with_reducible refine (best_price.calls kj66 _ _ l0_0 _ _ l0_1 a1 t123 x15_40 x17_40 (x18_1 == a3) a5_0 a5_1 a5_2 a5_3 a5_4 a5_5 t129 true _ ?side1 ?side2 ?side3 ?side4 A171.out).mono ?_); (case side1 => repeat (first | exact (Kd.C_below HR0_0.out HB.out) | (with_reducible refine Kd.C_alloc ?_ _) | (with_reducible refine Kd.C_drewN ?_ _) | (with_reducible refine Kd.C_drew ?_))); (case side2 => exact HC0_0.out); (case side3 => repeat (first | exact (Kd.C_below HR0_1.out HB.out) | (with_reducible refine Kd.C_alloc ?_ _) | (with_reducible refine Kd.C_drewN ?_ _) | (with_reducible refine Kd.C_drew ?_))); (case side4 => exact HC0_1.out); rintro e w226 ⟨rfl, hb⟩; refine ⟨_, rfl, ?_⟩; have n0_ := zD.mk (zK (g := gb115) (o := .cells #[.slice (some ad119) l0_0.length c0_0, .slice A0_1 l0_1.length c0_1] 31 (0, 0)) (by (with_reducible repeat (first | refine zB ?_ _ | refine zC ?_ | refine zA ?_ _)); exact BK115.out) hb); have n1_ := zD.mk (zK (g := gb116) (o := .cells #[.int .i64 a5_0, .int .i64 a5_1, .int .u8 a5_2, .int .i64 a5_3, .int .i64 a5_4, .float .f64 a5_5] 35 (0, 0)) (by (with_reducible repeat (first | refine zB ?_ _ | refine zC ?_ | refine zA ?_ _)); exact BK116.out) hb); have n2_ := zD.mk (zK (g := gb117) (o := .cells #[.int .i64 0, .int .i64 0] 65 (0, 0)) (by (with_reducible repeat (first | refine zB ?_ _ | refine zC ?_ | refine zA ?_ _)); exact BK117.out) hb); have n3_ := zD.mk (zK (g := gb118) (o := .cells #[.int .i64 x119000_1, .int .i64 x119001_1] 65 (0, 0)) (by (with_reducible repeat (first | refine zB ?_ _ | refine zC ?_ | refine zA ?_ _)); exact BK118.out) hb); have n4_ := zD.mk (zK (g := gb120) (o := .cells #[.int .i64 ((rd_T62 l0_0 (ji17)).f0), .int .i64 ((rd_T62 l0_0 (ji17)).f1), .int .i64 ((rd_T62 l0_0 (ji17)).f2), .int .u8 ((rd_T62 l0_0 (ji17)).f3)] 62 (0, 0)) (by (with_reducible repeat (first | refine zB ?_ _ | refine zC ?_ | refine zA ?_ _)); exact BK120.out) hb); have n5_ := zD.mk (zK (g := gb126) (o := .cells #[.int .i64 ((rd_T65 l4 (ji64)).f0), .int .i64 ((rd_T65 l4 (ji64)).f1)] 65 (0, 0)) (by (with_reducible repeat (first | refine zB ?_ _ | refine zC ?_ | refine zA ?_ _)); exact BK126.out) hb); have n6_ := zD.mk (below_step (by repeat (first | (with_reducible first | exact HB.out | apply zJ | apply zF | apply zI | refine zE ?_ GE115.out | refine zE ?_ GE116.out | refine zE ?_ GE117.out | refine zE ?_ GE118.out | refine zE ?_ GE120.out | refine zE ?_ GE126.out) | exact HB.out)) hb); clear BK115; clear BK116; clear BK117; clear BK118; clear BK120; clear BK126; clear HB; have BK115 := n0_; have BK116 := n1_; have BK117 := n2_; have BK118 := n3_; have BK120 := n4_; have BK126 := n5_; have HB := n6_; clear n0_ n1_ n2_ n3_ n4_ n5_ n6_; (try clear hb); (try clear hb2); (try clear hk); (try clear hi); have hnb227 := NB118_117.out; have hnc227 := NB117_118.out; have hnb228 := NB118_120.out; have hnc228 := NB120_118.out; have hnb229 := NB118_126.out; have hnc229 := NB126_118.out; have hcz230_0 : w226.cell? ⟨gb118, 0, none⟩ = some (.int .i64 x119000_1) := (zH BK118.out 0).trans rfl; have hcz230_1 : w226.cell? ⟨gb118, 1, none⟩ = some (.int .i64 x119001_1) := (zH BK118.out 1).trans rfl; have hfz230_0 := zG BK118.out 0; have hfz230_1 := zG BK118.out 1; have hnb231 := NB126_117.out; have hnc231 := NB117_126.out; have hnb232 := NB126_120.out; have hnc232 := NB120_126.out; have hcz233_0 : w226.cell? ⟨gb126, 0, none⟩ = some (.int .i64 ((rd_T65 l4 (ji64)).f0)) := (zH BK126.out 0).trans rfl; have hcz233_1 : w226.cell? ⟨gb126, 1, none⟩ = some (.int .i64 ((rd_T65 l4 (ji64)).f1)) := (zH BK126.out 1).trans rfl; have hfz233_0 := zG BK126.out 0; have hfz233_1 := zG BK126.out 1))
              go_roundg kj66
              case measure => have := HK1.out; have := HJ20.out; have := HJ40.out; have := HJ66.out; omega
              case rel => exact ⟨(t121), (x15_40), (x16_20), (x17_40), (wrap64 (x18_1 + 1)), (x119000_1), (x119001_1), (by first | rfl | (simp; done) | (simp [*]; done)), (by first | rfl | (simp; done) | (simp [*]; done)), (by first | rfl | (simp; done) | (simp [*]; done)), (by first | rfl | (simp; done) | (simp [*]; done)), (by first | rfl | (simp; done) | (simp [*]; done)), H', ⟨by have := HK1.out; have := HJ20.out; have := HJ40.out; have := HJ66.out; omega⟩, ⟨by (with_reducible repeat (first | refine zB ?_ _ | refine zC ?_ | refine zA ?_ _)); exact BK115.out⟩, ⟨by (with_reducible repeat (first | refine zB ?_ _ | refine zC ?_ | refine zA ?_ _)); exact BK116.out⟩, ⟨by (with_reducible repeat (first | refine zB ?_ _ | refine zC ?_ | refine zA ?_ _)); exact BK117.out⟩, ⟨by (with_reducible repeat (first | refine zB ?_ _ | refine zC ?_ | refine zA ?_ _)); exact BK118.out⟩, ⟨by repeat (first | (with_reducible first | exact HB.out | apply zJ | apply zF | apply zI | refine zE ?_ GE115.out | refine zE ?_ GE116.out | refine zE ?_ GE117.out | refine zE ?_ GE118.out | refine zE ?_ GE120.out | refine zE ?_ GE126.out) | exact HB.out)⟩⟩
            rw [if_pos c194] at H; have c194b0 : decide ((wrap64 (t129 + ((rd_T65 l4 (ji64)).f0))) < x119000_1) = true := decide_eq_true c194
            clear c194; have H' := zD.mk H
            clear H; have hnb195 := NB115_116.out; have hnc195 := NB116_115.out; have hnb196 := NB115_117.out; have hnc196 := NB117_115.out; have hnb197 := NB115_118.out; have hnc197 := NB118_115.out; have hnb198 := NB115_120.out; have hnc198 := NB120_115.out; have hnb199 := NB115_126.out; have hnc199 := NB126_115.out; have hcz200_0 : wc.cell? ⟨gb115, 0, none⟩ = some (.slice (some ad119) l0_0.length c0_0) := (zH BK115.out 0).trans rfl
            have hcz200_1 : wc.cell? ⟨gb115, 1, none⟩ = some (.slice A0_1 l0_1.length c0_1) := (zH BK115.out 1).trans rfl
            have hfz200_0 := zG BK115.out 0; have hfz200_1 := zG BK115.out 1; have hnb201 := NB116_117.out; have hnc201 := NB117_116.out; have hnb202 := NB116_118.out; have hnc202 := NB118_116.out; have hnb203 := NB116_120.out; have hnc203 := NB120_116.out; have hnb204 := NB116_126.out; have hnc204 := NB126_116.out; have hcz205_0 : wc.cell? ⟨gb116, 0, none⟩ = some (.int .i64 a5_0) := (zH BK116.out 0).trans rfl
            have hcz205_1 : wc.cell? ⟨gb116, 1, none⟩ = some (.int .i64 a5_1) := (zH BK116.out 1).trans rfl
            have hcz205_2 : wc.cell? ⟨gb116, 2, none⟩ = some (.int .u8 a5_2) := (zH BK116.out 2).trans rfl
            have hcz205_3 : wc.cell? ⟨gb116, 3, none⟩ = some (.int .i64 a5_3) := (zH BK116.out 3).trans rfl
            have hcz205_4 : wc.cell? ⟨gb116, 4, none⟩ = some (.int .i64 a5_4) := (zH BK116.out 4).trans rfl
            have hcz205_5 : wc.cell? ⟨gb116, 5, none⟩ = some (.float .f64 a5_5) := (zH BK116.out 5).trans rfl
            have hfz205_0 := zG BK116.out 0; have hfz205_1 := zG BK116.out 1; have hfz205_2 := zG BK116.out 2; have hfz205_3 := zG BK116.out 3; have hfz205_4 := zG BK116.out 4; have hfz205_5 := zG BK116.out 5; go_wp2_with (first | ((with_reducible refine gate_callee (f := 31) rfl ?_); refine goesL_ (some 102) rfl rfl Try.func31 (by kernel_rfl) rfl #[.agg #[.slice (some ad119) l0_0.length c0_0, .slice A0_1 l0_1.length c0_1], .int .i64 a1, .int .u8 t123, .int .i64 x15_40, .int .i64 x17_40, .bool (x18_1 == a3), .agg #[.int .i64 a5_0, .int .i64 a5_1, .int .u8 a5_2, .int .i64 a5_3, .int .i64 a5_4, .float .f64 a5_5]] rfl (by (try simp only [List.map_toArray, List.map_cons, List.map_nil]); first | done | rfl | (simp only [List.length_drop, List.length_take]; rfl)) ?_; (with_reducible refine (best_price.calls kj66 _ _ l0_0 _ _ l0_1 a1 t123 x15_40 x17_40 (x18_1 == a3) a5_0 a5_1 a5_2 a5_3 a5_4 a5_5 t129 true _ ?side1 ?side2 ?side3 ?side4 A171.out).mono ?_); (case side1 => repeat (first | exact (Kd.C_below HR0_0.out HB.out) | (with_reducible refine Kd.C_alloc ?_ _) | (with_reducible refine Kd.C_drewN ?_ _) | (with_reducible refine Kd.C_drew ?_))); (case side2 => exact HC0_0.out); (case side3 => repeat (first | exact (Kd.C_below HR0_1.out HB.out) | (with_reducible refine Kd.C_alloc ?_ _) | (with_reducible refine Kd.C_drewN ?_ _) | (with_reducible refine Kd.C_drew ?_))); (case side4 => exact HC0_1.out); rintro e w206 ⟨rfl, hb⟩; refine ⟨_, rfl, ?_⟩; have n0_ := zD.mk (zK (g := gb115) (o := .cells #[.slice (some ad119) l0_0.length c0_0, .slice A0_1 l0_1.length c0_1] 31 (0, 0)) (by (with_reducible repeat (first | refine zB ?_ _ | refine zC ?_ | refine zA ?_ _)); exact BK115.out) hb); have n1_ := zD.mk (zK (g := gb116) (o := .cells #[.int .i64 a5_0, .int .i64 a5_1, .int .u8 a5_2, .int .i64 a5_3, .int .i64 a5_4, .float .f64 a5_5] 35 (0, 0)) (by (with_reducible repeat (first | refine zB ?_ _ | refine zC ?_ | refine zA ?_ _)); exact BK116.out) hb); have n2_ := zD.mk (zK (g := gb117) (o := .cells #[.int .i64 0, .int .i64 0] 65 (0, 0)) (by (with_reducible repeat (first | refine zB ?_ _ | refine zC ?_ | refine zA ?_ _)); exact BK117.out) hb); have n3_ := zD.mk (zK (g := gb118) (o := .cells #[.int .i64 x119000_1, .int .i64 x119001_1] 65 (0, 0)) (by (with_reducible repeat (first | refine zB ?_ _ | refine zC ?_ | refine zA ?_ _)); exact BK118.out) hb); have n4_ := zD.mk (zK (g := gb120) (o := .cells #[.int .i64 ((rd_T62 l0_0 (ji17)).f0), .int .i64 ((rd_T62 l0_0 (ji17)).f1), .int .i64 ((rd_T62 l0_0 (ji17)).f2), .int .u8 ((rd_T62 l0_0 (ji17)).f3)] 62 (0, 0)) (by (with_reducible repeat (first | refine zB ?_ _ | refine zC ?_ | refine zA ?_ _)); exact BK120.out) hb); have n5_ := zD.mk (zK (g := gb126) (o := .cells #[.int .i64 ((rd_T65 l4 (ji64)).f0), .int .i64 ((rd_T65 l4 (ji64)).f1)] 65 (0, 0)) (by (with_reducible repeat (first | refine zB ?_ _ | refine zC ?_ | refine zA ?_ _)); exact BK126.out) hb); have n6_ := zD.mk (below_step (by repeat (first | (with_reducible first | exact HB.out | apply zJ | apply zF | apply zI | refine zE ?_ GE115.out | refine zE ?_ GE116.out | refine zE ?_ GE117.out | refine zE ?_ GE118.out | refine zE ?_ GE120.out | refine zE ?_ GE126.out) | exact HB.out)) hb); clear BK115; clear BK116; clear BK117; clear BK118; clear BK120; clear BK126; clear HB; have BK115 := n0_; have BK116 := n1_; have BK117 := n2_; have BK118 := n3_; have BK120 := n4_; have BK126 := n5_; have HB := n6_; clear n0_ n1_ n2_ n3_ n4_ n5_ n6_; (try clear hb); (try clear hb2); (try clear hk); (try clear hi); have hnb207 := NB118_117.out; have hnc207 := NB117_118.out; have hnb208 := NB118_120.out; have hnc208 := NB120_118.out; have hnb209 := NB118_126.out; have hnc209 := NB126_118.out; have hcz210_0 : w206.cell? ⟨gb118, 0, none⟩ = some (.int .i64 x119000_1) := (zH BK118.out 0).trans rfl; have hcz210_1 : w206.cell? ⟨gb118, 1, none⟩ = some (.int .i64 x119001_1) := (zH BK118.out 1).trans rfl; have hfz210_0 := zG BK118.out 0; have hfz210_1 := zG BK118.out 1; have hnb211 := NB126_117.out; have hnc211 := NB117_126.out; have hnb212 := NB126_120.out; have hnc212 := NB120_126.out; have hcz213_0 : w206.cell? ⟨gb126, 0, none⟩ = some (.int .i64 ((rd_T65 l4 (ji64)).f0)) := (zH BK126.out 0).trans rfl; have hcz213_1 : w206.cell? ⟨gb126, 1, none⟩ = some (.int .i64 ((rd_T65 l4 (ji64)).f1)) := (zH BK126.out 1).trans rfl; have hfz213_0 := zG BK126.out 0; have hfz213_1 := zG BK126.out 1) | ((with_reducible refine gate_store (t := 65) (p := 13) rfl ?_); refine store_event (t := 65) (p := 13) (v := ?vo_w214) (w1 := ((w206.setCell ⟨gb118, 0, none⟩ (.int .i64 (wrap64 (t129 + ((rd_T65 l4 (ji64)).f0))))).setCell ⟨gb118, 1, none⟩ (.int .i64 x18_1))) ?hg ?ho ?hn ?hr ?_; (case ho => rfl); (case hg => rfl); (case hn => rfl); (case hr => first | (go_simp; done) | (go_simp; rfl)); intro w214 hw; have n0_ : zD (w214.heap[gb115]? = some (.cells #[.slice (some ad119) l0_0.length c0_0, .slice A0_1 l0_1.length c0_1] 31 (0, 0))) := ⟨(by rw [hw]; exact (by (with_reducible repeat (first | refine zB ?_ _ | refine zC ?_ | refine zA ?_ _)); refine zL ?_ NB115_118.out _; (with_reducible repeat (first | refine zB ?_ _ | refine zC ?_ | refine zA ?_ _)); refine zL ?_ NB115_118.out _; (with_reducible repeat (first | refine zB ?_ _ | refine zC ?_ | refine zA ?_ _)); exact BK115.out))⟩; have n1_ : zD (w214.heap[gb116]? = some (.cells #[.int .i64 a5_0, .int .i64 a5_1, .int .u8 a5_2, .int .i64 a5_3, .int .i64 a5_4, .float .f64 a5_5] 35 (0, 0))) := ⟨(by rw [hw]; exact (by (with_reducible repeat (first | refine zB ?_ _ | refine zC ?_ | refine zA ?_ _)); refine zL ?_ NB116_118.out _; (with_reducible repeat (first | refine zB ?_ _ | refine zC ?_ | refine zA ?_ _)); refine zL ?_ NB116_118.out _; (with_reducible repeat (first | refine zB ?_ _ | refine zC ?_ | refine zA ?_ _)); exact BK116.out))⟩; have n2_ : zD (w214.heap[gb117]? = some (.cells #[.int .i64 0, .int .i64 0] 65 (0, 0))) := ⟨(by rw [hw]; exact (by (with_reducible repeat (first | refine zB ?_ _ | refine zC ?_ | refine zA ?_ _)); refine zL ?_ NB117_118.out _; (with_reducible repeat (first | refine zB ?_ _ | refine zC ?_ | refine zA ?_ _)); refine zL ?_ NB117_118.out _; (with_reducible repeat (first | refine zB ?_ _ | refine zC ?_ | refine zA ?_ _)); exact BK117.out))⟩; have n3_ : zD (w214.heap[gb118]? = some (.cells #[.int .i64 (wrap64 (t129 + ((rd_T65 l4 (ji64)).f0))), .int .i64 x18_1] 65 (0, 0))) := ⟨(by rw [hw]; exact (by (with_reducible repeat (first | refine zB ?_ _ | refine zC ?_ | refine zA ?_ _)); refine blk_put (cs := #[.int .i64 (wrap64 (t129 + ((rd_T65 l4 (ji64)).f0))), .int .i64 x119001_1]) ?_ 1 _ rfl; (with_reducible repeat (first | refine zB ?_ _ | refine zC ?_ | refine zA ?_ _)); refine blk_put (cs := #[.int .i64 x119000_1, .int .i64 x119001_1]) ?_ 0 _ rfl; (with_reducible repeat (first | refine zB ?_ _ | refine zC ?_ | refine zA ?_ _)); exact BK118.out))⟩; have n4_ : zD (w214.heap[gb120]? = some (.cells #[.int .i64 ((rd_T62 l0_0 (ji17)).f0), .int .i64 ((rd_T62 l0_0 (ji17)).f1), .int .i64 ((rd_T62 l0_0 (ji17)).f2), .int .u8 ((rd_T62 l0_0 (ji17)).f3)] 62 (0, 0))) := ⟨(by rw [hw]; exact (by (with_reducible repeat (first | refine zB ?_ _ | refine zC ?_ | refine zA ?_ _)); refine zL ?_ NB120_118.out _; (with_reducible repeat (first | refine zB ?_ _ | refine zC ?_ | refine zA ?_ _)); refine zL ?_ NB120_118.out _; (with_reducible repeat (first | refine zB ?_ _ | refine zC ?_ | refine zA ?_ _)); exact BK120.out))⟩; have n5_ : zD (w214.heap[gb126]? = some (.cells #[.int .i64 ((rd_T65 l4 (ji64)).f0), .int .i64 ((rd_T65 l4 (ji64)).f1)] 65 (0, 0))) := ⟨(by rw [hw]; exact (by (with_reducible repeat (first | refine zB ?_ _ | refine zC ?_ | refine zA ?_ _)); refine zL ?_ NB126_118.out _; (with_reducible repeat (first | refine zB ?_ _ | refine zC ?_ | refine zA ?_ _)); refine zL ?_ NB126_118.out _; (with_reducible repeat (first | refine zB ?_ _ | refine zC ?_ | refine zA ?_ _)); exact BK126.out))⟩; have n6_ : zD (Below w.heap.size w w214) := ⟨(by rw [hw]; exact (by repeat (first | (with_reducible first | exact HB.out | apply zJ | apply zF | apply zI | refine zE ?_ GE115.out | refine zE ?_ GE116.out | refine zE ?_ GE117.out | refine zE ?_ GE118.out | refine zE ?_ GE120.out | refine zE ?_ GE126.out) | exact HB.out)))⟩; clear hw; clear BK115; clear BK116; clear BK117; clear BK118; clear BK120; clear BK126; clear HB; have BK115 := n0_; have BK116 := n1_; have BK117 := n2_; have BK118 := n3_; have BK120 := n4_; have BK126 := n5_; have HB := n6_; clear n0_ n1_ n2_ n3_ n4_ n5_ n6_))
            go_roundg kj66
            case measure => have := HK1.out; have := HJ20.out; have := HJ40.out; have := HJ66.out; omega
            case rel => exact ⟨(t121), (x15_40), (x16_20), (x17_40), (wrap64 (x18_1 + 1)), (wrap64 (t129 + ((rd_T65 l4 (ji64)).f0))), (x18_1), (by first | rfl | (simp; done) | (simp [*]; done)), (by first | rfl | (simp; done) | (simp [*]; done)), (by first | rfl | (simp; done) | (simp [*]; done)), (by first | rfl | (simp; done) | (simp [*]; done)), (by first | rfl | (simp; done) | (simp [*]; done)), H', ⟨by have := HK1.out; have := HJ20.out; have := HJ40.out; have := HJ66.out; omega⟩, ⟨by (with_reducible repeat (first | refine zB ?_ _ | refine zC ?_ | refine zA ?_ _)); exact BK115.out⟩, ⟨by (with_reducible repeat (first | refine zB ?_ _ | refine zC ?_ | refine zA ?_ _)); exact BK116.out⟩, ⟨by (with_reducible repeat (first | refine zB ?_ _ | refine zC ?_ | refine zA ?_ _)); exact BK117.out⟩, ⟨by (with_reducible repeat (first | refine zB ?_ _ | refine zC ?_ | refine zA ?_ _)); exact BK118.out⟩, ⟨by repeat (first | (with_reducible first | exact HB.out | apply zJ | apply zF | apply zI | refine zE ?_ GE115.out | refine zE ?_ GE116.out | refine zE ?_ GE117.out | refine zE ?_ GE118.out | refine zE ?_ GE120.out | refine zE ?_ GE126.out) | exact HB.out)⟩⟩
          rw [if_pos c95] at H; have c95b0 : (t123 == 3) = true := beq_iff_eq.mpr c95
          have c95b1 : (t123 != 3) = false := bne_eq_false_iff_eq.mpr c95
          clear c95; replace H := Option.bind_eq_some_iff.mp H; obtain ⟨⟨t127, t128⟩, A960, H⟩ := H; replace H : (if t128 = true then (if x119001_1 < 0 then (best_next.l0 kj66 a1 a2 a3 l4 t121 x15_40 x16_20 x17_40 (wrap64 (x18_1 + 1)) l0_0 l0_1 a5_0 a5_1 a5_2 a5_3 a5_4 a5_5 (wrap64 (t127 + ((rd_T65 l4 (ji64)).f0))) x18_1) else (if (wrap64 (t127 + ((rd_T65 l4 (ji64)).f0))) < x119000_1 then (best_next.l0 kj66 a1 a2 a3 l4 t121 x15_40 x16_20 x17_40 (wrap64 (x18_1 + 1)) l0_0 l0_1 a5_0 a5_1 a5_2 a5_3 a5_4 a5_5 (wrap64 (t127 + ((rd_T65 l4 (ji64)).f0))) x18_1) else (best_next.l0 kj66 a1 a2 a3 l4 t121 x15_40 x16_20 x17_40 (wrap64 (x18_1 + 1)) l0_0 l0_1 a5_0 a5_1 a5_2 a5_3 a5_4 a5_5 x119000_1 x119001_1))) else (best_next.l0 kj66 a1 a2 a3 l4 t121 x15_40 x16_20 x17_40 (wrap64 (x18_1 + 1)) l0_0 l0_1 a5_0 a5_1 a5_2 a5_3 a5_4 a5_5 x119000_1 x119001_1)) = some (r1, r2) := H; have A96 := zD.mk A960; clear A960; by_cases c97 : t128 = true
          rotate_left
          · replace c97 := Bool.eq_false_iff.mpr c97
            subst c97; have H1 : (best_next.l0 kj66 a1 a2 a3 l4 t121 x15_40 x16_20 x17_40 (wrap64 (x18_1 + 1)) l0_0 l0_1 a5_0 a5_1 a5_2 a5_3 a5_4 a5_5 x119000_1 x119001_1) = some (r1, r2) := by rw [if_neg (show ¬ (false = true) by decide)] at H; exact H
            clear H; have H := H1; clear H1; have H' := zD.mk H
            clear H; have hnb159 := NB115_116.out; have hnc159 := NB116_115.out; have hnb160 := NB115_117.out; have hnc160 := NB117_115.out; have hnb161 := NB115_118.out; have hnc161 := NB118_115.out; have hnb162 := NB115_120.out; have hnc162 := NB120_115.out; have hnb163 := NB115_126.out; have hnc163 := NB126_115.out; have hcz164_0 : wc.cell? ⟨gb115, 0, none⟩ = some (.slice (some ad119) l0_0.length c0_0) := (zH BK115.out 0).trans rfl
            have hcz164_1 : wc.cell? ⟨gb115, 1, none⟩ = some (.slice A0_1 l0_1.length c0_1) := (zH BK115.out 1).trans rfl
            have hfz164_0 := zG BK115.out 0; have hfz164_1 := zG BK115.out 1; have hnb165 := NB116_117.out; have hnc165 := NB117_116.out; have hnb166 := NB116_118.out; have hnc166 := NB118_116.out; have hnb167 := NB116_120.out; have hnc167 := NB120_116.out; have hnb168 := NB116_126.out; have hnc168 := NB126_116.out; have hcz169_0 : wc.cell? ⟨gb116, 0, none⟩ = some (.int .i64 a5_0) := (zH BK116.out 0).trans rfl
            have hcz169_1 : wc.cell? ⟨gb116, 1, none⟩ = some (.int .i64 a5_1) := (zH BK116.out 1).trans rfl
            have hcz169_2 : wc.cell? ⟨gb116, 2, none⟩ = some (.int .u8 a5_2) := (zH BK116.out 2).trans rfl
            have hcz169_3 : wc.cell? ⟨gb116, 3, none⟩ = some (.int .i64 a5_3) := (zH BK116.out 3).trans rfl
            have hcz169_4 : wc.cell? ⟨gb116, 4, none⟩ = some (.int .i64 a5_4) := (zH BK116.out 4).trans rfl
            have hcz169_5 : wc.cell? ⟨gb116, 5, none⟩ = some (.float .f64 a5_5) := (zH BK116.out 5).trans rfl
            have hfz169_0 := zG BK116.out 0; have hfz169_1 := zG BK116.out 1; have hfz169_2 := zG BK116.out 2; have hfz169_3 := zG BK116.out 3; have hfz169_4 := zG BK116.out 4; have hfz169_5 := zG BK116.out 5; go_wp2_with (first | ((with_reducible refine gate_callee (f := 31) rfl ?_); refine goesL_ (some 102) rfl rfl Try.func31 (by kernel_rfl) rfl #[.agg #[.slice (some ad119) l0_0.length c0_0, .slice A0_1 l0_1.length c0_1], .int .i64 a1, .int .u8 t123, .int .i64 (wrap64 (x15_40 + 1)), .int .i64 x17_40, .bool (x18_1 == a3), .agg #[.int .i64 a5_0, .int .i64 a5_1, .int .u8 a5_2, .int .i64 a5_3, .int .i64 a5_4, .float .f64 a5_5]] rfl (by (try simp only [List.map_toArray, List.map_cons, List.map_nil]); first | done | rfl | (simp only [List.length_drop, List.length_take]; rfl)) ?_; (with_reducible refine (best_price.calls kj66 _ _ l0_0 _ _ l0_1 a1 t123 (wrap64 (x15_40 + 1)) x17_40 (x18_1 == a3) a5_0 a5_1 a5_2 a5_3 a5_4 a5_5 t127 false _ ?side1 ?side2 ?side3 ?side4 A96.out).mono ?_); (case side1 => repeat (first | exact (Kd.C_below HR0_0.out HB.out) | (with_reducible refine Kd.C_alloc ?_ _) | (with_reducible refine Kd.C_drewN ?_ _) | (with_reducible refine Kd.C_drew ?_))); (case side2 => exact HC0_0.out); (case side3 => repeat (first | exact (Kd.C_below HR0_1.out HB.out) | (with_reducible refine Kd.C_alloc ?_ _) | (with_reducible refine Kd.C_drewN ?_ _) | (with_reducible refine Kd.C_drew ?_))); (case side4 => exact HC0_1.out); rintro e w170 ⟨rfl, hb⟩; refine ⟨_, rfl, ?_⟩; have n0_ := zD.mk (zK (g := gb115) (o := .cells #[.slice (some ad119) l0_0.length c0_0, .slice A0_1 l0_1.length c0_1] 31 (0, 0)) (by (with_reducible repeat (first | refine zB ?_ _ | refine zC ?_ | refine zA ?_ _)); exact BK115.out) hb); have n1_ := zD.mk (zK (g := gb116) (o := .cells #[.int .i64 a5_0, .int .i64 a5_1, .int .u8 a5_2, .int .i64 a5_3, .int .i64 a5_4, .float .f64 a5_5] 35 (0, 0)) (by (with_reducible repeat (first | refine zB ?_ _ | refine zC ?_ | refine zA ?_ _)); exact BK116.out) hb); have n2_ := zD.mk (zK (g := gb117) (o := .cells #[.int .i64 0, .int .i64 0] 65 (0, 0)) (by (with_reducible repeat (first | refine zB ?_ _ | refine zC ?_ | refine zA ?_ _)); exact BK117.out) hb); have n3_ := zD.mk (zK (g := gb118) (o := .cells #[.int .i64 x119000_1, .int .i64 x119001_1] 65 (0, 0)) (by (with_reducible repeat (first | refine zB ?_ _ | refine zC ?_ | refine zA ?_ _)); exact BK118.out) hb); have n4_ := zD.mk (zK (g := gb120) (o := .cells #[.int .i64 ((rd_T62 l0_0 (ji17)).f0), .int .i64 ((rd_T62 l0_0 (ji17)).f1), .int .i64 ((rd_T62 l0_0 (ji17)).f2), .int .u8 ((rd_T62 l0_0 (ji17)).f3)] 62 (0, 0)) (by (with_reducible repeat (first | refine zB ?_ _ | refine zC ?_ | refine zA ?_ _)); exact BK120.out) hb); have n5_ := zD.mk (zK (g := gb126) (o := .cells #[.int .i64 ((rd_T65 l4 (ji64)).f0), .int .i64 ((rd_T65 l4 (ji64)).f1)] 65 (0, 0)) (by (with_reducible repeat (first | refine zB ?_ _ | refine zC ?_ | refine zA ?_ _)); exact BK126.out) hb); have n6_ := zD.mk (below_step (by repeat (first | (with_reducible first | exact HB.out | apply zJ | apply zF | apply zI | refine zE ?_ GE115.out | refine zE ?_ GE116.out | refine zE ?_ GE117.out | refine zE ?_ GE118.out | refine zE ?_ GE120.out | refine zE ?_ GE126.out) | exact HB.out)) hb); clear BK115; clear BK116; clear BK117; clear BK118; clear BK120; clear BK126; clear HB; have BK115 := n0_; have BK116 := n1_; have BK117 := n2_; have BK118 := n3_; have BK120 := n4_; have BK126 := n5_; have HB := n6_; clear n0_ n1_ n2_ n3_ n4_ n5_ n6_; (try clear hb); (try clear hb2); (try clear hk); (try clear hi)))
            go_roundg kj66
            case measure => have := HK1.out; have := HJ20.out; have := HJ40.out; have := HJ66.out; omega
            case rel => exact ⟨(t121), (x15_40), (x16_20), (x17_40), (wrap64 (x18_1 + 1)), (x119000_1), (x119001_1), (by first | rfl | (simp; done) | (simp [*]; done)), (by first | rfl | (simp; done) | (simp [*]; done)), (by first | rfl | (simp; done) | (simp [*]; done)), (by first | rfl | (simp; done) | (simp [*]; done)), (by first | rfl | (simp; done) | (simp [*]; done)), H', ⟨by have := HK1.out; have := HJ20.out; have := HJ40.out; have := HJ66.out; omega⟩, ⟨by (with_reducible repeat (first | refine zB ?_ _ | refine zC ?_ | refine zA ?_ _)); exact BK115.out⟩, ⟨by (with_reducible repeat (first | refine zB ?_ _ | refine zC ?_ | refine zA ?_ _)); exact BK116.out⟩, ⟨by (with_reducible repeat (first | refine zB ?_ _ | refine zC ?_ | refine zA ?_ _)); exact BK117.out⟩, ⟨by (with_reducible repeat (first | refine zB ?_ _ | refine zC ?_ | refine zA ?_ _)); exact BK118.out⟩, ⟨by repeat (first | (with_reducible first | exact HB.out | apply zJ | apply zF | apply zI | refine zE ?_ GE115.out | refine zE ?_ GE116.out | refine zE ?_ GE117.out | refine zE ?_ GE118.out | refine zE ?_ GE120.out | refine zE ?_ GE126.out) | exact HB.out)⟩⟩
          subst c97; have H1 : (if x119001_1 < 0 then (best_next.l0 kj66 a1 a2 a3 l4 t121 x15_40 x16_20 x17_40 (wrap64 (x18_1 + 1)) l0_0 l0_1 a5_0 a5_1 a5_2 a5_3 a5_4 a5_5 (wrap64 (t127 + ((rd_T65 l4 (ji64)).f0))) x18_1) else (if (wrap64 (t127 + ((rd_T65 l4 (ji64)).f0))) < x119000_1 then (best_next.l0 kj66 a1 a2 a3 l4 t121 x15_40 x16_20 x17_40 (wrap64 (x18_1 + 1)) l0_0 l0_1 a5_0 a5_1 a5_2 a5_3 a5_4 a5_5 (wrap64 (t127 + ((rd_T65 l4 (ji64)).f0))) x18_1) else (best_next.l0 kj66 a1 a2 a3 l4 t121 x15_40 x16_20 x17_40 (wrap64 (x18_1 + 1)) l0_0 l0_1 a5_0 a5_1 a5_2 a5_3 a5_4 a5_5 x119000_1 x119001_1))) = some (r1, r2) := by rw [if_pos rfl] at H; exact H
          clear H; have H := H1; clear H1; by_cases c98 : x119001_1 < 0
          · rw [if_pos c98] at H
            have c98b0 : decide (x119001_1 < 0) = true := decide_eq_true c98
            clear c98; have H' := zD.mk H
            clear H; have hnb99 := NB115_116.out; have hnc99 := NB116_115.out; have hnb100 := NB115_117.out; have hnc100 := NB117_115.out; have hnb101 := NB115_118.out; have hnc101 := NB118_115.out; have hnb102 := NB115_120.out; have hnc102 := NB120_115.out; have hnb103 := NB115_126.out; have hnc103 := NB126_115.out; have hcz104_0 : wc.cell? ⟨gb115, 0, none⟩ = some (.slice (some ad119) l0_0.length c0_0) := (zH BK115.out 0).trans rfl
            have hcz104_1 : wc.cell? ⟨gb115, 1, none⟩ = some (.slice A0_1 l0_1.length c0_1) := (zH BK115.out 1).trans rfl
            have hfz104_0 := zG BK115.out 0; have hfz104_1 := zG BK115.out 1; have hnb105 := NB116_117.out; have hnc105 := NB117_116.out; have hnb106 := NB116_118.out; have hnc106 := NB118_116.out; have hnb107 := NB116_120.out; have hnc107 := NB120_116.out; have hnb108 := NB116_126.out; have hnc108 := NB126_116.out; have hcz109_0 : wc.cell? ⟨gb116, 0, none⟩ = some (.int .i64 a5_0) := (zH BK116.out 0).trans rfl
            have hcz109_1 : wc.cell? ⟨gb116, 1, none⟩ = some (.int .i64 a5_1) := (zH BK116.out 1).trans rfl
            have hcz109_2 : wc.cell? ⟨gb116, 2, none⟩ = some (.int .u8 a5_2) := (zH BK116.out 2).trans rfl
            have hcz109_3 : wc.cell? ⟨gb116, 3, none⟩ = some (.int .i64 a5_3) := (zH BK116.out 3).trans rfl
            have hcz109_4 : wc.cell? ⟨gb116, 4, none⟩ = some (.int .i64 a5_4) := (zH BK116.out 4).trans rfl
            have hcz109_5 : wc.cell? ⟨gb116, 5, none⟩ = some (.float .f64 a5_5) := (zH BK116.out 5).trans rfl
            have hfz109_0 := zG BK116.out 0; have hfz109_1 := zG BK116.out 1; have hfz109_2 := zG BK116.out 2; have hfz109_3 := zG BK116.out 3; have hfz109_4 := zG BK116.out 4; have hfz109_5 := zG BK116.out 5; go_wp2_with (first | ((with_reducible refine gate_callee (f := 31) rfl ?_); refine goesL_ (some 102) rfl rfl Try.func31 (by kernel_rfl) rfl #[.agg #[.slice (some ad119) l0_0.length c0_0, .slice A0_1 l0_1.length c0_1], .int .i64 a1, .int .u8 t123, .int .i64 (wrap64 (x15_40 + 1)), .int .i64 x17_40, .bool (x18_1 == a3), .agg #[.int .i64 a5_0, .int .i64 a5_1, .int .u8 a5_2, .int .i64 a5_3, .int .i64 a5_4, .float .f64 a5_5]] rfl (by (try simp only [List.map_toArray, List.map_cons, List.map_nil]); first | done | rfl | (simp only [List.length_drop, List.length_take]; rfl)) ?_; (with_reducible refine (best_price.calls kj66 _ _ l0_0 _ _ l0_1 a1 t123 (wrap64 (x15_40 + 1)) x17_40 (x18_1 == a3) a5_0 a5_1 a5_2 a5_3 a5_4 a5_5 t127 true _ ?side1 ?side2 ?side3 ?side4 A96.out).mono ?_); (case side1 => repeat (first | exact (Kd.C_below HR0_0.out HB.out) | (with_reducible refine Kd.C_alloc ?_ _) | (with_reducible refine Kd.C_drewN ?_ _) | (with_reducible refine Kd.C_drew ?_))); (case side2 => exact HC0_0.out); (case side3 => repeat (first | exact (Kd.C_below HR0_1.out HB.out) | (with_reducible refine Kd.C_alloc ?_ _) | (with_reducible refine Kd.C_drewN ?_ _) | (with_reducible refine Kd.C_drew ?_))); (case side4 => exact HC0_1.out); rintro e w110 ⟨rfl, hb⟩; refine ⟨_, rfl, ?_⟩; have n0_ := zD.mk (zK (g := gb115) (o := .cells #[.slice (some ad119) l0_0.length c0_0, .slice A0_1 l0_1.length c0_1] 31 (0, 0)) (by (with_reducible repeat (first | refine zB ?_ _ | refine zC ?_ | refine zA ?_ _)); exact BK115.out) hb); have n1_ := zD.mk (zK (g := gb116) (o := .cells #[.int .i64 a5_0, .int .i64 a5_1, .int .u8 a5_2, .int .i64 a5_3, .int .i64 a5_4, .float .f64 a5_5] 35 (0, 0)) (by (with_reducible repeat (first | refine zB ?_ _ | refine zC ?_ | refine zA ?_ _)); exact BK116.out) hb); have n2_ := zD.mk (zK (g := gb117) (o := .cells #[.int .i64 0, .int .i64 0] 65 (0, 0)) (by (with_reducible repeat (first | refine zB ?_ _ | refine zC ?_ | refine zA ?_ _)); exact BK117.out) hb); have n3_ := zD.mk (zK (g := gb118) (o := .cells #[.int .i64 x119000_1, .int .i64 x119001_1] 65 (0, 0)) (by (with_reducible repeat (first | refine zB ?_ _ | refine zC ?_ | refine zA ?_ _)); exact BK118.out) hb); have n4_ := zD.mk (zK (g := gb120) (o := .cells #[.int .i64 ((rd_T62 l0_0 (ji17)).f0), .int .i64 ((rd_T62 l0_0 (ji17)).f1), .int .i64 ((rd_T62 l0_0 (ji17)).f2), .int .u8 ((rd_T62 l0_0 (ji17)).f3)] 62 (0, 0)) (by (with_reducible repeat (first | refine zB ?_ _ | refine zC ?_ | refine zA ?_ _)); exact BK120.out) hb); have n5_ := zD.mk (zK (g := gb126) (o := .cells #[.int .i64 ((rd_T65 l4 (ji64)).f0), .int .i64 ((rd_T65 l4 (ji64)).f1)] 65 (0, 0)) (by (with_reducible repeat (first | refine zB ?_ _ | refine zC ?_ | refine zA ?_ _)); exact BK126.out) hb); have n6_ := zD.mk (below_step (by repeat (first | (with_reducible first | exact HB.out | apply zJ | apply zF | apply zI | refine zE ?_ GE115.out | refine zE ?_ GE116.out | refine zE ?_ GE117.out | refine zE ?_ GE118.out | refine zE ?_ GE120.out | refine zE ?_ GE126.out) | exact HB.out)) hb); clear BK115; clear BK116; clear BK117; clear BK118; clear BK120; clear BK126; clear HB; have BK115 := n0_; have BK116 := n1_; have BK117 := n2_; have BK118 := n3_; have BK120 := n4_; have BK126 := n5_; have HB := n6_; clear n0_ n1_ n2_ n3_ n4_ n5_ n6_; (try clear hb); (try clear hb2); (try clear hk); (try clear hi); have hnb111 := NB118_117.out; have hnc111 := NB117_118.out; have hnb112 := NB118_120.out; have hnc112 := NB120_118.out; have hnb113 := NB118_126.out; have hnc113 := NB126_118.out; have hcz114_0 : w110.cell? ⟨gb118, 0, none⟩ = some (.int .i64 x119000_1) := (zH BK118.out 0).trans rfl; have hcz114_1 : w110.cell? ⟨gb118, 1, none⟩ = some (.int .i64 x119001_1) := (zH BK118.out 1).trans rfl; have hfz114_0 := zG BK118.out 0; have hfz114_1 := zG BK118.out 1; have hnb115 := NB126_117.out; have hnc115 := NB117_126.out; have hnb116 := NB126_120.out; have hnc116 := NB120_126.out; have hcz117_0 : w110.cell? ⟨gb126, 0, none⟩ = some (.int .i64 ((rd_T65 l4 (ji64)).f0)) := (zH BK126.out 0).trans rfl; have hcz117_1 : w110.cell? ⟨gb126, 1, none⟩ = some (.int .i64 ((rd_T65 l4 (ji64)).f1)) := (zH BK126.out 1).trans rfl; have hfz117_0 := zG BK126.out 0; have hfz117_1 := zG BK126.out 1) | ((with_reducible refine gate_store (t := 65) (p := 13) rfl ?_); refine store_event (t := 65) (p := 13) (v := ?vo_w118) (w1 := ((w110.setCell ⟨gb118, 0, none⟩ (.int .i64 (wrap64 (t127 + ((rd_T65 l4 (ji64)).f0))))).setCell ⟨gb118, 1, none⟩ (.int .i64 x18_1))) ?hg ?ho ?hn ?hr ?_; (case ho => rfl); (case hg => rfl); (case hn => rfl); (case hr => first | (go_simp; done) | (go_simp; rfl)); intro w118 hw; have n0_ : zD (w118.heap[gb115]? = some (.cells #[.slice (some ad119) l0_0.length c0_0, .slice A0_1 l0_1.length c0_1] 31 (0, 0))) := ⟨(by rw [hw]; exact (by (with_reducible repeat (first | refine zB ?_ _ | refine zC ?_ | refine zA ?_ _)); refine zL ?_ NB115_118.out _; (with_reducible repeat (first | refine zB ?_ _ | refine zC ?_ | refine zA ?_ _)); refine zL ?_ NB115_118.out _; (with_reducible repeat (first | refine zB ?_ _ | refine zC ?_ | refine zA ?_ _)); exact BK115.out))⟩; have n1_ : zD (w118.heap[gb116]? = some (.cells #[.int .i64 a5_0, .int .i64 a5_1, .int .u8 a5_2, .int .i64 a5_3, .int .i64 a5_4, .float .f64 a5_5] 35 (0, 0))) := ⟨(by rw [hw]; exact (by (with_reducible repeat (first | refine zB ?_ _ | refine zC ?_ | refine zA ?_ _)); refine zL ?_ NB116_118.out _; (with_reducible repeat (first | refine zB ?_ _ | refine zC ?_ | refine zA ?_ _)); refine zL ?_ NB116_118.out _; (with_reducible repeat (first | refine zB ?_ _ | refine zC ?_ | refine zA ?_ _)); exact BK116.out))⟩; have n2_ : zD (w118.heap[gb117]? = some (.cells #[.int .i64 0, .int .i64 0] 65 (0, 0))) := ⟨(by rw [hw]; exact (by (with_reducible repeat (first | refine zB ?_ _ | refine zC ?_ | refine zA ?_ _)); refine zL ?_ NB117_118.out _; (with_reducible repeat (first | refine zB ?_ _ | refine zC ?_ | refine zA ?_ _)); refine zL ?_ NB117_118.out _; (with_reducible repeat (first | refine zB ?_ _ | refine zC ?_ | refine zA ?_ _)); exact BK117.out))⟩; have n3_ : zD (w118.heap[gb118]? = some (.cells #[.int .i64 (wrap64 (t127 + ((rd_T65 l4 (ji64)).f0))), .int .i64 x18_1] 65 (0, 0))) := ⟨(by rw [hw]; exact (by (with_reducible repeat (first | refine zB ?_ _ | refine zC ?_ | refine zA ?_ _)); refine blk_put (cs := #[.int .i64 (wrap64 (t127 + ((rd_T65 l4 (ji64)).f0))), .int .i64 x119001_1]) ?_ 1 _ rfl; (with_reducible repeat (first | refine zB ?_ _ | refine zC ?_ | refine zA ?_ _)); refine blk_put (cs := #[.int .i64 x119000_1, .int .i64 x119001_1]) ?_ 0 _ rfl; (with_reducible repeat (first | refine zB ?_ _ | refine zC ?_ | refine zA ?_ _)); exact BK118.out))⟩; have n4_ : zD (w118.heap[gb120]? = some (.cells #[.int .i64 ((rd_T62 l0_0 (ji17)).f0), .int .i64 ((rd_T62 l0_0 (ji17)).f1), .int .i64 ((rd_T62 l0_0 (ji17)).f2), .int .u8 ((rd_T62 l0_0 (ji17)).f3)] 62 (0, 0))) := ⟨(by rw [hw]; exact (by (with_reducible repeat (first | refine zB ?_ _ | refine zC ?_ | refine zA ?_ _)); refine zL ?_ NB120_118.out _; (with_reducible repeat (first | refine zB ?_ _ | refine zC ?_ | refine zA ?_ _)); refine zL ?_ NB120_118.out _; (with_reducible repeat (first | refine zB ?_ _ | refine zC ?_ | refine zA ?_ _)); exact BK120.out))⟩; have n5_ : zD (w118.heap[gb126]? = some (.cells #[.int .i64 ((rd_T65 l4 (ji64)).f0), .int .i64 ((rd_T65 l4 (ji64)).f1)] 65 (0, 0))) := ⟨(by rw [hw]; exact (by (with_reducible repeat (first | refine zB ?_ _ | refine zC ?_ | refine zA ?_ _)); refine zL ?_ NB126_118.out _; (with_reducible repeat (first | refine zB ?_ _ | refine zC ?_ | refine zA ?_ _)); refine zL ?_ NB126_118.out _; (with_reducible repeat (first | refine zB ?_ _ | refine zC ?_ | refine zA ?_ _)); exact BK126.out))⟩; have n6_ : zD (Below w.heap.size w w118) := ⟨(by rw [hw]; exact (by repeat (first | (with_reducible first | exact HB.out | apply zJ | apply zF | apply zI | refine zE ?_ GE115.out | refine zE ?_ GE116.out | refine zE ?_ GE117.out | refine zE ?_ GE118.out | refine zE ?_ GE120.out | refine zE ?_ GE126.out) | exact HB.out)))⟩; clear hw; clear BK115; clear BK116; clear BK117; clear BK118; clear BK120; clear BK126; clear HB; have BK115 := n0_; have BK116 := n1_; have BK117 := n2_; have BK118 := n3_; have BK120 := n4_; have BK126 := n5_; have HB := n6_; clear n0_ n1_ n2_ n3_ n4_ n5_ n6_))
            go_roundg kj66
            case measure => have := HK1.out; have := HJ20.out; have := HJ40.out; have := HJ66.out; omega
            case rel => exact ⟨(t121), (x15_40), (x16_20), (x17_40), (wrap64 (x18_1 + 1)), (wrap64 (t127 + ((rd_T65 l4 (ji64)).f0))), (x18_1), (by first | rfl | (simp; done) | (simp [*]; done)), (by first | rfl | (simp; done) | (simp [*]; done)), (by first | rfl | (simp; done) | (simp [*]; done)), (by first | rfl | (simp; done) | (simp [*]; done)), (by first | rfl | (simp; done) | (simp [*]; done)), H', ⟨by have := HK1.out; have := HJ20.out; have := HJ40.out; have := HJ66.out; omega⟩, ⟨by (with_reducible repeat (first | refine zB ?_ _ | refine zC ?_ | refine zA ?_ _)); exact BK115.out⟩, ⟨by (with_reducible repeat (first | refine zB ?_ _ | refine zC ?_ | refine zA ?_ _)); exact BK116.out⟩, ⟨by (with_reducible repeat (first | refine zB ?_ _ | refine zC ?_ | refine zA ?_ _)); exact BK117.out⟩, ⟨by (with_reducible repeat (first | refine zB ?_ _ | refine zC ?_ | refine zA ?_ _)); exact BK118.out⟩, ⟨by repeat (first | (with_reducible first | exact HB.out | apply zJ | apply zF | apply zI | refine zE ?_ GE115.out | refine zE ?_ GE116.out | refine zE ?_ GE117.out | refine zE ?_ GE118.out | refine zE ?_ GE120.out | refine zE ?_ GE126.out) | exact HB.out)⟩⟩
          rw [if_neg c98] at H; have c98b0 : decide (x119001_1 < 0) = false := decide_eq_false c98
          clear c98; by_cases c119 : (wrap64 (t127 + ((rd_T65 l4 (ji64)).f0))) < x119000_1
          rotate_left
          · rw [if_neg c119] at H
            have c119b0 : decide ((wrap64 (t127 + ((rd_T65 l4 (ji64)).f0))) < x119000_1) = false := decide_eq_false c119
            clear c119; have H' := zD.mk H
            clear H; have hnb140 := NB115_116.out; have hnc140 := NB116_115.out; have hnb141 := NB115_117.out; have hnc141 := NB117_115.out; have hnb142 := NB115_118.out; have hnc142 := NB118_115.out; have hnb143 := NB115_120.out; have hnc143 := NB120_115.out; have hnb144 := NB115_126.out; have hnc144 := NB126_115.out; have hcz145_0 : wc.cell? ⟨gb115, 0, none⟩ = some (.slice (some ad119) l0_0.length c0_0) := (zH BK115.out 0).trans rfl
            have hcz145_1 : wc.cell? ⟨gb115, 1, none⟩ = some (.slice A0_1 l0_1.length c0_1) := (zH BK115.out 1).trans rfl
            have hfz145_0 := zG BK115.out 0; have hfz145_1 := zG BK115.out 1; have hnb146 := NB116_117.out; have hnc146 := NB117_116.out; have hnb147 := NB116_118.out; have hnc147 := NB118_116.out; have hnb148 := NB116_120.out; have hnc148 := NB120_116.out; have hnb149 := NB116_126.out; have hnc149 := NB126_116.out; have hcz150_0 : wc.cell? ⟨gb116, 0, none⟩ = some (.int .i64 a5_0) := (zH BK116.out 0).trans rfl
            have hcz150_1 : wc.cell? ⟨gb116, 1, none⟩ = some (.int .i64 a5_1) := (zH BK116.out 1).trans rfl
            have hcz150_2 : wc.cell? ⟨gb116, 2, none⟩ = some (.int .u8 a5_2) := (zH BK116.out 2).trans rfl
            have hcz150_3 : wc.cell? ⟨gb116, 3, none⟩ = some (.int .i64 a5_3) := (zH BK116.out 3).trans rfl
            have hcz150_4 : wc.cell? ⟨gb116, 4, none⟩ = some (.int .i64 a5_4) := (zH BK116.out 4).trans rfl
            have hcz150_5 : wc.cell? ⟨gb116, 5, none⟩ = some (.float .f64 a5_5) := (zH BK116.out 5).trans rfl
            have hfz150_0 := zG BK116.out 0; have hfz150_1 := zG BK116.out 1; have hfz150_2 := zG BK116.out 2; have hfz150_3 := zG BK116.out 3; have hfz150_4 := zG BK116.out 4; have hfz150_5 := zG BK116.out 5; go_wp2_with (first | ((with_reducible refine gate_callee (f := 31) rfl ?_); refine goesL_ (some 102) rfl rfl Try.func31 (by kernel_rfl) rfl #[.agg #[.slice (some ad119) l0_0.length c0_0, .slice A0_1 l0_1.length c0_1], .int .i64 a1, .int .u8 t123, .int .i64 (wrap64 (x15_40 + 1)), .int .i64 x17_40, .bool (x18_1 == a3), .agg #[.int .i64 a5_0, .int .i64 a5_1, .int .u8 a5_2, .int .i64 a5_3, .int .i64 a5_4, .float .f64 a5_5]] rfl (by (try simp only [List.map_toArray, List.map_cons, List.map_nil]); first | done | rfl | (simp only [List.length_drop, List.length_take]; rfl)) ?_; (with_reducible refine (best_price.calls kj66 _ _ l0_0 _ _ l0_1 a1 t123 (wrap64 (x15_40 + 1)) x17_40 (x18_1 == a3) a5_0 a5_1 a5_2 a5_3 a5_4 a5_5 t127 true _ ?side1 ?side2 ?side3 ?side4 A96.out).mono ?_); (case side1 => repeat (first | exact (Kd.C_below HR0_0.out HB.out) | (with_reducible refine Kd.C_alloc ?_ _) | (with_reducible refine Kd.C_drewN ?_ _) | (with_reducible refine Kd.C_drew ?_))); (case side2 => exact HC0_0.out); (case side3 => repeat (first | exact (Kd.C_below HR0_1.out HB.out) | (with_reducible refine Kd.C_alloc ?_ _) | (with_reducible refine Kd.C_drewN ?_ _) | (with_reducible refine Kd.C_drew ?_))); (case side4 => exact HC0_1.out); rintro e w151 ⟨rfl, hb⟩; refine ⟨_, rfl, ?_⟩; have n0_ := zD.mk (zK (g := gb115) (o := .cells #[.slice (some ad119) l0_0.length c0_0, .slice A0_1 l0_1.length c0_1] 31 (0, 0)) (by (with_reducible repeat (first | refine zB ?_ _ | refine zC ?_ | refine zA ?_ _)); exact BK115.out) hb); have n1_ := zD.mk (zK (g := gb116) (o := .cells #[.int .i64 a5_0, .int .i64 a5_1, .int .u8 a5_2, .int .i64 a5_3, .int .i64 a5_4, .float .f64 a5_5] 35 (0, 0)) (by (with_reducible repeat (first | refine zB ?_ _ | refine zC ?_ | refine zA ?_ _)); exact BK116.out) hb); have n2_ := zD.mk (zK (g := gb117) (o := .cells #[.int .i64 0, .int .i64 0] 65 (0, 0)) (by (with_reducible repeat (first | refine zB ?_ _ | refine zC ?_ | refine zA ?_ _)); exact BK117.out) hb); have n3_ := zD.mk (zK (g := gb118) (o := .cells #[.int .i64 x119000_1, .int .i64 x119001_1] 65 (0, 0)) (by (with_reducible repeat (first | refine zB ?_ _ | refine zC ?_ | refine zA ?_ _)); exact BK118.out) hb); have n4_ := zD.mk (zK (g := gb120) (o := .cells #[.int .i64 ((rd_T62 l0_0 (ji17)).f0), .int .i64 ((rd_T62 l0_0 (ji17)).f1), .int .i64 ((rd_T62 l0_0 (ji17)).f2), .int .u8 ((rd_T62 l0_0 (ji17)).f3)] 62 (0, 0)) (by (with_reducible repeat (first | refine zB ?_ _ | refine zC ?_ | refine zA ?_ _)); exact BK120.out) hb); have n5_ := zD.mk (zK (g := gb126) (o := .cells #[.int .i64 ((rd_T65 l4 (ji64)).f0), .int .i64 ((rd_T65 l4 (ji64)).f1)] 65 (0, 0)) (by (with_reducible repeat (first | refine zB ?_ _ | refine zC ?_ | refine zA ?_ _)); exact BK126.out) hb); have n6_ := zD.mk (below_step (by repeat (first | (with_reducible first | exact HB.out | apply zJ | apply zF | apply zI | refine zE ?_ GE115.out | refine zE ?_ GE116.out | refine zE ?_ GE117.out | refine zE ?_ GE118.out | refine zE ?_ GE120.out | refine zE ?_ GE126.out) | exact HB.out)) hb); clear BK115; clear BK116; clear BK117; clear BK118; clear BK120; clear BK126; clear HB; have BK115 := n0_; have BK116 := n1_; have BK117 := n2_; have BK118 := n3_; have BK120 := n4_; have BK126 := n5_; have HB := n6_; clear n0_ n1_ n2_ n3_ n4_ n5_ n6_; (try clear hb); (try clear hb2); (try clear hk); (try clear hi); have hnb152 := NB118_117.out; have hnc152 := NB117_118.out; have hnb153 := NB118_120.out; have hnc153 := NB120_118.out; have hnb154 := NB118_126.out; have hnc154 := NB126_118.out; have hcz155_0 : w151.cell? ⟨gb118, 0, none⟩ = some (.int .i64 x119000_1) := (zH BK118.out 0).trans rfl; have hcz155_1 : w151.cell? ⟨gb118, 1, none⟩ = some (.int .i64 x119001_1) := (zH BK118.out 1).trans rfl; have hfz155_0 := zG BK118.out 0; have hfz155_1 := zG BK118.out 1; have hnb156 := NB126_117.out; have hnc156 := NB117_126.out; have hnb157 := NB126_120.out; have hnc157 := NB120_126.out; have hcz158_0 : w151.cell? ⟨gb126, 0, none⟩ = some (.int .i64 ((rd_T65 l4 (ji64)).f0)) := (zH BK126.out 0).trans rfl; have hcz158_1 : w151.cell? ⟨gb126, 1, none⟩ = some (.int .i64 ((rd_T65 l4 (ji64)).f1)) := (zH BK126.out 1).trans rfl; have hfz158_0 := zG BK126.out 0; have hfz158_1 := zG BK126.out 1))
            go_roundg kj66
            case measure => have := HK1.out; have := HJ20.out; have := HJ40.out; have := HJ66.out; omega
            case rel => exact ⟨(t121), (x15_40), (x16_20), (x17_40), (wrap64 (x18_1 + 1)), (x119000_1), (x119001_1), (by first | rfl | (simp; done) | (simp [*]; done)), (by first | rfl | (simp; done) | (simp [*]; done)), (by first | rfl | (simp; done) | (simp [*]; done)), (by first | rfl | (simp; done) | (simp [*]; done)), (by first | rfl | (simp; done) | (simp [*]; done)), H', ⟨by have := HK1.out; have := HJ20.out; have := HJ40.out; have := HJ66.out; omega⟩, ⟨by (with_reducible repeat (first | refine zB ?_ _ | refine zC ?_ | refine zA ?_ _)); exact BK115.out⟩, ⟨by (with_reducible repeat (first | refine zB ?_ _ | refine zC ?_ | refine zA ?_ _)); exact BK116.out⟩, ⟨by (with_reducible repeat (first | refine zB ?_ _ | refine zC ?_ | refine zA ?_ _)); exact BK117.out⟩, ⟨by (with_reducible repeat (first | refine zB ?_ _ | refine zC ?_ | refine zA ?_ _)); exact BK118.out⟩, ⟨by repeat (first | (with_reducible first | exact HB.out | apply zJ | apply zF | apply zI | refine zE ?_ GE115.out | refine zE ?_ GE116.out | refine zE ?_ GE117.out | refine zE ?_ GE118.out | refine zE ?_ GE120.out | refine zE ?_ GE126.out) | exact HB.out)⟩⟩
          rw [if_pos c119] at H; have c119b0 : decide ((wrap64 (t127 + ((rd_T65 l4 (ji64)).f0))) < x119000_1) = true := decide_eq_true c119
          clear c119; have H' := zD.mk H
          clear H; have hnb120 := NB115_116.out; have hnc120 := NB116_115.out; have hnb121 := NB115_117.out; have hnc121 := NB117_115.out; have hnb122 := NB115_118.out; have hnc122 := NB118_115.out; have hnb123 := NB115_120.out; have hnc123 := NB120_115.out; have hnb124 := NB115_126.out; have hnc124 := NB126_115.out; have hcz125_0 : wc.cell? ⟨gb115, 0, none⟩ = some (.slice (some ad119) l0_0.length c0_0) := (zH BK115.out 0).trans rfl
          have hcz125_1 : wc.cell? ⟨gb115, 1, none⟩ = some (.slice A0_1 l0_1.length c0_1) := (zH BK115.out 1).trans rfl
          have hfz125_0 := zG BK115.out 0; have hfz125_1 := zG BK115.out 1; have hnb126 := NB116_117.out; have hnc126 := NB117_116.out; have hnb127 := NB116_118.out; have hnc127 := NB118_116.out; have hnb128 := NB116_120.out; have hnc128 := NB120_116.out; have hnb129 := NB116_126.out; have hnc129 := NB126_116.out; have hcz130_0 : wc.cell? ⟨gb116, 0, none⟩ = some (.int .i64 a5_0) := (zH BK116.out 0).trans rfl
          have hcz130_1 : wc.cell? ⟨gb116, 1, none⟩ = some (.int .i64 a5_1) := (zH BK116.out 1).trans rfl
          have hcz130_2 : wc.cell? ⟨gb116, 2, none⟩ = some (.int .u8 a5_2) := (zH BK116.out 2).trans rfl
          have hcz130_3 : wc.cell? ⟨gb116, 3, none⟩ = some (.int .i64 a5_3) := (zH BK116.out 3).trans rfl
          have hcz130_4 : wc.cell? ⟨gb116, 4, none⟩ = some (.int .i64 a5_4) := (zH BK116.out 4).trans rfl
          have hcz130_5 : wc.cell? ⟨gb116, 5, none⟩ = some (.float .f64 a5_5) := (zH BK116.out 5).trans rfl
          have hfz130_0 := zG BK116.out 0; have hfz130_1 := zG BK116.out 1; have hfz130_2 := zG BK116.out 2; have hfz130_3 := zG BK116.out 3; have hfz130_4 := zG BK116.out 4; have hfz130_5 := zG BK116.out 5; go_wp2_with (first | ((with_reducible refine gate_callee (f := 31) rfl ?_); refine goesL_ (some 102) rfl rfl Try.func31 (by kernel_rfl) rfl #[.agg #[.slice (some ad119) l0_0.length c0_0, .slice A0_1 l0_1.length c0_1], .int .i64 a1, .int .u8 t123, .int .i64 (wrap64 (x15_40 + 1)), .int .i64 x17_40, .bool (x18_1 == a3), .agg #[.int .i64 a5_0, .int .i64 a5_1, .int .u8 a5_2, .int .i64 a5_3, .int .i64 a5_4, .float .f64 a5_5]] rfl (by (try simp only [List.map_toArray, List.map_cons, List.map_nil]); first | done | rfl | (simp only [List.length_drop, List.length_take]; rfl)) ?_; (with_reducible refine (best_price.calls kj66 _ _ l0_0 _ _ l0_1 a1 t123 (wrap64 (x15_40 + 1)) x17_40 (x18_1 == a3) a5_0 a5_1 a5_2 a5_3 a5_4 a5_5 t127 true _ ?side1 ?side2 ?side3 ?side4 A96.out).mono ?_); (case side1 => repeat (first | exact (Kd.C_below HR0_0.out HB.out) | (with_reducible refine Kd.C_alloc ?_ _) | (with_reducible refine Kd.C_drewN ?_ _) | (with_reducible refine Kd.C_drew ?_))); (case side2 => exact HC0_0.out); (case side3 => repeat (first | exact (Kd.C_below HR0_1.out HB.out) | (with_reducible refine Kd.C_alloc ?_ _) | (with_reducible refine Kd.C_drewN ?_ _) | (with_reducible refine Kd.C_drew ?_))); (case side4 => exact HC0_1.out); rintro e w131 ⟨rfl, hb⟩; refine ⟨_, rfl, ?_⟩; have n0_ := zD.mk (zK (g := gb115) (o := .cells #[.slice (some ad119) l0_0.length c0_0, .slice A0_1 l0_1.length c0_1] 31 (0, 0)) (by (with_reducible repeat (first | refine zB ?_ _ | refine zC ?_ | refine zA ?_ _)); exact BK115.out) hb); have n1_ := zD.mk (zK (g := gb116) (o := .cells #[.int .i64 a5_0, .int .i64 a5_1, .int .u8 a5_2, .int .i64 a5_3, .int .i64 a5_4, .float .f64 a5_5] 35 (0, 0)) (by (with_reducible repeat (first | refine zB ?_ _ | refine zC ?_ | refine zA ?_ _)); exact BK116.out) hb); have n2_ := zD.mk (zK (g := gb117) (o := .cells #[.int .i64 0, .int .i64 0] 65 (0, 0)) (by (with_reducible repeat (first | refine zB ?_ _ | refine zC ?_ | refine zA ?_ _)); exact BK117.out) hb); have n3_ := zD.mk (zK (g := gb118) (o := .cells #[.int .i64 x119000_1, .int .i64 x119001_1] 65 (0, 0)) (by (with_reducible repeat (first | refine zB ?_ _ | refine zC ?_ | refine zA ?_ _)); exact BK118.out) hb); have n4_ := zD.mk (zK (g := gb120) (o := .cells #[.int .i64 ((rd_T62 l0_0 (ji17)).f0), .int .i64 ((rd_T62 l0_0 (ji17)).f1), .int .i64 ((rd_T62 l0_0 (ji17)).f2), .int .u8 ((rd_T62 l0_0 (ji17)).f3)] 62 (0, 0)) (by (with_reducible repeat (first | refine zB ?_ _ | refine zC ?_ | refine zA ?_ _)); exact BK120.out) hb); have n5_ := zD.mk (zK (g := gb126) (o := .cells #[.int .i64 ((rd_T65 l4 (ji64)).f0), .int .i64 ((rd_T65 l4 (ji64)).f1)] 65 (0, 0)) (by (with_reducible repeat (first | refine zB ?_ _ | refine zC ?_ | refine zA ?_ _)); exact BK126.out) hb); have n6_ := zD.mk (below_step (by repeat (first | (with_reducible first | exact HB.out | apply zJ | apply zF | apply zI | refine zE ?_ GE115.out | refine zE ?_ GE116.out | refine zE ?_ GE117.out | refine zE ?_ GE118.out | refine zE ?_ GE120.out | refine zE ?_ GE126.out) | exact HB.out)) hb); clear BK115; clear BK116; clear BK117; clear BK118; clear BK120; clear BK126; clear HB; have BK115 := n0_; have BK116 := n1_; have BK117 := n2_; have BK118 := n3_; have BK120 := n4_; have BK126 := n5_; have HB := n6_; clear n0_ n1_ n2_ n3_ n4_ n5_ n6_; (try clear hb); (try clear hb2); (try clear hk); (try clear hi); have hnb132 := NB118_117.out; have hnc132 := NB117_118.out; have hnb133 := NB118_120.out; have hnc133 := NB120_118.out; have hnb134 := NB118_126.out; have hnc134 := NB126_118.out; have hcz135_0 : w131.cell? ⟨gb118, 0, none⟩ = some (.int .i64 x119000_1) := (zH BK118.out 0).trans rfl; have hcz135_1 : w131.cell? ⟨gb118, 1, none⟩ = some (.int .i64 x119001_1) := (zH BK118.out 1).trans rfl; have hfz135_0 := zG BK118.out 0; have hfz135_1 := zG BK118.out 1; have hnb136 := NB126_117.out; have hnc136 := NB117_126.out; have hnb137 := NB126_120.out; have hnc137 := NB120_126.out; have hcz138_0 : w131.cell? ⟨gb126, 0, none⟩ = some (.int .i64 ((rd_T65 l4 (ji64)).f0)) := (zH BK126.out 0).trans rfl; have hcz138_1 : w131.cell? ⟨gb126, 1, none⟩ = some (.int .i64 ((rd_T65 l4 (ji64)).f1)) := (zH BK126.out 1).trans rfl; have hfz138_0 := zG BK126.out 0; have hfz138_1 := zG BK126.out 1) | ((with_reducible refine gate_store (t := 65) (p := 13) rfl ?_); refine store_event (t := 65) (p := 13) (v := ?vo_w139) (w1 := ((w131.setCell ⟨gb118, 0, none⟩ (.int .i64 (wrap64 (t127 + ((rd_T65 l4 (ji64)).f0))))).setCell ⟨gb118, 1, none⟩ (.int .i64 x18_1))) ?hg ?ho ?hn ?hr ?_; (case ho => rfl); (case hg => rfl); (case hn => rfl); (case hr => first | (go_simp; done) | (go_simp; rfl)); intro w139 hw; have n0_ : zD (w139.heap[gb115]? = some (.cells #[.slice (some ad119) l0_0.length c0_0, .slice A0_1 l0_1.length c0_1] 31 (0, 0))) := ⟨(by rw [hw]; exact (by (with_reducible repeat (first | refine zB ?_ _ | refine zC ?_ | refine zA ?_ _)); refine zL ?_ NB115_118.out _; (with_reducible repeat (first | refine zB ?_ _ | refine zC ?_ | refine zA ?_ _)); refine zL ?_ NB115_118.out _; (with_reducible repeat (first | refine zB ?_ _ | refine zC ?_ | refine zA ?_ _)); exact BK115.out))⟩; have n1_ : zD (w139.heap[gb116]? = some (.cells #[.int .i64 a5_0, .int .i64 a5_1, .int .u8 a5_2, .int .i64 a5_3, .int .i64 a5_4, .float .f64 a5_5] 35 (0, 0))) := ⟨(by rw [hw]; exact (by (with_reducible repeat (first | refine zB ?_ _ | refine zC ?_ | refine zA ?_ _)); refine zL ?_ NB116_118.out _; (with_reducible repeat (first | refine zB ?_ _ | refine zC ?_ | refine zA ?_ _)); refine zL ?_ NB116_118.out _; (with_reducible repeat (first | refine zB ?_ _ | refine zC ?_ | refine zA ?_ _)); exact BK116.out))⟩; have n2_ : zD (w139.heap[gb117]? = some (.cells #[.int .i64 0, .int .i64 0] 65 (0, 0))) := ⟨(by rw [hw]; exact (by (with_reducible repeat (first | refine zB ?_ _ | refine zC ?_ | refine zA ?_ _)); refine zL ?_ NB117_118.out _; (with_reducible repeat (first | refine zB ?_ _ | refine zC ?_ | refine zA ?_ _)); refine zL ?_ NB117_118.out _; (with_reducible repeat (first | refine zB ?_ _ | refine zC ?_ | refine zA ?_ _)); exact BK117.out))⟩; have n3_ : zD (w139.heap[gb118]? = some (.cells #[.int .i64 (wrap64 (t127 + ((rd_T65 l4 (ji64)).f0))), .int .i64 x18_1] 65 (0, 0))) := ⟨(by rw [hw]; exact (by (with_reducible repeat (first | refine zB ?_ _ | refine zC ?_ | refine zA ?_ _)); refine blk_put (cs := #[.int .i64 (wrap64 (t127 + ((rd_T65 l4 (ji64)).f0))), .int .i64 x119001_1]) ?_ 1 _ rfl; (with_reducible repeat (first | refine zB ?_ _ | refine zC ?_ | refine zA ?_ _)); refine blk_put (cs := #[.int .i64 x119000_1, .int .i64 x119001_1]) ?_ 0 _ rfl; (with_reducible repeat (first | refine zB ?_ _ | refine zC ?_ | refine zA ?_ _)); exact BK118.out))⟩; have n4_ : zD (w139.heap[gb120]? = some (.cells #[.int .i64 ((rd_T62 l0_0 (ji17)).f0), .int .i64 ((rd_T62 l0_0 (ji17)).f1), .int .i64 ((rd_T62 l0_0 (ji17)).f2), .int .u8 ((rd_T62 l0_0 (ji17)).f3)] 62 (0, 0))) := ⟨(by rw [hw]; exact (by (with_reducible repeat (first | refine zB ?_ _ | refine zC ?_ | refine zA ?_ _)); refine zL ?_ NB120_118.out _; (with_reducible repeat (first | refine zB ?_ _ | refine zC ?_ | refine zA ?_ _)); refine zL ?_ NB120_118.out _; (with_reducible repeat (first | refine zB ?_ _ | refine zC ?_ | refine zA ?_ _)); exact BK120.out))⟩; have n5_ : zD (w139.heap[gb126]? = some (.cells #[.int .i64 ((rd_T65 l4 (ji64)).f0), .int .i64 ((rd_T65 l4 (ji64)).f1)] 65 (0, 0))) := ⟨(by rw [hw]; exact (by (with_reducible repeat (first | refine zB ?_ _ | refine zC ?_ | refine zA ?_ _)); refine zL ?_ NB126_118.out _; (with_reducible repeat (first | refine zB ?_ _ | refine zC ?_ | refine zA ?_ _)); refine zL ?_ NB126_118.out _; (with_reducible repeat (first | refine zB ?_ _ | refine zC ?_ | refine zA ?_ _)); exact BK126.out))⟩; have n6_ : zD (Below w.heap.size w w139) := ⟨(by rw [hw]; exact (by repeat (first | (with_reducible first | exact HB.out | apply zJ | apply zF | apply zI | refine zE ?_ GE115.out | refine zE ?_ GE116.out | refine zE ?_ GE117.out | refine zE ?_ GE118.out | refine zE ?_ GE120.out | refine zE ?_ GE126.out) | exact HB.out)))⟩; clear hw; clear BK115; clear BK116; clear BK117; clear BK118; clear BK120; clear BK126; clear HB; have BK115 := n0_; have BK116 := n1_; have BK117 := n2_; have BK118 := n3_; have BK120 := n4_; have BK126 := n5_; have HB := n6_; clear n0_ n1_ n2_ n3_ n4_ n5_ n6_))
          go_roundg kj66
          case measure => have := HK1.out; have := HJ20.out; have := HJ40.out; have := HJ66.out; omega
          case rel => exact ⟨(t121), (x15_40), (x16_20), (x17_40), (wrap64 (x18_1 + 1)), (wrap64 (t127 + ((rd_T65 l4 (ji64)).f0))), (x18_1), (by first | rfl | (simp; done) | (simp [*]; done)), (by first | rfl | (simp; done) | (simp [*]; done)), (by first | rfl | (simp; done) | (simp [*]; done)), (by first | rfl | (simp; done) | (simp [*]; done)), (by first | rfl | (simp; done) | (simp [*]; done)), H', ⟨by have := HK1.out; have := HJ20.out; have := HJ40.out; have := HJ66.out; omega⟩, ⟨by (with_reducible repeat (first | refine zB ?_ _ | refine zC ?_ | refine zA ?_ _)); exact BK115.out⟩, ⟨by (with_reducible repeat (first | refine zB ?_ _ | refine zC ?_ | refine zA ?_ _)); exact BK116.out⟩, ⟨by (with_reducible repeat (first | refine zB ?_ _ | refine zC ?_ | refine zA ?_ _)); exact BK117.out⟩, ⟨by (with_reducible repeat (first | refine zB ?_ _ | refine zC ?_ | refine zA ?_ _)); exact BK118.out⟩, ⟨by repeat (first | (with_reducible first | exact HB.out | apply zJ | apply zF | apply zI | refine zE ?_ GE115.out | refine zE ?_ GE116.out | refine zE ?_ GE117.out | refine zE ?_ GE118.out | refine zE ?_ GE120.out | refine zE ?_ GE126.out) | exact HB.out)⟩⟩
end Go.Proofs.Ytlgclhhkgohanaa.F
end
section
namespace Go.Proofs.Ytlgclhhkgohanaa.F
open Go.RowKit Go.Proofs.YtlgclhhkgohanaaW.PrintWords Go.Proofs.YtlgclhhkgohanaaW.PrintLast Go.Proofs.YtlgclhhkgohanaaW.PrintMore
attribute [local go_sem] max2_int min2_int max_two min_two max_three min_three max_four min_four   -- for this text's walks alone
set_option linter.unusedVariables false
set_option linter.unusedSimpArgs false
def span_Columns.l0 : Nat → Int → Int → List Int → Int → List (S62) → List Int → Option (List Int)
  | 0, _, _, _, _, _, _ => none
  | k + 1, x2, x3, x9, x10, x132000, x132001 => if x10 < x2 then (if 0 ≤ x10 then (if x10 < (x132000.length : Int) then (if 0 ≤ (wrap64 ((x9.length : Int) - 1)) then (if (wrap64 ((x9.length : Int) - 1)) < (x9.length : Int) then ((span_Next.f ((rd_T62 x132000 x10).f0) ((rd_T62 x132000 x10).f1) ((rd_T62 x132000 x10).f2) ((rd_T62 x132000 x10).f3) (rd x9 (wrap64 ((x9.length : Int) - 1))) x3).bind fun t137 => (if x9.length < 17592186044416 then (span_Columns.l0 k x2 x3 (x9 ++ [t137]) (wrap64 (x10 + 1)) x132000 x132001) else (none))) else (none)) else (none)) else (none)) else (none)) else (some x9)
def span_Columns.f (k : Nat) (l0_0 : List (S62)) (l0_1 : List Int) (a1 : Int) (a2 : Int) (a3 : Int) : Option (List Int) := span_Columns.l0 k a2 a3 (([0] : List Int)) a1 l0_0 l0_1
theorem span_Columns.mono_l : ∀ k, (∀ y0 y1 y2 y3 y4 y5, LeO (span_Columns.l0 k y0 y1 y2 y3 y4 y5) (span_Columns.l0 (k + 1) y0 y1 y2 y3 y4 y5))
  | 0 => fun _ _ _ _ _ _ r h => by simp [span_Columns.l0] at h
  | k + 1 => by
    have ih0 := span_Columns.mono_l k
    · intro y0 y1 y2 y3 y4 y5
      unfold span_Columns.l0
      repeat' first
      | (with_reducible exact ih0 _ _ _ _ _ _)
      | (with_reducible exact LeO.refl _)
      | (with_reducible exact LeO.none _)
      | (with_reducible refine LeO.ite ?_ ?_)
      | (with_reducible refine LeO.bind ?_ (fun _ => ?_))
      | exact ih0 _ _ _ _ _ _
      | exact LeO.none _
      | refine LeO.ite ?_ ?_
      | refine LeO.bind ?_ (fun _ => ?_)
theorem span_Columns.mono : ∀ a0 a1 a2 a3 a4 k, LeO (span_Columns.f k a0 a1 a2 a3 a4) (span_Columns.f (k + 1) a0 a1 a2 a3 a4) := by
  intro a0 a1 a2 a3 a4 k
  have ih0 := span_Columns.mono_l k; unfold span_Columns.f
  repeat' first
      | (with_reducible exact ih0 _ _ _ _ _ _)
      | (with_reducible exact LeO.refl _)
      | (with_reducible exact LeO.none _)
      | (with_reducible refine LeO.ite ?_ ?_)
      | (with_reducible refine LeO.bind ?_ (fun _ => ?_))
      | exact ih0 _ _ _ _ _ _
      | exact LeO.none _
      | refine LeO.ite ?_ ?_
      | refine LeO.bind ?_ (fun _ => ?_)
def span_Columns.T5 : Bool × List (List Nat × List Nat) := (true, [([], []), ([], []), ([1], [1]), ([], []), ([2, 3], [2, 3]), ([4], [4]), ([], []), ([], []), ([7], [7]), ([8], [8]), ([6, 9], [6, 9]), ([10], [10]), ([], []), ([5, 11, 12], [5, 11, 12]), ([13], [13]), ([0, 14, 13], [0, 14]), ([15, 15, 0, 1, 2, 3, 4, 5, 6, 7, 8, 9, 10, 11, 12, 13, 14, 15], [0, 6, 7, 15])])
def span_Columns.B5 : List Nat := [0, 0, 2, 0, 14, 30, 0, 0, 128, 384, 960, 1984, 0, 8190, 16382, 32767, 65535]
theorem span_Columns.tab5 : rtab .any (opsOf Try.f44 5) = span_Columns.T5 := by kernel_rfl
theorem span_Columns.bits5 : waitsOk span_Columns.T5.2 span_Columns.B5 = true := by kernel_rfl
set_option maxHeartbeats 8000000 in
set_option maxRecDepth 100000 in
theorem span_Columns.calls (k : Nat) (A0_0 : Option Addr) (c0_0 : Nat) (l0_0 : List (S62)) (A0_1 : Option Addr) (c0_1 : Nat) (l0_1 : List Int) (a1 : Int) (a2 : Int) (a3 : Int) (r : List Int) (w : World) (hr0_0 : Kd.C k62 w A0_0 l0_0.length l0_0) (hc0_0 : l0_0.length ≤ c0_0) (hr0_1 : Kd.C (Kd.int .u8) w A0_1 l0_1.length l0_1) (hc0_1 : l0_1.length ≤ c0_1) (h : span_Columns.f k l0_0 l0_1 a1 a2 a3 = some r) :
    Calls Try.prog 44 #[.agg #[.slice A0_0 l0_0.length c0_0, .slice A0_1 l0_1.length c0_1], .int .i64 a1, .int .i64 a2, .int .i64 a3] w fun e w' => ∃ v0_ : Value, e = .returned (v0_) ∧ Kd.R (Kd.int .i64) 3 w' w.heap.size (fun _ => True) v0_ r ∧ Below w.heap.size w w' := by
  have hu31 := Try.underlying31; have hu62 := Try.underlying62; have HR0_0 := zD.mk hr0_0; have HC0_0 := zD.mk hc0_0; clear hr0_0 hc0_0; have HR0_1 := zD.mk hr0_1; have HC0_1 := zD.mk hc0_1; clear hr0_1 hc0_1; have HB := zD.mk (Below.refl w.heap.size w); have H : (span_Columns.l0 k a2 a3 (([0] : List Int)) a1 l0_0 l0_1) = some r := h
  clear h; obtain ⟨y132, hy132⟩ : ∃ y_ : List Int, y_ = (([0] : List Int)) := ⟨_, rfl⟩; replace H : (span_Columns.l0 k a2 a3 y132 a1 l0_0 l0_1) = some r := by first | (rw [hy132]; with_reducible exact H) | (have H2_ := (Option.bind_some _ _).symm.trans H; rw [hy132]; with_reducible exact H2_) | (have H2_ := (Option.bind_some _ _).symm.trans H; with_reducible exact H2_) | with_reducible exact H | (rw [hy132]; exact H) | exact H
  have Ny132 := zD.mk hy132; clear hy132; have H' := zD.mk H
  clear H; go_enter Try.func44, Try.ntmps44
  go_wp2_with (first | ((with_reducible refine gate_dst (N := 4) rfl ?_); refine box_event ?hg (N := 4) ?hd (cs := #[.slice A0_0 l0_0.length c0_0, .slice A0_1 l0_1.length c0_1]) (t := 31) ?hr ?_; (case hd => rfl); (case hg => rfl); (case hr => first | (go_simp; done) | (go_simp; rfl)); intro gb131 hg w5 hbox hb; have n0_ := zD.mk (below_step (by repeat (first | (with_reducible first | exact HB.out | apply zJ | apply zF | apply zI) | exact HB.out)) hb); have n1_ := zD.mk (hbox); have n2_ := zD.mk ((by rw [hg]; exact (zM (by repeat (first | (with_reducible first | exact HB.out | apply zJ | apply zF | apply zI) | exact HB.out))) : w.heap.size ≤ gb131)); have n3_ := zD.mk ((by rw [hg]; exact (zM (by repeat (first | (with_reducible first | exact HB.out | apply zJ | apply zF | apply zI) | exact HB.out))) : w.heap.size ≤ gb131)); clear HB; have HB := n0_; have BK131 := n1_; have GW131 := n2_; have GE131 := n3_; clear n0_ n1_ n2_ n3_; clear hb hbox hg) | ((with_reducible refine gate_dst (N := 11) rfl ?_); refine Kd.R_lit (Kd.int .i64) _ 3 ?hg (N := 11) ?hd (xs := ([0] : List Int)) (inner := [.int .i64 0]) (ok := fun _ => True) (okp := fun _ => True) ?hr ?hp (fun _ hk => hk) trivial (Below.refl _ _) (Nat.le_refl _) (by simp) ?_; (case hd => rfl); (case hg => rfl); (case hr => first | (go_simp; done) | (go_simp; rfl)); (case hp => exact (Reps.one (show Kd.M (Kd.int .i64) _ _ _ 0 [.int .i64 0] from rfl) (Reps.none _ _))); intro v133 w6 ho7 hb hg_ hnew_; clear hg_ hnew_; (first | rw [← Ny132.out] at ho7 | (simp only [Int.reduceToNat] at ho7; rw [← Ny132.out] at ho7)); have n0_ := zD.mk (Kd.R_lower ho7 (zM (by repeat (first | (with_reducible first | exact HB.out | apply zJ | apply zF | apply zI | refine zE ?_ GE131.out) | exact HB.out)))); have n1_ := zD.mk (zK (g := gb131) (o := .cells #[.slice A0_0 l0_0.length c0_0, .slice A0_1 l0_1.length c0_1] 31 (0, 0)) (by (with_reducible repeat (first | refine zB ?_ _ | refine zC ?_ | refine zA ?_ _)); exact BK131.out) hb); have n2_ := zD.mk (below_step (by repeat (first | (with_reducible first | exact HB.out | apply zJ | apply zF | apply zI | refine zE ?_ GE131.out) | exact HB.out)) hb); clear BK131; clear HB; have HO134 := n0_; have BK131 := n1_; have HB := n2_; clear n0_ n1_ n2_; clear hb ho7))
  go_loopg [9, 10] k (fun kq v9 v10 w' => ∃ (x9_1 : List Int) (x10_1 : Int), v10 = .int .i64 x10_1 ∧ zD (span_Columns.l0 kq a2 a3 x9_1 x10_1 l0_0 l0_1 = some r) ∧ zD (kq ≤ k) ∧ zD (Kd.R (Kd.int .i64) 3 w' w.heap.size (fun _ => True) v9 x9_1) ∧ zD (w'.heap[gb131]? = some (.cells #[(.slice A0_0 l0_0.length c0_0), (.slice A0_1 l0_1.length c0_1)] 31 (0, 0))) ∧ zD (Below w.heap.size w w'))
  case atStart => exact ⟨(y132), (a1), (by first | rfl | (simp; done) | (simp [*]; done)), H', ⟨Nat.le_refl _⟩, ⟨by (with_reducible repeat (first | apply Kd.R_alloc | apply Kd.R_drewN | apply Kd.R_drew)); exact HO134.out⟩, ⟨by (with_reducible repeat (first | refine zB ?_ _ | refine zC ?_ | refine zA ?_ _)); exact BK131.out⟩, ⟨by repeat (first | (with_reducible first | exact HB.out | apply zJ | apply zF | apply zI | refine zE ?_ GE131.out) | exact HB.out)⟩⟩
  clear H'; try clear p2
  try clear c4
  obtain ⟨x9_1, x10_1, rfl, HA, HK1, HO_9, BK131, HB⟩ := hrel; cases gk with
  | zero => exact absurd HA.out (by simp [span_Columns.l0])
  | succ k1 =>
    have H := HA.out; clear HA; simp only [span_Columns.l0] at H; by_cases c8 : x10_1 < a2
    rotate_left
    · rw [if_neg c8] at H
      have c8b0 : decide (x10_1 < a2) = false := decide_eq_false c8
      clear c8; obtain rfl := Option.some.inj H
      go_wp2
      go_ret
      exact ⟨_, by first | rfl | (simp [errW_none, errW_some] <;> rfl) | (simp [*, errW_none, errW_some] <;> rfl), by (with_reducible repeat (first | apply Kd.R_alloc | apply Kd.R_drewN | apply Kd.R_drew)); exact HO_9.out, by repeat (first | (with_reducible first | exact HB.out | apply zJ | apply zF | apply zI | refine zE ?_ GE131.out) | exact HB.out)⟩
    rw [if_pos c8] at H; have c8b0 : decide (x10_1 < a2) = true := decide_eq_true c8
    clear c8; by_cases c9 : 0 ≤ x10_1
    rotate_left
    · rw [if_neg c9] at H
      exact absurd H (by simp)
    rw [if_pos c9] at H; have c9b0 : decide (0 ≤ x10_1) = true := decide_eq_true c9
    clear c9; by_cases c10 : x10_1 < (l0_0.length : Int)
    rotate_left
    · rw [if_neg c10] at H
      exact absurd H (by simp)
    rw [if_pos c10] at H; have c10b0 : decide (x10_1 < (l0_0.length : Int)) = true := decide_eq_true c10
    clear c10; obtain ⟨ji11, hji11⟩ : ∃ j_ : Int, (wrap64 ((x9_1.length : Int) - 1)) = j_ := ⟨_, rfl⟩; replace H : (if 0 ≤ (ji11) then (if (ji11) < (x9_1.length : Int) then ((span_Next.f ((rd_T62 l0_0 x10_1).f0) ((rd_T62 l0_0 x10_1).f1) ((rd_T62 l0_0 x10_1).f2) ((rd_T62 l0_0 x10_1).f3) (rd x9_1 (ji11)) a3).bind fun t137 => (if x9_1.length < 17592186044416 then (span_Columns.l0 k1 a2 a3 (x9_1 ++ [t137]) (wrap64 (x10_1 + 1)) l0_0 l0_1) else (none))) else (none)) else (none)) = some r := by first | (rw [hji11] at H; exact H) | (simp only [hji11] at H ⊢; exact H)
    have hji11w : (IntKind.i64.wrap ((x9_1.length : Int) - 1)) = ji11 := (i64_w _).trans hji11
    by_cases c12 : 0 ≤ (ji11)
    rotate_left
    · rw [if_neg c12] at H
      exact absurd H (by simp)
    rw [if_pos c12] at H; have c12b0 : decide (0 ≤ (ji11)) = true := decide_eq_true c12
    clear c12; by_cases c13 : (ji11) < (x9_1.length : Int)
    rotate_left
    · rw [if_neg c13] at H
      exact absurd H (by simp)
    rw [if_pos c13] at H; have c13b0 : decide ((ji11) < (x9_1.length : Int)) = true := decide_eq_true c13
    clear c13; replace H := Option.bind_eq_some_iff.mp H; obtain ⟨t137, A140, H⟩ := H; replace H : (if x9_1.length < 17592186044416 then (span_Columns.l0 k1 a2 a3 (x9_1 ++ [t137]) (wrap64 (x10_1 + 1)) l0_0 l0_1) else (none)) = some r := H; have A14 := zD.mk A140; clear A140; by_cases c15 : x9_1.length < 17592186044416
    rotate_left
    · rw [if_neg c15] at H
      exact absurd H (by simp)
    rw [if_pos c15] at H; have LMc15 := zD.mk c15; clear c15; obtain ⟨y138, hy138⟩ : ∃ y_ : List Int, y_ = (x9_1 ++ [t137]) := ⟨_, rfl⟩; replace H : (span_Columns.l0 k1 a2 a3 y138 (wrap64 (x10_1 + 1)) l0_0 l0_1) = some r := by first | (rw [hy138]; with_reducible exact H) | (have H2_ := (Option.bind_some _ _).symm.trans H; rw [hy138]; with_reducible exact H2_) | (have H2_ := (Option.bind_some _ _).symm.trans H; with_reducible exact H2_) | with_reducible exact H | (rw [hy138]; exact H) | exact H
    have Ny138 := zD.mk hy138; clear hy138; have H' := zD.mk H
    clear H; try go_wp2
    have n0_ := zD.mk (Kd.R_drew HO_9.out); have n1_ := zD.mk (zC BK131.out); have n2_ := zD.mk (zI HB.out); clear HO_9; clear BK131; clear HB; have HO_9 := n0_; have BK131 := n1_; have HB := n2_; clear n0_ n1_ n2_; have p135 : 0 ≤ (x10_1 : Int) := of_decide_eq_true (by first | (with_reducible assumption) | assumption)
    have q135 : x10_1 < (l0_0.length : Int) := of_decide_eq_true (by first | (with_reducible assumption) | assumption)
    obtain ⟨ad135, e135, hx135_0, hx135_1, hx135_2, hx135_3⟩ := at_T62 HR0_0.out x10_1 p135 q135; have hw135_3 := hx135_3; have hw135_2 := hx135_2; have hw135_1 := hx135_1; have hw135_0 := hx135_0; cases e135
    replace hx135_0 := (HB.out.cell (World.block_lt_of_cell? w _ hx135_0)).trans hx135_0; replace hx135_1 := (HB.out.cell (World.block_lt_of_cell? w _ hx135_1)).trans hx135_1; replace hx135_2 := (HB.out.cell (World.block_lt_of_cell? w _ hx135_2)).trans hx135_2; replace hx135_3 := (HB.out.cell (World.block_lt_of_cell? w _ hx135_3)).trans hx135_3; replace p135 := eq_true p135; replace q135 := eq_true q135; obtain ⟨Ao17, co17, eo17⟩ := Kd.R_slice HO_9.out; (first | subst eo17 | (injection eo17 with f1_ f2_ f3_; have f4_ := f1_.symm; have f5_ := f3_.symm; clear f1_ f2_ f3_; subst f4_; subst f5_))
    have p136 : 0 ≤ ((ji11) : Int) := of_decide_eq_true (by first | (with_reducible assumption) | assumption)
    have q136 : (ji11) < (x9_1.length : Int) := of_decide_eq_true (by first | (with_reducible assumption) | assumption)
    obtain ⟨ad136, e136, hx136_0⟩ := Kd.at_int (Kd.R_reads' HO_9.out).2.2 (ji11) p136 q136; cases e136
    replace p136 := eq_true p136; replace q136 := eq_true q136; refine start_ (n := 17) (S := fun w' => w'.cell? ⟨gb131, 0, none⟩ = some (.slice (some ad135) l0_0.length c0_0) ∧ w'.cell? ⟨gb131, 1, none⟩ = some (.slice A0_1 l0_1.length c0_1) ∧ w'.cell? (ad135.add ((x10_1).toNat * 4)) = some (.int .i64 ((rd_T62 l0_0 x10_1).f0)) ∧ w'.cell? ⟨(ad135.add ((x10_1).toNat * 4)).block, (ad135.add ((x10_1).toNat * 4)).off + 1, none⟩ = some (.int .i64 ((rd_T62 l0_0 x10_1).f1)) ∧ w'.cell? ⟨(ad135.add ((x10_1).toNat * 4)).block, (ad135.add ((x10_1).toNat * 4)).off + 2, none⟩ = some (.int .i64 ((rd_T62 l0_0 x10_1).f2)) ∧ w'.cell? ⟨(ad135.add ((x10_1).toNat * 4)).block, (ad135.add ((x10_1).toNat * 4)).off + 3, none⟩ = some (.int .u8 ((rd_T62 l0_0 x10_1).f3)) ∧ w'.cell? (ad136.add ((ji11)).toNat) = some (.int .i64 (rd x9_1 (ji11)))) (ds := [14, 15]) #[false, false, false, false, false, false, false, false, false, false, false, false, false, false, false, false, false] (by kernel_rfl) rfl rfl ⟨(zH BK131.out 0).trans rfl, (zH BK131.out 1).trans rfl, ((HB.out.cell (World.block_lt_of_cell? w _ hw135_0)).trans hw135_0), ((HB.out.cell (World.block_lt_of_cell? w _ hw135_1)).trans hw135_1), ((HB.out.cell (World.block_lt_of_cell? w _ hw135_2)).trans hw135_2), ((HB.out.cell (World.block_lt_of_cell? w _ hw135_3)).trans hw135_3), hx136_0⟩ (fun hHeld => ?_); refine with_tabW span_Columns.tab5 span_Columns.bits5 (fun HT_ HW_ => ?_)
    generalize wr.drew = w16 at HO_9 BK131 HB hx135_0 hx135_1 hx135_2 hx135_3 hx136_0 hHeld ⊢
    refine pure_ (i := 0) (N := some 18) (v := ?_) (a' := ?_) (tf_ 1 17) rfl rfl (any_of HT_.out (by kernel_rfl)) (fun _ _ _ h => h) (Or.inl ⟨by rfl, ?_⟩) ?_ ?_
    rotate_left
    · intro w'
      go_simp
      with_reducible rfl
    rotate_left
    · simp only [Act.put, sA_, sB_, sC_, i64_w, i32_w]
      rfl
    refine pure_ (i := 1) (N := some 19) (v := ?_) (a' := ?_) (tf_ 2 17) rfl rfl (any_of HT_.out (by kernel_rfl)) (fun _ _ _ h => h) (Or.inl ⟨by rfl, ?_⟩) ?_ ?_
    rotate_left
    · intro w'
      go_simp
      with_reducible rfl
    rotate_left
    · simp only [Act.put, sA_, sB_, sC_, i64_w, i32_w]
      rfl
    refine pure_ (i := 3) (N := some 21) (v := ?_) (a' := ?_) #[true, true, false, true, false, false, false, false, false, false, false, false, false, false, false, false, false] rfl rfl (any_of HT_.out (by kernel_rfl)) (fun _ _ _ h => h) (Or.inl ⟨by rfl, ?_⟩) ?_ ?_
    rotate_left
    · intro w'
      go_simp
      with_reducible rfl
    rotate_left
    · simp only [Act.put, sA_, sB_, sC_, i64_w, i32_w]
      rfl
    refine pure_ (i := 6) (N := some 24) (v := ?_) (a' := ?_) #[true, true, false, true, false, false, true, false, false, false, false, false, false, false, false, false, false] rfl rfl (any_of HT_.out (by kernel_rfl)) (fun _ _ _ h => h) (Or.inl ⟨by rfl, ?_⟩) ?_ ?_
    rotate_left
    · intro w'
      go_simp
      with_reducible rfl
    rotate_left
    · simp only [Act.put, sA_, sB_, sC_, i64_w, i32_w]
      rfl
    refine pure_ (i := 7) (N := some 25) (v := ?_) (a' := ?_) #[true, true, false, true, false, false, true, true, false, false, false, false, false, false, false, false, false] rfl rfl (any_of HT_.out (by kernel_rfl)) (fun _ _ _ h => h) (Or.inl ⟨by rfl, ?_⟩) ?_ ?_
    rotate_left
    · intro w'
      go_simp
      with_reducible rfl
    rotate_left
    · simp only [Act.put, sA_, sB_, sC_, i64_w, i32_w]
      rfl
    refine pure_ (i := 8) (N := some 26) (v := ?_) (a' := ?_) #[true, true, false, true, false, false, true, true, true, false, false, false, false, false, false, false, false] rfl rfl (any_of HT_.out (by kernel_rfl)) (fun _ _ _ h => h) (Or.inl ⟨by rfl, ?_⟩) ?_ ?_
    rotate_left
    · intro w'
      go_simp
      with_reducible rfl
    rotate_left
    · simp only [Act.put, sA_, sB_, sC_, i64_w, i32_w]
      rfl
    refine pure_ (i := 9) (N := some 27) (v := ?_) (a' := ?_) #[true, true, false, true, false, false, true, true, true, true, false, false, false, false, false, false, false] rfl rfl (any_of HT_.out (by kernel_rfl)) (fun _ _ _ h => h) (Or.inl ⟨by rfl, ?_⟩) ?_ ?_
    rotate_left
    · intro w'
      go_simp
      with_reducible rfl
    rotate_left
    · simp only [Act.put, sA_, sB_, sC_, i64_w, i32_w]
      rfl
    refine pure_ (i := 10) (N := some 28) (v := ?_) (a' := ?_) #[true, true, false, true, false, false, true, true, true, true, true, false, false, false, false, false, false] rfl rfl (any_of HT_.out (by kernel_rfl)) (fun _ _ _ h => h) (Or.inl ⟨by rfl, ?_⟩) ?_ ?_
    rotate_left
    · intro w'
      go_simp
      with_reducible rfl
    rotate_left
    · simp only [Act.put, sA_, sB_, sC_, i64_w, i32_w]
      rfl
    refine pure_ (i := 12) (N := some 30) (v := ?_) (a' := ?_) #[true, true, false, true, false, false, true, true, true, true, true, false, true, false, false, false, false] rfl rfl (any_of HT_.out (by kernel_rfl)) (fun _ _ _ h => h) (Or.inl ⟨by rfl, ?_⟩) ?_ ?_
    rotate_left
    · intro w'
      go_simp
      with_reducible rfl
    rotate_left
    · simp only [Act.put, sA_, sB_, sC_, i64_w, i32_w]
      rfl
    refine take_ (i := 2) (N := some 20) (v := ?_) (a' := ?_) #[true, true, true, true, false, false, true, true, true, true, true, false, true, false, false, false, false] rfl rfl (take_ofW HT_.out HW_.out (by kernel_rfl)) (fun _ _ _ h => h) (Or.inl ⟨by rfl, ?_⟩) hHeld ?_ ?_
    rotate_left
    · rintro w' ⟨s0, s1, s2, s3, s4, s5, s6⟩
      go_simp
      with_reducible rfl
    rotate_left
    · simp only [Act.put, sA_, sB_, sC_, i64_w, i32_w]
      rfl
    refine pure_ (i := 4) (N := some 22) (v := ?_) (a' := ?_) #[true, true, true, true, true, false, true, true, true, true, true, false, true, false, false, false, false] rfl rfl (any_of HT_.out (by kernel_rfl)) (fun _ _ _ h => h) (Or.inl ⟨by rfl, ?_⟩) ?_ ?_
    rotate_left
    · intro w'
      go_simp
      with_reducible rfl
    rotate_left
    · simp only [Act.put, sA_, sB_, sC_, i64_w, i32_w]
      rfl
    refine take_ (i := 5) (N := some 23) (v := ?_) (a' := ?_) #[true, true, true, true, true, true, true, true, true, true, true, false, true, false, false, false, false] rfl rfl (take_ofW HT_.out HW_.out (by kernel_rfl)) (fun _ _ _ h => h) (Or.inl ⟨by rfl, ?_⟩) hHeld ?_ ?_
    rotate_left
    · rintro w' ⟨s0, s1, s2, s3, s4, s5, s6⟩
      go_simp
      with_reducible rfl
    rotate_left
    · simp only [Act.put, sA_, sB_, sC_, i64_w, i32_w]
      rfl
    refine take_ (i := 11) (N := some 29) (v := ?_) (a' := ?_) (tf_ 13 17) rfl rfl (take_ofW HT_.out HW_.out (by kernel_rfl)) (fun _ _ _ h => h) (Or.inl ⟨by rfl, ?_⟩) hHeld ?_ ?_
    rotate_left
    · rintro w' ⟨s0, s1, s2, s3, s4, s5, s6⟩
      go_simp
      with_reducible rfl
    rotate_left
    · simp only [Act.put, sA_, sB_, sC_, i64_w, i32_w]
      rfl
    refine one_ (i := 13) (N := some 31) #[true, true, true, true, true, true, true, true, true, true, true, true, true, true, false, false, false] rfl rfl (one_of HT_.out (by kernel_rfl)) (by decide) (fun K hK => ?_)
    refine goes_ Try.func37 (by kernel_rfl) rfl #[.agg #[.int .i64 ((rd_T62 l0_0 x10_1).f0), .int .i64 ((rd_T62 l0_0 x10_1).f1), .int .i64 ((rd_T62 l0_0 x10_1).f2), .int .u8 ((rd_T62 l0_0 x10_1).f3)], .int .i64 (rd x9_1 (ji11)), .int .i64 a3] (by rfl) rfl rfl (by (try simp only [List.map_toArray, List.map_cons, List.map_nil]); first | done | (simp only [hji11]; rfl) | rfl | (simp only [List.length_drop, List.length_take]; rfl)) ?_
    with_reducible refine (span_Next.calls ((rd_T62 l0_0 x10_1).f0) ((rd_T62 l0_0 x10_1).f1) ((rd_T62 l0_0 x10_1).f2) ((rd_T62 l0_0 x10_1).f3) (rd x9_1 (ji11)) a3 t137 _ A14.out).mono ?_
    rintro e w18 ⟨rfl, hb⟩
    have HS6_ := (hb.cell (World.block_lt_of_cell? _ _ (hHeld.2.2.2.2.2.2))).trans (hHeld.2.2.2.2.2.2); refine ⟨_, rfl, ?_⟩
    have n0_ := zD.mk (Kd.R_below (by (with_reducible repeat (first | apply Kd.R_alloc | apply Kd.R_drewN | apply Kd.R_drew)); exact HO_9.out) hb)
    have n1_ := zD.mk (zK (g := gb131) (o := .cells #[.slice (some ad135) l0_0.length c0_0, .slice A0_1 l0_1.length c0_1] 31 (0, 0)) (by (with_reducible repeat (first | refine zB ?_ _ | refine zC ?_ | refine zA ?_ _)); exact BK131.out) hb)
    have n2_ := zD.mk (below_step (by repeat (first | (with_reducible first | exact HB.out | apply zJ | apply zF | apply zI | refine zE ?_ GE131.out) | exact HB.out)) hb)
    clear HO_9 BK131 HB; have HO_9 := n0_; have BK131 := n1_; have HB := n2_; clear n0_ n1_ n2_; (try clear hb)
    (try clear hb2)
    (try clear hk)
    (try clear hi)
    refine hK.out _ _ ⟨(zH BK131.out 0).trans rfl, (zH BK131.out 1).trans rfl, ((HB.out.cell (World.block_lt_of_cell? w _ hw135_0)).trans hw135_0), ((HB.out.cell (World.block_lt_of_cell? w _ hw135_1)).trans hw135_1), ((HB.out.cell (World.block_lt_of_cell? w _ hw135_2)).trans hw135_2), ((HB.out.cell (World.block_lt_of_cell? w _ hw135_3)).trans hw135_3), HS6_⟩ (fun hHeld => ?_)
    clear hK K; refine norm_ (a' := ?_) ?_ ?_
    rotate_left
    · show Act.put _ (some 31) _ = _
      simp only [Act.put, sA_, sB_, sC_, i64_w, i32_w]; rfl
    refine last_ (i := 14) (N := some 32) #[true, true, true, true, true, true, true, true, true, true, true, true, true, true, true, false, false] rfl rfl (one_of HT_.out (by kernel_rfl)) (by decide) (fun K hK => ?_)
    refine value_ (w1 := ?_) (v := ?_) (by rfl) rfl ?_ ?_
    rotate_left 2
    · go_simp
      constructor
      · rfl
      rfl
    refine hK.out _ _ ?_
    clear hK K; refine norm_ (a' := ?_) ?_ ?_
    rotate_left
    · show Act.put _ (some 32) _ = _
      simp only [Act.put, sA_, sB_, sC_, i64_w, i32_w]; rfl
    refine last_ (i := 15) (N := some 33) #[true, true, true, true, true, true, true, true, true, true, true, true, true, true, true, true, false] rfl rfl (one_of HT_.out (by kernel_rfl)) (by decide) (fun K hK => ?_)
    refine Kd.R_append_step (Kd.int .i64) (w0 := w) w.heap.size (by rfl) (.tmp 18) (.tmp 32) 37 3 (.int .i64 0) 8 rfl Try.underlying37 info3 rfl (by decide) (by omega) (.slice (some ad136) x9_1.length co17) x9_1 t137 [.int .i64 t137] (fun _ => True) (fun _ => False) rfl rfl ?aP (fun _ hk => hk.elim) ?aF ?aO ?aB ?aS ?aL ?_
    (case aP => exact rfl)
    (case aB => exact (by repeat (first | (with_reducible first | exact HB.out | apply zJ | apply zF | apply zI | refine zE ?_ GE131.out) | exact HB.out)))
    (case aF => exact (fun _ _ => trivial))
    (case aO => exact (by (with_reducible repeat (first | apply Kd.R_alloc | apply Kd.R_drewN | apply Kd.R_drew)); exact HO_9.out))
    (case aS => exact (zM (by repeat (first | (with_reducible first | exact HB.out | apply zJ | apply zF | apply zI | refine zE ?_ GE131.out) | exact HB.out))))
    (case aL => have := LMc15.out; omega)
    intro v139 w19 ho hb hg hat
    rw [← Ny138.out] at ho; have n0_ := zD.mk (blk_grown (g := gb131) (o := .cells #[.slice (some ad135) l0_0.length c0_0, .slice A0_1 l0_1.length c0_1] 31 (0, 0)) (by (with_reducible repeat (first | refine zB ?_ _ | refine zC ?_ | refine zA ?_ _)); exact BK131.out) hg (Kd.R_ne HO_9.out BK131.out (by decide)))
    have n1_ := zD.mk (hb); have n2_ := zD.mk (ho); clear BK131; clear HB; clear HO_9; have BK131 := n0_; have HB := n1_; have HO140 := n2_; clear n0_ n1_ n2_; clear ho hb hg hat; refine hK.out _ _ ?_
    clear hK K; refine norm_ (a' := ?_) ?_ ?_
    rotate_left
    · show Act.put _ (some 33) _ = _
      simp only [Act.put, sA_, sB_, sC_, i64_w, i32_w]; rfl
    refine pure_ (i := 16) (N := some 9) (v := ?_) (a' := ?_) #[true, true, true, true, true, true, true, true, true, true, true, true, true, true, true, true, true] rfl rfl (any_of HT_.out (by kernel_rfl)) (fun _ _ _ h => h) (Or.inl ⟨by rfl, ?_⟩) ?_ ?_
    rotate_left
    · intro w'
      go_simp
      with_reducible rfl
    rotate_left
    · simp only [Act.put, sA_, sB_, sC_, i64_w, i32_w]
      rfl
    refine done_ (done_of HT_.out (by kernel_rfl)) ?_
    try go_wp2
    go_roundg k1
    case measure => have := HK1.out; omega
    case rel => exact ⟨(y138), (wrap64 (x10_1 + 1)), (by first | rfl | (simp; done) | (simp [*]; done)), H', ⟨by have := HK1.out; omega⟩, ⟨by (with_reducible repeat (first | apply Kd.R_alloc | apply Kd.R_drewN | apply Kd.R_drew)); exact HO140.out⟩, ⟨by (with_reducible repeat (first | refine zB ?_ _ | refine zC ?_ | refine zA ?_ _)); exact BK131.out⟩, ⟨by repeat (first | (with_reducible first | exact HB.out | apply zJ | apply zF | apply zI | refine zE ?_ GE131.out) | exact HB.out)⟩⟩
end Go.Proofs.Ytlgclhhkgohanaa.F
end
section
namespace Go.Proofs.Ytlgclhhkgohanaa.F
open Go.RowKit Go.Proofs.YtlgclhhkgohanaaW.PrintWords Go.Proofs.YtlgclhhkgohanaaW.PrintLast Go.Proofs.YtlgclhhkgohanaaW.PrintMore
attribute [local go_sem] max2_int min2_int max_two min_two max_three min_three max_four min_four   -- for this text's walks alone
set_option linter.unusedVariables false
set_option linter.unusedSimpArgs false
def span_Cells.f (k : Nat) (l0_0 : List (S62)) (l0_1 : List Int) (a1 : Int) (a2 : Int) (a3 : Int) (a4 : Int) : Option (Int) := (span_Trim.f k l0_0 l0_1 a1 a2).bind fun t142 => ((span_Columns.f k l0_0 l0_1 a1 t142 a4).bind fun t143 => (if 0 ≤ (wrap64 ((t143.length : Int) - 1)) then (if (wrap64 ((t143.length : Int) - 1)) < (t143.length : Int) then (if a3 = 3 then (some (wrap64 ((rd t143 (wrap64 ((t143.length : Int) - 1))) + 1))) else (some (rd t143 (wrap64 ((t143.length : Int) - 1))))) else (none)) else (none)))
theorem span_Cells.mono : ∀ a0 a1 a2 a3 a4 a5 k, LeO (span_Cells.f k a0 a1 a2 a3 a4 a5) (span_Cells.f (k + 1) a0 a1 a2 a3 a4 a5) := by
  intro a0 a1 a2 a3 a4 a5 k
  unfold span_Cells.f
  repeat' first
      | (with_reducible exact span_Columns.mono _ _ _ _ _ _)
      | (with_reducible exact span_Trim.mono _ _ _ _ _)
      | (with_reducible exact LeO.refl _)
      | (with_reducible exact LeO.none _)
      | (with_reducible refine LeO.ite ?_ ?_)
      | (with_reducible refine LeO.bind ?_ (fun _ => ?_))
      | exact span_Columns.mono _ _ _ _ _ _
      | exact span_Trim.mono _ _ _ _ _
      | exact LeO.none _
      | refine LeO.ite ?_ ?_
      | refine LeO.bind ?_ (fun _ => ?_)
def span_Cells.T1 : Bool × List (List Nat × List Nat) := (true, [([], []), ([], []), ([], []), ([], []), ([], []), ([2, 3, 4], [2, 3, 4]), ([], []), ([0, 1, 5, 6, 5], [0, 1, 5, 6]), ([7, 7, 0, 1, 2, 3, 4, 5, 6, 7], [7])])
def span_Cells.B1 : List Nat := [0, 0, 0, 0, 0, 28, 0, 127, 255]
theorem span_Cells.tab1 : rtab .any (opsOf Try.f32 1) = span_Cells.T1 := by kernel_rfl
theorem span_Cells.bits1 : waitsOk span_Cells.T1.2 span_Cells.B1 = true := by kernel_rfl
set_option maxHeartbeats 8000000 in
set_option maxRecDepth 100000 in
theorem span_Cells.calls (k : Nat) (A0_0 : Option Addr) (c0_0 : Nat) (l0_0 : List (S62)) (A0_1 : Option Addr) (c0_1 : Nat) (l0_1 : List Int) (a1 : Int) (a2 : Int) (a3 : Int) (a4 : Int) (r : Int) (w : World) (hr0_0 : Kd.C k62 w A0_0 l0_0.length l0_0) (hc0_0 : l0_0.length ≤ c0_0) (hr0_1 : Kd.C (Kd.int .u8) w A0_1 l0_1.length l0_1) (hc0_1 : l0_1.length ≤ c0_1) (h : span_Cells.f k l0_0 l0_1 a1 a2 a3 a4 = some r) :
    Calls Try.prog 32 #[.agg #[.slice A0_0 l0_0.length c0_0, .slice A0_1 l0_1.length c0_1], .int .i64 a1, .int .i64 a2, .int .u8 a3, .int .i64 a4] w fun e w' => e = .returned (.int .i64 r) ∧ Below w.heap.size w w' := by
  have hu31 := Try.underlying31; have HR0_0 := zD.mk hr0_0; have HC0_0 := zD.mk hc0_0; clear hr0_0 hc0_0; have HR0_1 := zD.mk hr0_1; have HC0_1 := zD.mk hc0_1; clear hr0_1 hc0_1; have HB := zD.mk (Below.refl w.heap.size w); have H : ((span_Trim.f k l0_0 l0_1 a1 a2).bind fun t142 => ((span_Columns.f k l0_0 l0_1 a1 t142 a4).bind fun t143 => (if 0 ≤ (wrap64 ((t143.length : Int) - 1)) then (if (wrap64 ((t143.length : Int) - 1)) < (t143.length : Int) then (if a3 = 3 then (some (wrap64 ((rd t143 (wrap64 ((t143.length : Int) - 1))) + 1))) else (some (rd t143 (wrap64 ((t143.length : Int) - 1))))) else (none)) else (none)))) = some r := h
  clear h; replace H := Option.bind_eq_some_iff.mp H; obtain ⟨t142, A60, H⟩ := H; replace H : ((span_Columns.f k l0_0 l0_1 a1 t142 a4).bind fun t143 => (if 0 ≤ (wrap64 ((t143.length : Int) - 1)) then (if (wrap64 ((t143.length : Int) - 1)) < (t143.length : Int) then (if a3 = 3 then (some (wrap64 ((rd t143 (wrap64 ((t143.length : Int) - 1))) + 1))) else (some (rd t143 (wrap64 ((t143.length : Int) - 1))))) else (none)) else (none))) = some r := H
  have A6 := zD.mk A60; clear A60; replace H := Option.bind_eq_some_iff.mp H; obtain ⟨t143, A70, H⟩ := H; replace H : (if 0 ≤ (wrap64 ((t143.length : Int) - 1)) then (if (wrap64 ((t143.length : Int) - 1)) < (t143.length : Int) then (if a3 = 3 then (some (wrap64 ((rd t143 (wrap64 ((t143.length : Int) - 1))) + 1))) else (some (rd t143 (wrap64 ((t143.length : Int) - 1))))) else (none)) else (none)) = some r := H; have A7 := zD.mk A70; clear A70; obtain ⟨ji8, hji8⟩ : ∃ j_ : Int, (wrap64 ((t143.length : Int) - 1)) = j_ := ⟨_, rfl⟩; replace H : (if 0 ≤ (ji8) then (if (ji8) < (t143.length : Int) then (if a3 = 3 then (some (wrap64 ((rd t143 (ji8)) + 1))) else (some (rd t143 (ji8)))) else (none)) else (none)) = some r := by first | (rw [hji8] at H; exact H) | (simp only [hji8] at H ⊢; exact H)
  (try rw [hji8] at A6)
  (try rw [hji8] at A7)
  have hji8w : (IntKind.i64.wrap ((t143.length : Int) - 1)) = ji8 := (i64_w _).trans hji8
  by_cases c9 : 0 ≤ (ji8)
  rotate_left
  · rw [if_neg c9] at H
    exact absurd H (by simp)
  rw [if_pos c9] at H; have c9b0 : decide (0 ≤ (ji8)) = true := decide_eq_true c9
  clear c9; by_cases c10 : (ji8) < (t143.length : Int)
  rotate_left
  · rw [if_neg c10] at H
    exact absurd H (by simp)
  rw [if_pos c10] at H; have c10b0 : decide ((ji8) < (t143.length : Int)) = true := decide_eq_true c10
  clear c10; by_cases c11 : a3 = 3
  · rw [if_pos c11] at H
    have c11b0 : (a3 == 3) = true := beq_iff_eq.mpr c11
    have c11b1 : (a3 != 3) = false := bne_eq_false_iff_eq.mpr c11
    clear c11; obtain rfl := Option.some.inj H
    go_enter Try.func32, Try.ntmps32
    try go_wp2_with (first | ((with_reducible refine gate_dst (N := 5) rfl ?_); refine box_event ?hg (N := 5) ?hd (cs := #[.slice A0_0 l0_0.length c0_0, .slice A0_1 l0_1.length c0_1]) (t := 31) ?hr ?_; (case hd => rfl); (case hg => rfl); (case hr => first | (go_simp; done) | (go_simp; rfl)); intro gb141 hg w12 hbox hb; have n0_ := zD.mk (below_step (by repeat (first | (with_reducible first | exact HB.out | apply zJ | apply zF | apply zI) | exact HB.out)) hb); have n1_ := zD.mk (hbox); have n2_ := zD.mk ((by rw [hg]; exact (zM (by repeat (first | (with_reducible first | exact HB.out | apply zJ | apply zF | apply zI) | exact HB.out))) : w.heap.size ≤ gb141)); have n3_ := zD.mk ((by rw [hg]; exact (zM (by repeat (first | (with_reducible first | exact HB.out | apply zJ | apply zF | apply zI) | exact HB.out))) : w.heap.size ≤ gb141)); clear HB; have HB := n0_; have BK141 := n1_; have GW141 := n2_; have GE141 := n3_; clear n0_ n1_ n2_ n3_; clear hb hbox hg))
    have n0_ := zD.mk (zC BK141.out); have n1_ := zD.mk (zI HB.out); clear BK141; clear HB; have BK141 := n0_; have HB := n1_; clear n0_ n1_; refine start_ (n := 9) (S := fun w' => w'.cell? ⟨gb141, 0, none⟩ = some (.slice A0_0 l0_0.length c0_0) ∧ w'.cell? ⟨gb141, 1, none⟩ = some (.slice A0_1 l0_1.length c0_1)) (ds := []) #[false, false, false, false, false, false, false, false, false] (by kernel_rfl) rfl rfl ⟨(zH BK141.out 0).trans rfl, (zH BK141.out 1).trans rfl⟩ (fun hHeld => ?_); refine with_tabW span_Cells.tab1 span_Cells.bits1 (fun HT_ HW_ => ?_)
    generalize w12.drew = w13 at BK141 HB hHeld ⊢
    refine pure_ (i := 1) (N := some 14) (v := ?_) (a' := ?_) #[false, true, false, false, false, false, false, false, false] rfl rfl (any_of HT_.out (by kernel_rfl)) (fun _ _ _ h => h) (Or.inl ⟨by rfl, ?_⟩) ?_ ?_
    rotate_left
    · intro w'
      go_simp
      with_reducible rfl
    rotate_left
    · simp only [Act.put, sA_, sB_, sC_, i64_w, i32_w]
      rfl
    refine pure_ (i := 3) (N := some 16) (v := ?_) (a' := ?_) #[false, true, false, true, false, false, false, false, false] rfl rfl (any_of HT_.out (by kernel_rfl)) (fun _ _ _ h => h) (Or.inl ⟨by rfl, ?_⟩) ?_ ?_
    rotate_left
    · intro w'
      go_simp
      with_reducible rfl
    rotate_left
    · simp only [Act.put, sA_, sB_, sC_, i64_w, i32_w]
      rfl
    refine pure_ (i := 4) (N := some 17) (v := ?_) (a' := ?_) #[false, true, false, true, true, false, false, false, false] rfl rfl (any_of HT_.out (by kernel_rfl)) (fun _ _ _ h => h) (Or.inl ⟨by rfl, ?_⟩) ?_ ?_
    rotate_left
    · intro w'
      go_simp
      with_reducible rfl
    rotate_left
    · simp only [Act.put, sA_, sB_, sC_, i64_w, i32_w]
      rfl
    refine pure_ (i := 6) (N := some 19) (v := ?_) (a' := ?_) #[false, true, false, true, true, false, true, false, false] rfl rfl (any_of HT_.out (by kernel_rfl)) (fun _ _ _ h => h) (Or.inl ⟨by rfl, ?_⟩) ?_ ?_
    rotate_left
    · intro w'
      go_simp
      with_reducible rfl
    rotate_left
    · simp only [Act.put, sA_, sB_, sC_, i64_w, i32_w]
      rfl
    refine take_ (i := 0) (N := some 13) (v := ?_) (a' := ?_) #[true, true, false, true, true, false, true, false, false] rfl rfl (take_ofW HT_.out HW_.out (by kernel_rfl)) (fun _ _ _ h => h) (Or.inl ⟨by rfl, ?_⟩) hHeld ?_ ?_
    rotate_left
    · rintro w' ⟨s0, s1⟩
      go_simp
      with_reducible rfl
    rotate_left
    · simp only [Act.put, sA_, sB_, sC_, i64_w, i32_w]
      rfl
    refine take_ (i := 2) (N := some 15) (v := ?_) (a' := ?_) #[true, true, true, true, true, false, true, false, false] rfl rfl (take_ofW HT_.out HW_.out (by kernel_rfl)) (fun _ _ _ h => h) (Or.inl ⟨by rfl, ?_⟩) hHeld ?_ ?_
    rotate_left
    · rintro w' ⟨s0, s1⟩
      go_simp
      with_reducible rfl
    rotate_left
    · simp only [Act.put, sA_, sB_, sC_, i64_w, i32_w]
      rfl
    refine one_ (i := 5) (N := some 18) #[true, true, true, true, true, true, true, false, false] rfl rfl (one_of HT_.out (by kernel_rfl)) (by decide) (fun K hK => ?_)
    refine goes_ Try.func38 (by kernel_rfl) rfl #[.agg #[.slice A0_0 l0_0.length c0_0, .slice A0_1 l0_1.length c0_1], .int .i64 a1, .int .i64 a2] (by rfl) rfl rfl (by (try simp only [List.map_toArray, List.map_cons, List.map_nil]); first | done | rfl | (simp only [List.length_drop, List.length_take]; rfl)) ?_
    with_reducible refine (span_Trim.calls k _ _ l0_0 _ _ l0_1 a1 a2 t142 _ ?side1 ?side2 ?side3 ?side4 A6.out).mono ?_
    (case side1 => repeat (first | exact (Kd.C_below HR0_0.out HB.out) | (with_reducible refine Kd.C_alloc ?_ _) | (with_reducible refine Kd.C_drewN ?_ _) | (with_reducible refine Kd.C_drew ?_)))
    (case side2 => exact HC0_0.out)
    (case side3 => repeat (first | exact (Kd.C_below HR0_1.out HB.out) | (with_reducible refine Kd.C_alloc ?_ _) | (with_reducible refine Kd.C_drewN ?_ _) | (with_reducible refine Kd.C_drew ?_)))
    (case side4 => exact HC0_1.out)
    rintro e w14 ⟨rfl, hb⟩
    refine ⟨_, rfl, ?_⟩
    have n0_ := zD.mk (zK (g := gb141) (o := .cells #[.slice A0_0 l0_0.length c0_0, .slice A0_1 l0_1.length c0_1] 31 (0, 0)) (by (with_reducible repeat (first | refine zB ?_ _ | refine zC ?_ | refine zA ?_ _)); exact BK141.out) hb)
    have n1_ := zD.mk (below_step (by repeat (first | (with_reducible first | exact HB.out | apply zJ | apply zF | apply zI | refine zE ?_ GE141.out) | exact HB.out)) hb)
    clear BK141 HB; have BK141 := n0_; have HB := n1_; clear n0_ n1_; (try clear hb)
    (try clear hb2)
    (try clear hk)
    (try clear hi)
    refine hK.out _ _ ⟨(zH BK141.out 0).trans rfl, (zH BK141.out 1).trans rfl⟩ (fun hHeld => ?_)
    clear hK K; refine norm_ (a' := ?_) ?_ ?_
    rotate_left
    · show Act.put _ (some 18) _ = _
      simp only [Act.put, sA_, sB_, sC_, i64_w, i32_w]; rfl
    refine one_ (i := 7) (N := some 20) #[true, true, true, true, true, true, true, true, false] rfl rfl (one_of HT_.out (by kernel_rfl)) (by decide) (fun K hK => ?_)
    refine goes_ Try.func44 (by kernel_rfl) rfl #[.agg #[.slice A0_0 l0_0.length c0_0, .slice A0_1 l0_1.length c0_1], .int .i64 a1, .int .i64 t142, .int .i64 a4] (by rfl) rfl rfl (by (try simp only [List.map_toArray, List.map_cons, List.map_nil]); first | done | rfl | (simp only [List.length_drop, List.length_take]; rfl)) ?_
    with_reducible refine (span_Columns.calls k _ _ l0_0 _ _ l0_1 a1 t142 a4 t143 _ ?side1 ?side2 ?side3 ?side4 A7.out).mono ?_
    (case side1 => repeat (first | exact (Kd.C_below HR0_0.out HB.out) | (with_reducible refine Kd.C_alloc ?_ _) | (with_reducible refine Kd.C_drewN ?_ _) | (with_reducible refine Kd.C_drew ?_)))
    (case side2 => exact HC0_0.out)
    (case side3 => repeat (first | exact (Kd.C_below HR0_1.out HB.out) | (with_reducible refine Kd.C_alloc ?_ _) | (with_reducible refine Kd.C_drewN ?_ _) | (with_reducible refine Kd.C_drew ?_)))
    (case side4 => exact HC0_1.out)
    rintro e w15 ⟨v144, rfl, ho0, hb⟩
    refine ⟨_, rfl, ?_⟩
    have n0_ := zD.mk (Kd.R_lower ho0 (zM (by repeat (first | (with_reducible first | exact HB.out | apply zJ | apply zF | apply zI | refine zE ?_ GE141.out) | exact HB.out))))
    have n1_ := zD.mk (zK (g := gb141) (o := .cells #[.slice A0_0 l0_0.length c0_0, .slice A0_1 l0_1.length c0_1] 31 (0, 0)) (by (with_reducible repeat (first | refine zB ?_ _ | refine zC ?_ | refine zA ?_ _)); exact BK141.out) hb)
    have n2_ := zD.mk (below_step (by repeat (first | (with_reducible first | exact HB.out | apply zJ | apply zF | apply zI | refine zE ?_ GE141.out) | exact HB.out)) hb)
    clear BK141 HB; have HO145 := n0_; have BK141 := n1_; have HB := n2_; clear n0_ n1_ n2_; (try clear hb)
    (try clear hb2)
    (try clear hk)
    (try clear hi)
    (try clear ho0)
    refine hK.out _ _ ⟨(zH BK141.out 0).trans rfl, (zH BK141.out 1).trans rfl⟩ (fun hHeld => ?_)
    clear hK K; refine norm_ (a' := ?_) ?_ ?_
    rotate_left
    · show Act.put _ (some 20) _ = _
      simp only [Act.put, sA_, sB_, sC_, i64_w, i32_w]; rfl
    refine pure_ (i := 8) (N := some 11) (v := ?_) (a' := ?_) #[true, true, true, true, true, true, true, true, true] rfl rfl (any_of HT_.out (by kernel_rfl)) (fun _ _ _ h => h) (Or.inl ⟨by rfl, ?_⟩) ?_ ?_
    rotate_left
    · intro w'
      go_simp
      with_reducible rfl
    rotate_left
    · simp only [Act.put, sA_, sB_, sC_, i64_w, i32_w]
      rfl
    refine done_ (done_of HT_.out (by kernel_rfl)) ?_
    obtain ⟨Ao16, co16, eo16⟩ := Kd.R_slice HO145.out; subst eo16; have p146 : 0 ≤ ((ji8) : Int) := of_decide_eq_true (by first | (with_reducible assumption) | assumption)
    have q146 : (ji8) < (t143.length : Int) := of_decide_eq_true (by first | (with_reducible assumption) | assumption)
    obtain ⟨ad146, e146, hx146_0⟩ := Kd.at_int (Kd.R_reads' HO145.out).2.2 (ji8) p146 q146; cases e146
    replace p146 := eq_true p146; replace q146 := eq_true q146; try go_wp2
    go_ret
    exact ⟨by first | rfl | (simp [errW_none, errW_some] <;> rfl) | (simp only [← hji8]; first | rfl | (simp [errW_none, errW_some] <;> rfl)) | (simp [*, errW_none, errW_some] <;> rfl), by repeat (first | (with_reducible first | exact HB.out | apply zJ | apply zF | apply zI | refine zE ?_ GE141.out) | exact HB.out)⟩
  rw [if_neg c11] at H; have c11b0 : (a3 == 3) = false := beq_eq_false_iff_ne.mpr c11
  have c11b1 : (a3 != 3) = true := bne_iff_ne.mpr c11
  obtain rfl := Option.some.inj H
  go_enter Try.func32, Try.ntmps32
  try go_wp2_with (first | ((with_reducible refine gate_dst (N := 5) rfl ?_); refine box_event ?hg (N := 5) ?hd (cs := #[.slice A0_0 l0_0.length c0_0, .slice A0_1 l0_1.length c0_1]) (t := 31) ?hr ?_; (case hd => rfl); (case hg => rfl); (case hr => first | (go_simp; done) | (go_simp; rfl)); intro gb141 hg w17 hbox hb; have n0_ := zD.mk (below_step (by repeat (first | (with_reducible first | exact HB.out | apply zJ | apply zF | apply zI) | exact HB.out)) hb); have n1_ := zD.mk (hbox); have n2_ := zD.mk ((by rw [hg]; exact (zM (by repeat (first | (with_reducible first | exact HB.out | apply zJ | apply zF | apply zI) | exact HB.out))) : w.heap.size ≤ gb141)); have n3_ := zD.mk ((by rw [hg]; exact (zM (by repeat (first | (with_reducible first | exact HB.out | apply zJ | apply zF | apply zI) | exact HB.out))) : w.heap.size ≤ gb141)); clear HB; have HB := n0_; have BK141 := n1_; have GW141 := n2_; have GE141 := n3_; clear n0_ n1_ n2_ n3_; clear hb hbox hg))
  have n0_ := zD.mk (zC BK141.out); have n1_ := zD.mk (zI HB.out); clear BK141; clear HB; have BK141 := n0_; have HB := n1_; clear n0_ n1_; refine start_ (n := 9) (S := fun w' => w'.cell? ⟨gb141, 0, none⟩ = some (.slice A0_0 l0_0.length c0_0) ∧ w'.cell? ⟨gb141, 1, none⟩ = some (.slice A0_1 l0_1.length c0_1)) (ds := []) #[false, false, false, false, false, false, false, false, false] (by kernel_rfl) rfl rfl ⟨(zH BK141.out 0).trans rfl, (zH BK141.out 1).trans rfl⟩ (fun hHeld => ?_); refine with_tabW span_Cells.tab1 span_Cells.bits1 (fun HT_ HW_ => ?_)
  generalize w17.drew = w18 at BK141 HB hHeld ⊢
  refine pure_ (i := 1) (N := some 14) (v := ?_) (a' := ?_) #[false, true, false, false, false, false, false, false, false] rfl rfl (any_of HT_.out (by kernel_rfl)) (fun _ _ _ h => h) (Or.inl ⟨by rfl, ?_⟩) ?_ ?_
  rotate_left
  · intro w'
    go_simp
    with_reducible rfl
  rotate_left
  · simp only [Act.put, sA_, sB_, sC_, i64_w, i32_w]
    rfl
  refine pure_ (i := 3) (N := some 16) (v := ?_) (a' := ?_) #[false, true, false, true, false, false, false, false, false] rfl rfl (any_of HT_.out (by kernel_rfl)) (fun _ _ _ h => h) (Or.inl ⟨by rfl, ?_⟩) ?_ ?_
  rotate_left
  · intro w'
    go_simp
    with_reducible rfl
  rotate_left
  · simp only [Act.put, sA_, sB_, sC_, i64_w, i32_w]
    rfl
  refine pure_ (i := 4) (N := some 17) (v := ?_) (a' := ?_) #[false, true, false, true, true, false, false, false, false] rfl rfl (any_of HT_.out (by kernel_rfl)) (fun _ _ _ h => h) (Or.inl ⟨by rfl, ?_⟩) ?_ ?_
  rotate_left
  · intro w'
    go_simp
    with_reducible rfl
  rotate_left
  · simp only [Act.put, sA_, sB_, sC_, i64_w, i32_w]
    rfl
  refine pure_ (i := 6) (N := some 19) (v := ?_) (a' := ?_) #[false, true, false, true, true, false, true, false, false] rfl rfl (any_of HT_.out (by kernel_rfl)) (fun _ _ _ h => h) (Or.inl ⟨by rfl, ?_⟩) ?_ ?_
  rotate_left
  · intro w'
    go_simp
    with_reducible rfl
  rotate_left
  · simp only [Act.put, sA_, sB_, sC_, i64_w, i32_w]
    rfl
  refine take_ (i := 0) (N := some 13) (v := ?_) (a' := ?_) #[true, true, false, true, true, false, true, false, false] rfl rfl (take_ofW HT_.out HW_.out (by kernel_rfl)) (fun _ _ _ h => h) (Or.inl ⟨by rfl, ?_⟩) hHeld ?_ ?_
  rotate_left
  · rintro w' ⟨s0, s1⟩
    go_simp
    with_reducible rfl
  rotate_left
  · simp only [Act.put, sA_, sB_, sC_, i64_w, i32_w]
    rfl
  refine take_ (i := 2) (N := some 15) (v := ?_) (a' := ?_) #[true, true, true, true, true, false, true, false, false] rfl rfl (take_ofW HT_.out HW_.out (by kernel_rfl)) (fun _ _ _ h => h) (Or.inl ⟨by rfl, ?_⟩) hHeld ?_ ?_
  rotate_left
  · rintro w' ⟨s0, s1⟩
    go_simp
    with_reducible rfl
  rotate_left
  · simp only [Act.put, sA_, sB_, sC_, i64_w, i32_w]
    rfl
  refine one_ (i := 5) (N := some 18) #[true, true, true, true, true, true, true, false, false] rfl rfl (one_of HT_.out (by kernel_rfl)) (by decide) (fun K hK => ?_)
  refine goes_ Try.func38 (by kernel_rfl) rfl #[.agg #[.slice A0_0 l0_0.length c0_0, .slice A0_1 l0_1.length c0_1], .int .i64 a1, .int .i64 a2] (by rfl) rfl rfl (by (try simp only [List.map_toArray, List.map_cons, List.map_nil]); first | done | rfl | (simp only [List.length_drop, List.length_take]; rfl)) ?_
  with_reducible refine (span_Trim.calls k _ _ l0_0 _ _ l0_1 a1 a2 t142 _ ?side1 ?side2 ?side3 ?side4 A6.out).mono ?_
  (case side1 => repeat (first | exact (Kd.C_below HR0_0.out HB.out) | (with_reducible refine Kd.C_alloc ?_ _) | (with_reducible refine Kd.C_drewN ?_ _) | (with_reducible refine Kd.C_drew ?_)))
  (case side2 => exact HC0_0.out)
  (case side3 => repeat (first | exact (Kd.C_below HR0_1.out HB.out) | (with_reducible refine Kd.C_alloc ?_ _) | (with_reducible refine Kd.C_drewN ?_ _) | (with_reducible refine Kd.C_drew ?_)))
  (case side4 => exact HC0_1.out)
  rintro e w19 ⟨rfl, hb⟩
  refine ⟨_, rfl, ?_⟩
  have n0_ := zD.mk (zK (g := gb141) (o := .cells #[.slice A0_0 l0_0.length c0_0, .slice A0_1 l0_1.length c0_1] 31 (0, 0)) (by (with_reducible repeat (first | refine zB ?_ _ | refine zC ?_ | refine zA ?_ _)); exact BK141.out) hb)
  have n1_ := zD.mk (below_step (by repeat (first | (with_reducible first | exact HB.out | apply zJ | apply zF | apply zI | refine zE ?_ GE141.out) | exact HB.out)) hb)
  clear BK141 HB; have BK141 := n0_; have HB := n1_; clear n0_ n1_; (try clear hb)
  (try clear hb2)
  (try clear hk)
  (try clear hi)
  refine hK.out _ _ ⟨(zH BK141.out 0).trans rfl, (zH BK141.out 1).trans rfl⟩ (fun hHeld => ?_)
  clear hK K; refine norm_ (a' := ?_) ?_ ?_
  rotate_left
  · show Act.put _ (some 18) _ = _
    simp only [Act.put, sA_, sB_, sC_, i64_w, i32_w]; rfl
  refine one_ (i := 7) (N := some 20) #[true, true, true, true, true, true, true, true, false] rfl rfl (one_of HT_.out (by kernel_rfl)) (by decide) (fun K hK => ?_)
  refine goes_ Try.func44 (by kernel_rfl) rfl #[.agg #[.slice A0_0 l0_0.length c0_0, .slice A0_1 l0_1.length c0_1], .int .i64 a1, .int .i64 t142, .int .i64 a4] (by rfl) rfl rfl (by (try simp only [List.map_toArray, List.map_cons, List.map_nil]); first | done | rfl | (simp only [List.length_drop, List.length_take]; rfl)) ?_
  with_reducible refine (span_Columns.calls k _ _ l0_0 _ _ l0_1 a1 t142 a4 t143 _ ?side1 ?side2 ?side3 ?side4 A7.out).mono ?_
  (case side1 => repeat (first | exact (Kd.C_below HR0_0.out HB.out) | (with_reducible refine Kd.C_alloc ?_ _) | (with_reducible refine Kd.C_drewN ?_ _) | (with_reducible refine Kd.C_drew ?_)))
  (case side2 => exact HC0_0.out)
  (case side3 => repeat (first | exact (Kd.C_below HR0_1.out HB.out) | (with_reducible refine Kd.C_alloc ?_ _) | (with_reducible refine Kd.C_drewN ?_ _) | (with_reducible refine Kd.C_drew ?_)))
  (case side4 => exact HC0_1.out)
  rintro e w20 ⟨v144, rfl, ho0, hb⟩
  refine ⟨_, rfl, ?_⟩
  have n0_ := zD.mk (Kd.R_lower ho0 (zM (by repeat (first | (with_reducible first | exact HB.out | apply zJ | apply zF | apply zI | refine zE ?_ GE141.out) | exact HB.out))))
  have n1_ := zD.mk (zK (g := gb141) (o := .cells #[.slice A0_0 l0_0.length c0_0, .slice A0_1 l0_1.length c0_1] 31 (0, 0)) (by (with_reducible repeat (first | refine zB ?_ _ | refine zC ?_ | refine zA ?_ _)); exact BK141.out) hb)
  have n2_ := zD.mk (below_step (by repeat (first | (with_reducible first | exact HB.out | apply zJ | apply zF | apply zI | refine zE ?_ GE141.out) | exact HB.out)) hb)
  clear BK141 HB; have HO145 := n0_; have BK141 := n1_; have HB := n2_; clear n0_ n1_ n2_; (try clear hb)
  (try clear hb2)
  (try clear hk)
  (try clear hi)
  (try clear ho0)
  refine hK.out _ _ ⟨(zH BK141.out 0).trans rfl, (zH BK141.out 1).trans rfl⟩ (fun hHeld => ?_)
  clear hK K; refine norm_ (a' := ?_) ?_ ?_
  rotate_left
  · show Act.put _ (some 20) _ = _
    simp only [Act.put, sA_, sB_, sC_, i64_w, i32_w]; rfl
  refine pure_ (i := 8) (N := some 11) (v := ?_) (a' := ?_) #[true, true, true, true, true, true, true, true, true] rfl rfl (any_of HT_.out (by kernel_rfl)) (fun _ _ _ h => h) (Or.inl ⟨by rfl, ?_⟩) ?_ ?_
  rotate_left
  · intro w'
    go_simp
    with_reducible rfl
  rotate_left
  · simp only [Act.put, sA_, sB_, sC_, i64_w, i32_w]
    rfl
  refine done_ (done_of HT_.out (by kernel_rfl)) ?_
  obtain ⟨Ao21, co21, eo21⟩ := Kd.R_slice HO145.out; subst eo21; have p146 : 0 ≤ ((ji8) : Int) := of_decide_eq_true (by first | (with_reducible assumption) | assumption)
  have q146 : (ji8) < (t143.length : Int) := of_decide_eq_true (by first | (with_reducible assumption) | assumption)
  obtain ⟨ad146, e146, hx146_0⟩ := Kd.at_int (Kd.R_reads' HO145.out).2.2 (ji8) p146 q146; cases e146
  replace p146 := eq_true p146; replace q146 := eq_true q146; try go_wp2
  go_ret
  exact ⟨by first | rfl | (simp [errW_none, errW_some] <;> rfl) | (simp only [← hji8]; first | rfl | (simp [errW_none, errW_some] <;> rfl)) | (simp [*, errW_none, errW_some] <;> rfl), by repeat (first | (with_reducible first | exact HB.out | apply zJ | apply zF | apply zI | refine zE ?_ GE141.out) | exact HB.out)⟩
end Go.Proofs.Ytlgclhhkgohanaa.F
end
section
namespace Go.Proofs.Ytlgclhhkgohanaa.F
open Go.RowKit Go.Proofs.YtlgclhhkgohanaaW.PrintWords Go.Proofs.YtlgclhhkgohanaaW.PrintLast Go.Proofs.YtlgclhhkgohanaaW.PrintMore
attribute [local go_sem] max2_int min2_int max_two min_two max_three min_three max_four min_four   -- for this text's walks alone
set_option linter.unusedVariables false
set_option linter.unusedSimpArgs false
def span_Make.f (k : Nat) (l0_0 : List (S62)) (l0_1 : List Int) (a1 : Int) (a2 : Int) (a3 : Int) (a4 : Int) : Option (Int × Int × Int × Int) := (span_Cells.f k l0_0 l0_1 a1 a2 a3 a4).bind fun t149 => (some (a1, a2, t149, a3))
theorem span_Make.mono : ∀ a0 a1 a2 a3 a4 a5 k, LeO (span_Make.f k a0 a1 a2 a3 a4 a5) (span_Make.f (k + 1) a0 a1 a2 a3 a4 a5) := by
  intro a0 a1 a2 a3 a4 a5 k
  unfold span_Make.f
  repeat' first
      | (with_reducible exact span_Cells.mono _ _ _ _ _ _ _)
      | (with_reducible exact LeO.refl _)
      | (with_reducible exact LeO.none _)
      | (with_reducible refine LeO.ite ?_ ?_)
      | (with_reducible refine LeO.bind ?_ (fun _ => ?_))
      | exact span_Cells.mono _ _ _ _ _ _ _
      | exact LeO.none _
      | refine LeO.ite ?_ ?_
      | refine LeO.bind ?_ (fun _ => ?_)
set_option maxHeartbeats 8000000 in
set_option maxRecDepth 100000 in
theorem span_Make.calls (k : Nat) (A0_0 : Option Addr) (c0_0 : Nat) (l0_0 : List (S62)) (A0_1 : Option Addr) (c0_1 : Nat) (l0_1 : List Int) (a1 : Int) (a2 : Int) (a3 : Int) (a4 : Int) (r1 : Int) (r2 : Int) (r3 : Int) (r4 : Int) (w : World) (hr0_0 : Kd.C k62 w A0_0 l0_0.length l0_0) (hc0_0 : l0_0.length ≤ c0_0) (hr0_1 : Kd.C (Kd.int .u8) w A0_1 l0_1.length l0_1) (hc0_1 : l0_1.length ≤ c0_1) (h : span_Make.f k l0_0 l0_1 a1 a2 a3 a4 = some (r1, r2, r3, r4)) :
    Calls Try.prog 25 #[.agg #[.slice A0_0 l0_0.length c0_0, .slice A0_1 l0_1.length c0_1], .int .i64 a1, .int .i64 a2, .int .u8 a3, .int .i64 a4] w fun e w' => e = .returned (.agg #[.int .i64 r1, .int .i64 r2, .int .i64 r3, .int .u8 r4]) ∧ Below w.heap.size w w' := by
  have hu31 := Try.underlying31; have hu48 := Try.underlying48; have HR0_0 := zD.mk hr0_0; have HC0_0 := zD.mk hc0_0; clear hr0_0 hc0_0; have HR0_1 := zD.mk hr0_1; have HC0_1 := zD.mk hc0_1; clear hr0_1 hc0_1; have HB := zD.mk (Below.refl w.heap.size w); have H : ((span_Cells.f k l0_0 l0_1 a1 a2 a3 a4).bind fun t149 => (some (a1, a2, t149, a3))) = some (r1, r2, r3, r4) := h
  clear h; replace H := Option.bind_eq_some_iff.mp H; obtain ⟨t149, A60, H⟩ := H; replace H : (some (a1, a2, t149, a3)) = some (r1, r2, r3, r4) := H; have A6 := zD.mk A60; clear A60; simp only [Option.some.injEq, Prod.mk.injEq] at H; obtain ⟨rfl, rfl, rfl, rfl⟩ := H; go_enter Try.func25, Try.ntmps25
  go_wp2_with (first | ((with_reducible refine gate_dst (N := 5) rfl ?_); refine box_event ?hg (N := 5) ?hd (cs := #[.slice A0_0 l0_0.length c0_0, .slice A0_1 l0_1.length c0_1]) (t := 31) ?hr ?_; (case hd => rfl); (case hg => rfl); (case hr => first | (go_simp; done) | (go_simp; rfl)); intro gb147 hg w7 hbox hb; have n0_ := zD.mk (below_step (by repeat (first | (with_reducible first | exact HB.out | apply zJ | apply zF | apply zI) | exact HB.out)) hb); have n1_ := zD.mk (hbox); have n2_ := zD.mk ((by rw [hg]; exact (zM (by repeat (first | (with_reducible first | exact HB.out | apply zJ | apply zF | apply zI) | exact HB.out))) : w.heap.size ≤ gb147)); have n3_ := zD.mk ((by rw [hg]; exact (zM (by repeat (first | (with_reducible first | exact HB.out | apply zJ | apply zF | apply zI) | exact HB.out))) : w.heap.size ≤ gb147)); clear HB; have HB := n0_; have BK147 := n1_; have GW147 := n2_; have GE147 := n3_; clear n0_ n1_ n2_ n3_; clear hb hbox hg) | ((with_reducible refine gate_dst (N := 10) rfl ?_); refine box_event ?hg (N := 10) ?hd (cs := #[.int .i64 0, .int .i64 0, .int .i64 0, .int .u8 0]) (t := 48) ?hr ?_; (case hd => rfl); (case hg => rfl); (case hr => first | (go_simp; done) | (go_simp; rfl)); intro gb148 hg w8 hbox hb; have n0_ := zD.mk (zK (g := gb147) (o := .cells #[.slice A0_0 l0_0.length c0_0, .slice A0_1 l0_1.length c0_1] 31 (0, 0)) (by (with_reducible repeat (first | refine zB ?_ _ | refine zC ?_ | refine zA ?_ _)); exact BK147.out) hb); have n1_ := zD.mk (below_step (by repeat (first | (with_reducible first | exact HB.out | apply zJ | apply zF | apply zI | refine zE ?_ GE147.out) | exact HB.out)) hb); have n2_ := zD.mk (hbox); have n3_ := zD.mk ((by rw [hg]; exact (zM (by repeat (first | (with_reducible first | exact HB.out | apply zJ | apply zF | apply zI | refine zE ?_ GE147.out) | exact HB.out))) : w.heap.size ≤ gb148)); have n4_ := zD.mk ((by rw [hg]; exact (zM (by repeat (first | (with_reducible first | exact HB.out | apply zJ | apply zF | apply zI | refine zE ?_ GE147.out) | exact HB.out))) : w.heap.size ≤ gb148)); have n5_ := zD.mk ((by rw [hg]; exact Nat.ne_of_lt (blk_lt (g := gb147) (o := .cells #[.slice A0_0 l0_0.length c0_0, .slice A0_1 l0_1.length c0_1] 31 (0, 0)) (by (with_reducible repeat (first | refine zB ?_ _ | refine zC ?_ | refine zA ?_ _)); exact BK147.out)) : gb147 ≠ gb148)); have n6_ := zD.mk ((by rw [hg]; exact Nat.ne_of_gt (blk_lt (g := gb147) (o := .cells #[.slice A0_0 l0_0.length c0_0, .slice A0_1 l0_1.length c0_1] 31 (0, 0)) (by (with_reducible repeat (first | refine zB ?_ _ | refine zC ?_ | refine zA ?_ _)); exact BK147.out)) : gb148 ≠ gb147)); clear BK147; clear HB; have BK147 := n0_; have HB := n1_; have BK148 := n2_; have GW148 := n3_; have GE148 := n4_; have NB147_148 := n5_; have NB148_147 := n6_; clear n0_ n1_ n2_ n3_ n4_ n5_ n6_; clear hb hbox hg; have hnb9 := NB147_148.out; have hnc9 := NB148_147.out; have hcz10_0 : w8.cell? ⟨gb147, 0, none⟩ = some (.slice A0_0 l0_0.length c0_0) := (zH BK147.out 0).trans rfl; have hcz10_1 : w8.cell? ⟨gb147, 1, none⟩ = some (.slice A0_1 l0_1.length c0_1) := (zH BK147.out 1).trans rfl; have hfz10_0 := zG BK147.out 0; have hfz10_1 := zG BK147.out 1) | ((with_reducible refine gate_callee (f := 32) rfl ?_); refine goesL_ (some 18) rfl rfl Try.func32 (by kernel_rfl) rfl #[.agg #[.slice A0_0 l0_0.length c0_0, .slice A0_1 l0_1.length c0_1], .int .i64 a1, .int .i64 a2, .int .u8 a3, .int .i64 a4] rfl (by (try simp only [List.map_toArray, List.map_cons, List.map_nil]); first | done | rfl | (simp only [List.length_drop, List.length_take]; rfl)) ?_; (with_reducible refine (span_Cells.calls k _ _ l0_0 _ _ l0_1 a1 a2 a3 a4 t149 _ ?side1 ?side2 ?side3 ?side4 A6.out).mono ?_); (case side1 => repeat (first | exact (Kd.C_below HR0_0.out HB.out) | (with_reducible refine Kd.C_alloc ?_ _) | (with_reducible refine Kd.C_drewN ?_ _) | (with_reducible refine Kd.C_drew ?_))); (case side2 => exact HC0_0.out); (case side3 => repeat (first | exact (Kd.C_below HR0_1.out HB.out) | (with_reducible refine Kd.C_alloc ?_ _) | (with_reducible refine Kd.C_drewN ?_ _) | (with_reducible refine Kd.C_drew ?_))); (case side4 => exact HC0_1.out); rintro e w11 ⟨rfl, hb⟩; refine ⟨_, rfl, ?_⟩; have n0_ := zD.mk (zK (g := gb147) (o := .cells #[.slice A0_0 l0_0.length c0_0, .slice A0_1 l0_1.length c0_1] 31 (0, 0)) (by (with_reducible repeat (first | refine zB ?_ _ | refine zC ?_ | refine zA ?_ _)); exact BK147.out) hb); have n1_ := zD.mk (zK (g := gb148) (o := .cells #[.int .i64 0, .int .i64 0, .int .i64 0, .int .u8 0] 48 (0, 0)) (by (with_reducible repeat (first | refine zB ?_ _ | refine zC ?_ | refine zA ?_ _)); exact BK148.out) hb); have n2_ := zD.mk (below_step (by repeat (first | (with_reducible first | exact HB.out | apply zJ | apply zF | apply zI | refine zE ?_ GE147.out | refine zE ?_ GE148.out) | exact HB.out)) hb); clear BK147; clear BK148; clear HB; have BK147 := n0_; have BK148 := n1_; have HB := n2_; clear n0_ n1_ n2_; (try clear hb); (try clear hb2); (try clear hk); (try clear hi); have hcz12_0 : w11.cell? ⟨gb148, 0, none⟩ = some (.int .i64 0) := (zH BK148.out 0).trans rfl; have hcz12_1 : w11.cell? ⟨gb148, 1, none⟩ = some (.int .i64 0) := (zH BK148.out 1).trans rfl; have hcz12_2 : w11.cell? ⟨gb148, 2, none⟩ = some (.int .i64 0) := (zH BK148.out 2).trans rfl; have hcz12_3 : w11.cell? ⟨gb148, 3, none⟩ = some (.int .u8 0) := (zH BK148.out 3).trans rfl; have hfz12_0 := zG BK148.out 0; have hfz12_1 := zG BK148.out 1; have hfz12_2 := zG BK148.out 2; have hfz12_3 := zG BK148.out 3) | ((with_reducible refine gate_store (t := 48) (p := 10) rfl ?_); refine store_event (t := 48) (p := 10) (v := ?vo_w13) (w1 := ((((w11.setCell ⟨gb148, 0, none⟩ (.int .i64 a1)).setCell ⟨gb148, 1, none⟩ (.int .i64 a2)).setCell ⟨gb148, 2, none⟩ (.int .i64 t149)).setCell ⟨gb148, 3, none⟩ (.int .u8 a3))) ?hg ?ho ?hn ?hr ?_; (case ho => rfl); (case hg => rfl); (case hn => rfl); (case hr => first | (go_simp; done) | (go_simp; rfl)); intro w13 hw; have n0_ : zD (w13.heap[gb147]? = some (.cells #[.slice A0_0 l0_0.length c0_0, .slice A0_1 l0_1.length c0_1] 31 (0, 0))) := ⟨(by rw [hw]; exact (by (with_reducible repeat (first | refine zB ?_ _ | refine zC ?_ | refine zA ?_ _)); refine zL ?_ NB147_148.out _; (with_reducible repeat (first | refine zB ?_ _ | refine zC ?_ | refine zA ?_ _)); refine zL ?_ NB147_148.out _; (with_reducible repeat (first | refine zB ?_ _ | refine zC ?_ | refine zA ?_ _)); refine zL ?_ NB147_148.out _; (with_reducible repeat (first | refine zB ?_ _ | refine zC ?_ | refine zA ?_ _)); refine zL ?_ NB147_148.out _; (with_reducible repeat (first | refine zB ?_ _ | refine zC ?_ | refine zA ?_ _)); exact BK147.out))⟩; have n1_ : zD (w13.heap[gb148]? = some (.cells #[.int .i64 a1, .int .i64 a2, .int .i64 t149, .int .u8 a3] 48 (0, 0))) := ⟨(by rw [hw]; exact (by (with_reducible repeat (first | refine zB ?_ _ | refine zC ?_ | refine zA ?_ _)); refine blk_put (cs := #[.int .i64 a1, .int .i64 a2, .int .i64 t149, .int .u8 0]) ?_ 3 _ rfl; (with_reducible repeat (first | refine zB ?_ _ | refine zC ?_ | refine zA ?_ _)); refine blk_put (cs := #[.int .i64 a1, .int .i64 a2, .int .i64 0, .int .u8 0]) ?_ 2 _ rfl; (with_reducible repeat (first | refine zB ?_ _ | refine zC ?_ | refine zA ?_ _)); refine blk_put (cs := #[.int .i64 a1, .int .i64 0, .int .i64 0, .int .u8 0]) ?_ 1 _ rfl; (with_reducible repeat (first | refine zB ?_ _ | refine zC ?_ | refine zA ?_ _)); refine blk_put (cs := #[.int .i64 0, .int .i64 0, .int .i64 0, .int .u8 0]) ?_ 0 _ rfl; (with_reducible repeat (first | refine zB ?_ _ | refine zC ?_ | refine zA ?_ _)); exact BK148.out))⟩; have n2_ : zD (Below w.heap.size w w13) := ⟨(by rw [hw]; exact (by repeat (first | (with_reducible first | exact HB.out | apply zJ | apply zF | apply zI | refine zE ?_ GE147.out | refine zE ?_ GE148.out) | exact HB.out)))⟩; clear hw; clear BK147; clear BK148; clear HB; have BK147 := n0_; have BK148 := n1_; have HB := n2_; clear n0_ n1_ n2_))
  refine bodyPost_ret (results_cell_row rfl _ _ gb148 48 #[.int .i64 a1, .int .i64 a2, .int .i64 t149, .int .u8 a3] (0, 0) _ rfl (by (with_reducible repeat (first | refine zB ?_ _ | refine zC ?_ | refine zA ?_ _)); exact BK148.out) Try.underlying48 rfl (by kernel_rfl)) rfl ?_
  exact ⟨by first | rfl | (simp [errW_none, errW_some] <;> rfl) | (simp [*, errW_none, errW_some] <;> rfl), by repeat (first | (with_reducible first | exact HB.out | apply zJ | apply zF | apply zI | refine zE ?_ GE147.out | refine zE ?_ GE148.out) | exact HB.out)⟩
end Go.Proofs.Ytlgclhhkgohanaa.F
end
