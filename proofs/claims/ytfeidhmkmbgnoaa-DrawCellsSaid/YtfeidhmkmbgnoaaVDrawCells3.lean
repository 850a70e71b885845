/- Printed by a program: Lean functions that answer as the Go functions do, and the proofs of it. -/
import Derived.Test.YtfeidhmkmbgnoaaXDrawCells0
import Derived.Test.YtfeidhmkmbgnoaaVDrawCells0
import Derived.Test.YtfeidhmkmbgnoaaVDrawCells1
import Derived.Test.YtfeidhmkmbgnoaaVDrawCells2
section
namespace Go.Proofs.Ytfeidhmkmbgnoaa.F
open Go.RowKit Go.Proofs.YtfeidhmkmbgnoaaW.PrintWords Go.Proofs.YtfeidhmkmbgnoaaW.PrintLast Go.Proofs.YtfeidhmkmbgnoaaW.PrintMore
attribute [local go_sem] max2_int min2_int max_two min_two max_three min_three max_four min_four   -- for this text's walks alone
set_option linter.unusedVariables false
set_option linter.unusedSimpArgs false
mutual
def stanzalaw22_DrawCells.l0 : Nat → List (S49) → Int → Int → Int → Int → Int → Int → Int → Nat → Option (Bool)
 | 0, _, _, _, _, _, _, _, _, _ => none
 | k + 1, x0, x26, x27, x486000, x486001, x486002, x486003, x486004, x486005 => if x27 < x26 then (if 0 ≤ x27 then (if x27 < (x0.length : Int) then ((some (x0.set (x27 : Int).toNat (⟨(rd_T49 x0 x27).f0, (rd_T49 x0 x27).f1, 0, (rd_T49 x0 x27).f3⟩ : S49) : List (S49))).bind fun y497 => (stanzalaw22_DrawCells.l0 k (y497.set (x27 : Int).toNat (⟨1, (rd_T49 y497 x27).f1, (rd_T49 y497 x27).f2, (rd_T49 y497 x27).f3⟩ : S49)) x26 (wrap64 (x27 + 1)) x486000 x486001 x486002 x486003 x486004 x486005)) else (none)) else (none)) else ((stanzalaw22_lined.f k x0 x486000 x486001 x486002 x486003 x486004 x486005).bind fun bt499 => ((draw_All.f k bt499.2.2.2.2.2.2.2.2.2 bt499.1 bt499.2.1 bt499.2.2.1 bt499.2.2.2.1 bt499.2.2.2.2.1 bt499.2.2.2.2.2.1 bt499.2.2.2.2.2.2.1 bt499.2.2.2.2.2.2.2.1 bt499.2.2.2.2.2.2.2.2.1 false).bind fun t519 => ((draw_All.f k bt499.2.2.2.2.2.2.2.2.2 bt499.1 bt499.2.1 bt499.2.2.1 bt499.2.2.2.1 bt499.2.2.2.2.1 bt499.2.2.2.2.2.1 bt499.2.2.2.2.2.2.1 bt499.2.2.2.2.2.2.2.1 bt499.2.2.2.2.2.2.2.2.1 true).bind fun t522 => (if (t519.length : Int) = (bt499.2.2.1.length : Int) then (stanzalaw22_DrawCells.j1 k bt499.2.2.1 t519 t522 ((t522.length : Int) != (bt499.2.2.1.length : Int)) bt499.1 bt499.2.1 bt499.2.2.2.1 bt499.2.2.2.2.1 bt499.2.2.2.2.2.1 bt499.2.2.2.2.2.2.1 bt499.2.2.2.2.2.2.2.1 bt499.2.2.2.2.2.2.2.2.1) else (stanzalaw22_DrawCells.j1 k bt499.2.2.1 t519 t522 true bt499.1 bt499.2.1 bt499.2.2.2.1 bt499.2.2.2.2.1 bt499.2.2.2.2.2.1 bt499.2.2.2.2.2.2.1 bt499.2.2.2.2.2.2.2.1 bt499.2.2.2.2.2.2.2.2.1)))))
def stanzalaw22_DrawCells.j1 : Nat → List (S45) → List (List Int) → List (List Int) → Bool → List (S61) → List Int → Int → Int → Int → Int → Int → Nat → Option (Bool)
 | 0, _, _, _, _, _, _, _, _, _, _, _, _ => none
 | k + 1, x7, x10, x11, x68, x518000, x518001, x519000, x519001, x519002, x519003, x519004, x519005 => if x68 = true then (some false) else (stanzalaw22_DrawCells.l1 k x10 x11 x7 (x7.length : Int) 0 x518000 x518001 x519000 x519001 x519002 x519003 x519004 x519005)
def stanzalaw22_DrawCells.l1 : Nat → List (List Int) → List (List Int) → List (S45) → Int → Int → List (S61) → List Int → Int → Int → Int → Int → Int → Nat → Option (Bool)
 | 0, _, _, _, _, _, _, _, _, _, _, _, _, _ => none
 | k + 1, x10, x11, x69, x70, x71, x518000, x518001, x519000, x519001, x519002, x519003, x519004, x519005 => if x71 < x70 then (if 0 ≤ x71 then (if x71 < (x69.length : Int) then ((r3_Gaps.f k x518000 x518001 ((rd_T45 x69 x71).f0) ((rd_T45 x69 x71).f1)).bind fun t527 => (if ((rd_T45 x69 x71).f3) = 2 then (stanzalaw22_DrawCells.j3 k x10 x11 x71 ((rd_T45 x69 x71).f2) x69 x70 x71 false x518000 x518001 x519000 x519001 x519002 x519003 x519004 x519005 ((rd_T45 x69 x71).f0) ((rd_T45 x69 x71).f1) ((rd_T45 x69 x71).f2) ((rd_T45 x69 x71).f3)) else (if ((rd_T45 x69 x71).f3) = 4 then (stanzalaw22_DrawCells.j3 k x10 x11 x71 ((rd_T45 x69 x71).f2) x69 x70 x71 false x518000 x518001 x519000 x519001 x519002 x519003 x519004 x519005 ((rd_T45 x69 x71).f0) ((rd_T45 x69 x71).f1) ((rd_T45 x69 x71).f2) ((rd_T45 x69 x71).f3)) else (if t527 > 0 then (stanzalaw22_DrawCells.j3 k x10 x11 x71 ((rd_T45 x69 x71).f2) x69 x70 x71 (decide (((rd_T45 x69 x71).f2) ≤ x519000)) x518000 x518001 x519000 x519001 x519002 x519003 x519004 x519005 ((rd_T45 x69 x71).f0) ((rd_T45 x69 x71).f1) ((rd_T45 x69 x71).f2) ((rd_T45 x69 x71).f3)) else (stanzalaw22_DrawCells.j3 k x10 x11 x71 ((rd_T45 x69 x71).f2) x69 x70 x71 false x518000 x518001 x519000 x519001 x519002 x519003 x519004 x519005 ((rd_T45 x69 x71).f0) ((rd_T45 x69 x71).f1) ((rd_T45 x69 x71).f2) ((rd_T45 x69 x71).f3)))))) else (none)) else (none)) else (some true)
def stanzalaw22_DrawCells.j3 : Nat → List (List Int) → List (List Int) → Int → Int → List (S45) → Int → Int → Bool → List (S61) → List Int → Int → Int → Int → Int → Int → Nat → Int → Int → Int → Int → Option (Bool)
 | 0, _, _, _, _, _, _, _, _, _, _, _, _, _, _, _, _, _, _, _, _ => none
 | k + 1, x10, x11, x12, x15, x69, x70, x71, x102, x518000, x518001, x519000, x519001, x519002, x519003, x519004, x519005, x527000, x527001, x527002, x527003 => if x102 = true then (if 0 ≤ x12 then (if x12 < (x10.length : Int) then (if ((rd_L5 x10 x12).length : Int) = x527002 then (if x12 < (x11.length : Int) then (if ((rd_L5 x11 x12).length : Int) = x519000 then (stanzalaw22_DrawCells.l1 k x10 x11 x69 x70 (wrap64 (x71 + 1)) x518000 x518001 x519000 x519001 x519002 x519003 x519004 x519005) else (some false)) else (none)) else (some false)) else (none)) else (none)) else (if 0 ≤ x12 then (if x12 < (x10.length : Int) then (if ((rd_L5 x10 x12).length : Int) = x527002 then (if x12 < (x11.length : Int) then (if ((rd_L5 x11 x12).length : Int) = x15 then (stanzalaw22_DrawCells.l1 k x10 x11 x69 x70 (wrap64 (x71 + 1)) x518000 x518001 x519000 x519001 x519002 x519003 x519004 x519005) else (some false)) else (none)) else (some false)) else (none)) else (none))
end
def stanzalaw22_DrawCells.f (k : Nat) (l0 : List (S49)) (a1_0 : Int) (a1_1 : Int) (a1_2 : Int) (a1_3 : Int) (a1_4 : Int) (a1_5 : Nat) : Option (Bool) := (stanzalaw22_Awake.f k).bind fun t486 => (if t486 = true then ((some (([] : List (S49)) : List (S49))).bind fun y487 => (if 0 ≤ (mn (l0.length : Int) 100) then (if (mn (l0.length : Int) 100) ≤ (l0.length : Int) then ((some (l0.take ((mn (l0.length : Int) 100) : Int).toNat : List (S49))).bind fun y490 => (if y487.length + y490.length < 35184372088832 then ((some (y487 ++ y490 : List (S49))).bind fun y494 => (stanzalaw22_DrawCells.l0 k y494 (y494.length : Int) 0 a1_0 a1_1 a1_2 a1_3 a1_4 a1_5)) else (none))) else (none)) else (none))) else (some false))
theorem stanzalaw22_DrawCells.mono_l : ∀ k, (∀ y0 y1 y2 y3 y4 y5 y6 y7 y8, LeO (stanzalaw22_DrawCells.l0 k y0 y1 y2 y3 y4 y5 y6 y7 y8) (stanzalaw22_DrawCells.l0 (k + 1) y0 y1 y2 y3 y4 y5 y6 y7 y8)) ∧ (∀ y0 y1 y2 y3 y4 y5 y6 y7 y8 y9 y10 y11, LeO (stanzalaw22_DrawCells.j1 k y0 y1 y2 y3 y4 y5 y6 y7 y8 y9 y10 y11) (stanzalaw22_DrawCells.j1 (k + 1) y0 y1 y2 y3 y4 y5 y6 y7 y8 y9 y10 y11)) ∧ (∀ y0 y1 y2 y3 y4 y5 y6 y7 y8 y9 y10 y11 y12, LeO (stanzalaw22_DrawCells.l1 k y0 y1 y2 y3 y4 y5 y6 y7 y8 y9 y10 y11 y12) (stanzalaw22_DrawCells.l1 (k + 1) y0 y1 y2 y3 y4 y5 y6 y7 y8 y9 y10 y11 y12)) ∧ (∀ y0 y1 y2 y3 y4 y5 y6 y7 y8 y9 y10 y11 y12 y13 y14 y15 y16 y17 y18 y19, LeO (stanzalaw22_DrawCells.j3 k y0 y1 y2 y3 y4 y5 y6 y7 y8 y9 y10 y11 y12 y13 y14 y15 y16 y17 y18 y19) (stanzalaw22_DrawCells.j3 (k + 1) y0 y1 y2 y3 y4 y5 y6 y7 y8 y9 y10 y11 y12 y13 y14 y15 y16 y17 y18 y19))
 | 0 => ⟨fun _ _ _ _ _ _ _ _ _ r h => by simp [stanzalaw22_DrawCells.l0] at h, fun _ _ _ _ _ _ _ _ _ _ _ _ r h => by simp [stanzalaw22_DrawCells.j1] at h, fun _ _ _ _ _ _ _ _ _ _ _ _ _ r h => by simp [stanzalaw22_DrawCells.l1] at h, fun _ _ _ _ _ _ _ _ _ _ _ _ _ _ _ _ _ _ _ _ r h => by simp [stanzalaw22_DrawCells.j3] at h⟩
 | k + 1 => by
  obtain ⟨ih0, ih1, ih2, ih3⟩ := stanzalaw22_DrawCells.mono_l k; refine ⟨?_, ?_, ?_, ?_⟩
  ·intro y0 y1 y2 y3 y4 y5 y6 y7 y8
   unfold stanzalaw22_DrawCells.l0
   repeat' (with_reducible first | exact ih0 _ _ _ _ _ _ _ _ _ | exact ih1 _ _ _ _ _ _ _ _ _ _ _ _ | exact ih2 _ _ _ _ _ _ _ _ _ _ _ _ _ | exact ih3 _ _ _ _ _ _ _ _ _ _ _ _ _ _ _ _ _ _ _ _ | exact draw_All.mono _ _ _ _ _ _ _ _ _ _ _ _ | exact stanzalaw22_Awake.mono _ | exact stanzalaw22_lined.mono _ _ _ _ _ _ _ _ | exact r3_Gaps.mono _ _ _ _ _ | exact LeO.refl _ | exact LeO.none _ | refine LeO.ite ?_ ?_ | refine LeO.bind ?_ (fun _ => ?_))
  ·intro y0 y1 y2 y3 y4 y5 y6 y7 y8 y9 y10 y11
   unfold stanzalaw22_DrawCells.j1
   repeat' (with_reducible first | exact ih0 _ _ _ _ _ _ _ _ _ | exact ih1 _ _ _ _ _ _ _ _ _ _ _ _ | exact ih2 _ _ _ _ _ _ _ _ _ _ _ _ _ | exact ih3 _ _ _ _ _ _ _ _ _ _ _ _ _ _ _ _ _ _ _ _ | exact draw_All.mono _ _ _ _ _ _ _ _ _ _ _ _ | exact stanzalaw22_Awake.mono _ | exact stanzalaw22_lined.mono _ _ _ _ _ _ _ _ | exact r3_Gaps.mono _ _ _ _ _ | exact LeO.refl _ | exact LeO.none _ | refine LeO.ite ?_ ?_ | refine LeO.bind ?_ (fun _ => ?_))
  ·intro y0 y1 y2 y3 y4 y5 y6 y7 y8 y9 y10 y11 y12
   unfold stanzalaw22_DrawCells.l1
   repeat' (with_reducible first | exact ih0 _ _ _ _ _ _ _ _ _ | exact ih1 _ _ _ _ _ _ _ _ _ _ _ _ | exact ih2 _ _ _ _ _ _ _ _ _ _ _ _ _ | exact ih3 _ _ _ _ _ _ _ _ _ _ _ _ _ _ _ _ _ _ _ _ | exact draw_All.mono _ _ _ _ _ _ _ _ _ _ _ _ | exact stanzalaw22_Awake.mono _ | exact stanzalaw22_lined.mono _ _ _ _ _ _ _ _ | exact r3_Gaps.mono _ _ _ _ _ | exact LeO.refl _ | exact LeO.none _ | refine LeO.ite ?_ ?_ | refine LeO.bind ?_ (fun _ => ?_))
  ·intro y0 y1 y2 y3 y4 y5 y6 y7 y8 y9 y10 y11 y12 y13 y14 y15 y16 y17 y18 y19
   unfold stanzalaw22_DrawCells.j3
   repeat' (with_reducible first | exact ih0 _ _ _ _ _ _ _ _ _ | exact ih1 _ _ _ _ _ _ _ _ _ _ _ _ | exact ih2 _ _ _ _ _ _ _ _ _ _ _ _ _ | exact ih3 _ _ _ _ _ _ _ _ _ _ _ _ _ _ _ _ _ _ _ _ | exact draw_All.mono _ _ _ _ _ _ _ _ _ _ _ _ | exact stanzalaw22_Awake.mono _ | exact stanzalaw22_lined.mono _ _ _ _ _ _ _ _ | exact r3_Gaps.mono _ _ _ _ _ | exact LeO.refl _ | exact LeO.none _ | refine LeO.ite ?_ ?_ | refine LeO.bind ?_ (fun _ => ?_))
theorem stanzalaw22_DrawCells.mono : ∀ a0 a1 a2 a3 a4 a5 a6 k, LeO (stanzalaw22_DrawCells.f k a0 a1 a2 a3 a4 a5 a6) (stanzalaw22_DrawCells.f (k + 1) a0 a1 a2 a3 a4 a5 a6) := by
 intro a0 a1 a2 a3 a4 a5 a6 k
 obtain ⟨ih0, ih1, ih2, ih3⟩ := stanzalaw22_DrawCells.mono_l k; unfold stanzalaw22_DrawCells.f
 repeat' (with_reducible first | exact ih0 _ _ _ _ _ _ _ _ _ | exact ih1 _ _ _ _ _ _ _ _ _ _ _ _ | exact ih2 _ _ _ _ _ _ _ _ _ _ _ _ _ | exact ih3 _ _ _ _ _ _ _ _ _ _ _ _ _ _ _ _ _ _ _ _ | exact draw_All.mono _ _ _ _ _ _ _ _ _ _ _ _ | exact stanzalaw22_Awake.mono _ | exact stanzalaw22_lined.mono _ _ _ _ _ _ _ _ | exact r3_Gaps.mono _ _ _ _ _ | exact LeO.refl _ | exact LeO.none _ | refine LeO.ite ?_ ?_ | refine LeO.bind ?_ (fun _ => ?_))
def stanzalaw22_DrawCells.T11 : Bool × List (List Nat × List Nat) := (true, [([], []), ([], []), ([], []), ([], []), ([0, 1, 2, 3], [0, 1, 2, 3]), ([], []), ([], []), ([], []), ([], []), ([5, 6, 7, 8, 4], [5, 6, 7, 8]), ([4, 9, 0, 1, 2, 3, 4], [4]), ([9, 10, 0, 1, 2, 3, 4, 5, 6, 7, 8, 9, 10], [9])])
def stanzalaw22_DrawCells.B11 : List Nat := [0, 0, 0, 0, 15, 0, 0, 0, 0, 511, 1023, 2047]
theorem stanzalaw22_DrawCells.tab11 : rtab .any (opsOf Try.f9 11) = stanzalaw22_DrawCells.T11 := by kernel_rfl
theorem stanzalaw22_DrawCells.bits11 : waitsOk stanzalaw22_DrawCells.T11.2 stanzalaw22_DrawCells.B11 = true := by kernel_rfl
def stanzalaw22_DrawCells.T21 : Bool × List (List Nat × List Nat) := (true, [([], []), ([], []), ([0, 1], [0, 1]), ([2], [2]), ([3], [3]), ([], []), ([5], [5]), ([4, 6], [4, 6]), ([7], [7]), ([8], [8]), ([8], [8]), ([9, 10, 8], [8, 9, 10]), ([11, 8], [8, 11]), ([12, 8], [8, 12]), ([8], [8]), ([13, 14, 8], [8, 13, 14]), ([8, 15], [8, 15])])
def stanzalaw22_DrawCells.B21 : List Nat := [0, 0, 3, 7, 15, 0, 32, 127, 255, 511, 511, 2047, 4095, 8191, 511, 32767, 65535]
theorem stanzalaw22_DrawCells.tab21 : rtab .any (opsOf Try.f9 21) = stanzalaw22_DrawCells.T21 := by kernel_rfl
theorem stanzalaw22_DrawCells.bits21 : waitsOk stanzalaw22_DrawCells.T21.2 stanzalaw22_DrawCells.B21 = true := by kernel_rfl
set_option maxHeartbeats 8000000 in
set_option maxRecDepth 100000 in
theorem stanzalaw22_DrawCells.calls (k : Nat) (A0 : Option Addr) (c0 : Nat) (l0 : List (S49)) (a1_0 : Int) (a1_1 : Int) (a1_2 : Int) (a1_3 : Int) (a1_4 : Int) (a1_5 : Nat) (r : Bool) (w : World) (hr0 : Kd.C k49 w A0 l0.length l0) (hc0 : l0.length ≤ c0) (h : stanzalaw22_DrawCells.f k l0 a1_0 a1_1 a1_2 a1_3 a1_4 a1_5 = some r) (hrt_ : zA (r = true)) :
  Calls Try.prog 9 #[.slice A0 l0.length c0, .agg #[.int .u8 a1_0, .int .u8 a1_1, .int .u8 a1_2, .int .u16 a1_3, .int .u16 a1_4, .float .f64 a1_5]] w fun e w' => e = .returned (.bool r) ∧ Below w.heap.size w w' := by
 have hu26 := Try.underlying26; have hu31 := Try.underlying31; have hu35 := Try.underlying35; have hu45 := Try.underlying45; have HR0 := zA.mk hr0; have HC0 := zA.mk hc0; clear hr0 hc0; have HB := zA.mk (Below.refl w.heap.size w); have H : ((stanzalaw22_Awake.f k).bind fun t486 => (if t486 = true then ((some (([] : List (S49)) : List (S49))).bind fun y487 => (if 0 ≤ (mn (l0.length : Int) 100) then (if (mn (l0.length : Int) 100) ≤ (l0.length : Int) then ((some (l0.take ((mn (l0.length : Int) 100) : Int).toNat : List (S49))).bind fun y490 => (if y487.length + y490.length < 35184372088832 then ((some (y487 ++ y490 : List (S49))).bind fun y494 => (stanzalaw22_DrawCells.l0 k y494 (y494.length : Int) 0 a1_0 a1_1 a1_2 a1_3 a1_4 a1_5)) else (none))) else (none)) else (none))) else (some false))) = some r := h
 clear h; replace H := Option.bind_eq_some_iff.mp H; obtain ⟨t486, A30, H⟩ := H; replace H : (if t486 = true then ((some (([] : List (S49)) : List (S49))).bind fun y487 => (if 0 ≤ (mn (l0.length : Int) 100) then (if (mn (l0.length : Int) 100) ≤ (l0.length : Int) then ((some (l0.take ((mn (l0.length : Int) 100) : Int).toNat : List (S49))).bind fun y490 => (if y487.length + y490.length < 35184372088832 then ((some (y487 ++ y490 : List (S49))).bind fun y494 => (stanzalaw22_DrawCells.l0 k y494 (y494.length : Int) 0 a1_0 a1_1 a1_2 a1_3 a1_4 a1_5)) else (none))) else (none)) else (none))) else (some false)) = some r := H
 have A3 := zA.mk A30; clear A30; by_cases c4 : t486 = true
 rotate_left
 ·replace c4 := Bool.eq_false_iff.mpr c4
  subst c4; have H1 : (some false) = some r := by rw [if_neg (show ¬ (false = true) by decide)] at H; exact H
  clear H; have H := H1; clear H1; exact absurd ((Option.some.inj H).trans hrt_.out) (by decide)
 subst c4; have H1 : ((some (([] : List (S49)) : List (S49))).bind fun y487 => (if 0 ≤ (mn (l0.length : Int) 100) then (if (mn (l0.length : Int) 100) ≤ (l0.length : Int) then ((some (l0.take ((mn (l0.length : Int) 100) : Int).toNat : List (S49))).bind fun y490 => (if y487.length + y490.length < 35184372088832 then ((some (y487 ++ y490 : List (S49))).bind fun y494 => (stanzalaw22_DrawCells.l0 k y494 (y494.length : Int) 0 a1_0 a1_1 a1_2 a1_3 a1_4 a1_5)) else (none))) else (none)) else (none))) = some r := by rw [if_pos rfl] at H; exact H
 clear H; have H := H1; clear H1; obtain ⟨y487, hy487⟩ : ∃ y_ : List (S49), y_ = (([] : List (S49))) := ⟨_, rfl⟩; replace H : (if 0 ≤ (mn (l0.length : Int) 100) then (if (mn (l0.length : Int) 100) ≤ (l0.length : Int) then ((some (l0.take ((mn (l0.length : Int) 100) : Int).toNat : List (S49))).bind fun y490 => (if y487.length + y490.length < 35184372088832 then ((some (y487 ++ y490 : List (S49))).bind fun y494 => (stanzalaw22_DrawCells.l0 k y494 (y494.length : Int) 0 a1_0 a1_1 a1_2 a1_3 a1_4 a1_5)) else (none))) else (none)) else (none)) = some r := by first | (rw [hy487]; with_reducible exact H) | (have H2_ := (Option.bind_some _ _).symm.trans H; rw [hy487]; with_reducible exact H2_) | (have H2_ := (Option.bind_some _ _).symm.trans H; with_reducible exact H2_) | with_reducible exact H | (rw [hy487]; exact H) | exact H
 have Ny487 := zA.mk hy487; clear hy487; obtain ⟨ji5, hji5⟩ : ∃ j_ : Int, (mn (l0.length : Int) 100) = j_ := ⟨_, rfl⟩; replace H : (if 0 ≤ (ji5) then (if (ji5) ≤ (l0.length : Int) then ((some (l0.take ((ji5) : Int).toNat : List (S49))).bind fun y490 => (if y487.length + y490.length < 35184372088832 then ((some (y487 ++ y490 : List (S49))).bind fun y494 => (stanzalaw22_DrawCells.l0 k y494 (y494.length : Int) 0 a1_0 a1_1 a1_2 a1_3 a1_4 a1_5)) else (none))) else (none)) else (none)) = some r := by first | (rw [hji5] at H; exact H) | (simp only [hji5] at H ⊢; exact H)
 (try rw [hji5] at A3)
 (try (have hji5h : ji5 ≤ 100 := by (rw [← hji5]; unfold mn; (repeat' split) <;> omega)))
 (try (have hji5g : ji5 ≤ 64 := by omega))
 (try (have hji5l : 0 ≤ ji5 := by (rw [← hji5]; unfold mn; (repeat' split) <;> omega)))
 (try (have hji5m : 0 ≤ ji5 := by omega))
 have hji5_ : (if 100 < (l0.length : Int) then 100 else (l0.length : Int)) = ji5 := hji5
 by_cases c6 : 0 ≤ (ji5)
 rotate_left
 ·rw [if_neg c6] at H
  exact absurd H (by simp)
 rw [if_pos c6] at H; have c6b0 := eq_true c6; have c6b1 : decide (0 ≤ (ji5)) = true := decide_eq_true c6
 clear c6; by_cases c7 : (ji5) ≤ (l0.length : Int)
 rotate_left
 ·rw [if_neg c7] at H
  exact absurd H (by simp)
 rw [if_pos c7] at H; have c7b0 := eq_true c7; have c7b1 : decide ((ji5) ≤ (l0.length : Int)) = true := decide_eq_true c7
 clear c7; obtain ⟨y490, hy490⟩ : ∃ y_ : List (S49), y_ = (l0.take ((ji5) : Int).toNat) := ⟨_, rfl⟩; replace H : (if y487.length + y490.length < 35184372088832 then ((some (y487 ++ y490 : List (S49))).bind fun y494 => (stanzalaw22_DrawCells.l0 k y494 (y494.length : Int) 0 a1_0 a1_1 a1_2 a1_3 a1_4 a1_5)) else (none)) = some r := by first | (rw [hy490]; with_reducible exact H) | (have H2_ := (Option.bind_some _ _).symm.trans H; rw [hy490]; with_reducible exact H2_) | (have H2_ := (Option.bind_some _ _).symm.trans H; with_reducible exact H2_) | with_reducible exact H | (rw [hy490]; exact H) | exact H
 have Ny490 := zA.mk hy490; clear hy490; by_cases c8 : y487.length + y490.length < 35184372088832
 rotate_left
 ·rw [if_neg c8] at H
  exact absurd H (by simp)
 rw [if_pos c8] at H; have LMc8 := zA.mk c8; clear c8; obtain ⟨y494, hy494⟩ : ∃ y_ : List (S49), y_ = (y487 ++ y490) := ⟨_, rfl⟩; replace H : (stanzalaw22_DrawCells.l0 k y494 (y494.length : Int) 0 a1_0 a1_1 a1_2 a1_3 a1_4 a1_5) = some r := by first | (rw [hy494]; with_reducible exact H) | (have H2_ := (Option.bind_some _ _).symm.trans H; rw [hy494]; with_reducible exact H2_) | (have H2_ := (Option.bind_some _ _).symm.trans H; with_reducible exact H2_) | with_reducible exact H | (rw [hy494]; exact H) | exact H
 have Ny494 := zA.mk hy494; clear hy494; have H' := zA.mk H
 clear H; go_enter Try.func9, Try.ntmps9
 go_wp2_with (first | ((with_reducible refine gate_dst (N := 3) rfl ?_); (try (refine gate_guard (by rfl) ?_; dsimp only)); refine box_event ?hg (N := 3) ?hd (cs := #[.int .u8 a1_0, .int .u8 a1_1, .int .u8 a1_2, .int .u16 a1_3, .int .u16 a1_4, .float .f64 a1_5]) (t := 26) ?hr ?_; (case hd => rfl); (case hg => rfl); (case hr => first | (go_simp; done) | (go_simp; rfl)); intro gb485 hg w9 hbox hb; have n0_ := zA.mk (zH (aL HB) hb); have n1_ := zA.mk (hbox); have n2_ := zA.mk ((by rw [hg]; exact (zG (aL HB)) : w.heap.size ≤ gb485)); have n3_ := zA.mk ((by rw [hg]; exact (zG (aL HB)) : w.heap.size ≤ gb485)); clear HB; have HB := n0_; have BK485 := n1_; have GW485 := n2_; have GE485 := n3_; clear n0_ n1_ n2_ n3_; clear hb hbox hg) | ((with_reducible refine gate_callee (f := 21) rfl ?_); refine goesL_ (some 16) rfl rfl Try.func21 (by kernel_rfl) rfl #[] rfl aT ?_; (with_reducible refine (stanzalaw22_Awake.calls k  true _ A3.out (by first | exact ⟨rfl⟩ | exact hrt_)).mono ?_); rintro e w10 ⟨rfl, hb⟩; refine ⟨_, rfl, ?_⟩; have n0_ := zA.mk (zB (g := gb485) (o := .cells #[.int .u8 a1_0, .int .u8 a1_1, .int .u8 a1_2, .int .u16 a1_3, .int .u16 a1_4, .float .f64 a1_5] 26 (0, 0)) (aB BK485) hb); have n1_ := zA.mk (zH (aL HB) hb); clear BK485; clear HB; have BK485 := n0_; have HB := n1_; clear n0_ n1_; (try clear hb); (try clear hb2); (try clear hk); (try clear hi)) | ((with_reducible refine gate_dst (N := 18) rfl ?_); (try (refine gate_guard (by rfl) ?_; dsimp only)); refine Kd.R_lit k49 _ 49 ?hg (N := 18) ?hd (xs := ([] : List (S49))) (inner := []) (ok := fun _ => True) (okp := fun _ => True) ?hr ?hp (fun _ hk => hk) trivial (Below.refl _ _) (Nat.le_refl _) (by simp) ?_; (case hd => rfl); (case hg => rfl); (case hr => first | (go_simp; done) | (go_simp; rfl)); (case hp => exact (Reps.none _ _)); intro v488 w11 ho12 hb hg_ hnew_; clear hg_ hnew_; (first | rw [← Ny487.out] at ho12 | (simp only [Int.reduceToNat] at ho12; rw [← Ny487.out] at ho12)); have n0_ := zA.mk (Kd.zT ho12 (zG (aL HB))); have n1_ := zA.mk (zB (g := gb485) (o := .cells #[.int .u8 a1_0, .int .u8 a1_1, .int .u8 a1_2, .int .u16 a1_3, .int .u16 a1_4, .float .f64 a1_5] 26 (0, 0)) (aB BK485) hb); have n2_ := zA.mk (zH (aL HB) hb); clear BK485; clear HB; have HO489 := n0_; have BK485 := n1_; have HB := n2_; clear n0_ n1_ n2_; clear hb ho12; have q13 : ((ji5) : Int) ≤ ((l0.length : Int) : Int) := aD; obtain ⟨i013, hi013, _, hsz13, _⟩ := info_parts info49; have hroom13 : l0.length ≤ c0 := HC0.out; have hC13 : Kd.C k49 _ A0 l0.length l0 := HR0.out; have hcut13 := cut_to (P := Try.prog) 22 49 .i64 Try.underlying22 hi013 A0 l0.length c0 (ji5) (aD) q13 hroom13; have hr13 := Kd.C_take (m := ((ji5) : Int).toNat) hC13 (by omega); have hy13 : y490.length = ((ji5) : Int).toNat := (by rw [Ny490.out, List.length_take]; omega); rw [← Ny490.out] at hr13; rw [← hy13] at hcut13; have HR493 := zA.mk hr13; have HC493 := zA.mk (show y490.length ≤ c0 from by omega); clear hr13 hC13 hroom13 hi013 hsz13; have KY13 := zA.mk hy13; clear hy13; replace q13 := eq_true q13) | ((with_reducible refine gate_builtin (b := .append) (xs := #[.tmp 18, .tmp 23]) rfl ?_); (try (refine gate_guard (by rfl) ?_; dsimp only)); at_builtin; refine Kd.R_append_rows k49 (w0 := w) w.heap.size rfl (.tmp 18) (.tmp 23) 22 49 (.agg #[(.int .u8 0), (.int .u8 0), (.int .u8 0), (.int .u8 0)]) 4 rfl Try.underlying22 info49 rfl (by decide) (by omega) v488 y487 y490 _ _ _ (fun _ => True) (fun _ => False) rfl rfl ?aO ?aR (fun _ _ h => h) (fun _ h => h.elim) ?aF ?aB ?aS ?aL ?_; (case aR => exact aA HR493 HB); (case aB => exact (aL HB)); (case aF => exact (fun _ _ => trivial)); (case aO => exact (aR HO489)); (case aS => exact (zG (aL HB))); (case aL => have := LMc8.out; omega); intro v495 w14 ho hb hg hat; rw [← Ny494.out] at ho; have n0_ := zA.mk (blk_grown (g := gb485) (o := .cells #[.int .u8 a1_0, .int .u8 a1_1, .int .u8 a1_2, .int .u16 a1_3, .int .u16 a1_4, .float .f64 a1_5] 26 (0, 0)) (aB BK485) hg (Kd.R_ne HO489.out BK485.out (by decide))); have n1_ := zA.mk (hb); have n2_ := zA.mk (ho); clear BK485; clear HB; clear HO489; have BK485 := n0_; have HB := n1_; have HO496 := n2_; clear n0_ n1_ n2_; clear ho hb hg hat; obtain ⟨Ao15, co15, eo15⟩ := Kd.zS HO496.out; subst eo15))
 (try simp only [hji5])
 go_loopg [27] k (fun kq v27 w' => ∃ (x0_1 : List (S49)) (x27_1 : Int), v27 = .int .i64 x27_1 ∧ zA (stanzalaw22_DrawCells.l0 kq x0_1 (y494.length : Int) x27_1 a1_0 a1_1 a1_2 a1_3 a1_4 a1_5 = some r) ∧ zA (kq ≤ k) ∧ zA (Kd.R k49 49 w' w.heap.size (fun _ => True) (.slice Ao15 y494.length co15) x0_1) ∧ zA (w'.heap[gb485]? = some (.cells #[.int .u8 a1_0, .int .u8 a1_1, .int .u8 a1_2, .int .u16 a1_3, .int .u16 a1_4, .float .f64 a1_5] 26 (0, 0))) ∧ zA (Below w.heap.size w w'))
 case atStart => exact ⟨(y494), (0), aZ, H', ⟨Nat.le_refl _⟩, ⟨aR HO496⟩, ⟨aB BK485⟩, ⟨aL HB⟩⟩
 clear H'; try clear q1
 try clear c2
 try clear p2
 try clear c4
 try clear c6
 try clear c6b0
 try clear c6b1
 try clear c7
 try clear c7b0
 try clear c7b1
 try clear c8
 try clear c9
 try clear q13
 try clear q13
 obtain ⟨x0_1, x27_1, rfl, HA, HK1, HO_0, BK485, HB⟩ := hrel; have hl0_1 := (Kd.zP HO_0.out).1; rw [hl0_1] at HO_0; (try simp only [hl0_1])
 (try simp only [hl0_1] at BK485)
 cases gk with
 | zero => exact absurd HA.out (by simp [stanzalaw22_DrawCells.l0])
 | succ k1 =>
  have H := HA.out; clear HA; simp only [stanzalaw22_DrawCells.l0] at H; by_cases c16 : x27_1 < (y494.length : Int)
  ·rw [if_pos c16] at H
   have c16b0 : decide (x27_1 < (y494.length : Int)) = true := decide_eq_true c16
   (try simp only [hl0_1] at c16b0)
   clear c16; by_cases c17 : 0 ≤ x27_1
   rotate_left
   ·rw [if_neg c17] at H
    exact absurd H (by simp)
   rw [if_pos c17] at H; have c17b0 : decide (0 ≤ x27_1) = true := decide_eq_true c17
   clear c17; by_cases c18 : x27_1 < (x0_1.length : Int)
   rotate_left
   ·rw [if_neg c18] at H
    exact absurd H (by simp)
   rw [if_pos c18] at H; have c18b0 : decide (x27_1 < (x0_1.length : Int)) = true := decide_eq_true c18
   (try simp only [hl0_1] at c18b0)
   clear c18; obtain ⟨y497, hy497⟩ : ∃ y_ : List (S49), y_ = (x0_1.set (x27_1 : Int).toNat (⟨(rd_T49 x0_1 x27_1).f0, (rd_T49 x0_1 x27_1).f1, 0, (rd_T49 x0_1 x27_1).f3⟩ : S49)) := ⟨_, rfl⟩; replace H : (stanzalaw22_DrawCells.l0 k1 (y497.set (x27_1 : Int).toNat (⟨1, (rd_T49 y497 x27_1).f1, (rd_T49 y497 x27_1).f2, (rd_T49 y497 x27_1).f3⟩ : S49)) (y494.length : Int) (wrap64 (x27_1 + 1)) a1_0 a1_1 a1_2 a1_3 a1_4 a1_5) = some r := by first | (rw [hy497]; with_reducible exact H) | (have H2_ := (Option.bind_some _ _).symm.trans H; rw [hy497]; with_reducible exact H2_) | (have H2_ := (Option.bind_some _ _).symm.trans H; with_reducible exact H2_) | with_reducible exact H | (rw [hy497]; exact H) | exact H
   have Ny497 := zA.mk hy497; clear hy497; obtain ⟨y498, hy498⟩ : ∃ y_ : List (S49), y_ = (y497.set (x27_1 : Int).toNat (⟨1, (rd_T49 y497 x27_1).f1, (rd_T49 y497 x27_1).f2, (rd_T49 y497 x27_1).f3⟩ : S49)) := ⟨_, rfl⟩; replace H : (stanzalaw22_DrawCells.l0 k1 y498 (y494.length : Int) (wrap64 (x27_1 + 1)) a1_0 a1_1 a1_2 a1_3 a1_4 a1_5) = some r := by first | (rw [hy498]; with_reducible exact H) | (have H2_ := (Option.bind_some _ _).symm.trans H; rw [hy498]; with_reducible exact H2_) | (have H2_ := (Option.bind_some _ _).symm.trans H; with_reducible exact H2_) | with_reducible exact H | (rw [hy498]; exact H) | exact H
   have Ny498 := zA.mk hy498; clear hy498; have H' := zA.mk H
   clear H; have p19 : 0 ≤ (x27_1 : Int) := aD
   have q19 : (x27_1 : Int) < ((x0_1.length : Int) : Int) := aD
   obtain ⟨go19, co19, eo19, gb19, gl19, cl19, HG19⟩ := Kd.R_form HO_0.out (by omega)
   (first | cases eo19 | (injection eo19 with ea_ en_ ec_; (first | subst ea_ | (injection ea_ with ea_; subst ea_)); subst ec_; clear en_))
   have GB19 := zA.mk gb19; have GG19 := zA.mk HG19; clear gb19 gl19 HG19; obtain ⟨ce19, hcl19, hM19, hcc19, hfr19⟩ := Kd.R_elem HO_0.out z49 (x27_1 : Int) p19 q19; obtain rfl := k49_openM hM19
   have hx19_0 : wr.cell? ⟨go19, (x27_1 : Int).toNat * 4, none⟩ = some (.int .u8 ((rd_T49 x0_1 x27_1).f0)) := hcc19 0 _ rfl
   have hx19_1 : wr.cell? ⟨go19, (x27_1 : Int).toNat * 4 + 1, none⟩ = some (.int .u8 ((rd_T49 x0_1 x27_1).f1)) := hcc19 1 _ rfl
   have hx19_2 : wr.cell? ⟨go19, (x27_1 : Int).toNat * 4 + 2, none⟩ = some (.int .u8 ((rd_T49 x0_1 x27_1).f2)) := hcc19 2 _ rfl
   have hx19_3 : wr.cell? ⟨go19, (x27_1 : Int).toNat * 4 + 3, none⟩ = some (.int .u8 ((rd_T49 x0_1 x27_1).f3)) := hcc19 3 _ rfl
   have hf19_0 : wr.frozen? ⟨go19, (x27_1 : Int).toNat * 4, none⟩ = false := hfr19 0
   have hf19_1 : wr.frozen? ⟨go19, (x27_1 : Int).toNat * 4 + 1, none⟩ = false := hfr19 1
   have hf19_2 : wr.frozen? ⟨go19, (x27_1 : Int).toNat * 4 + 2, none⟩ = false := hfr19 2
   have hf19_3 : wr.frozen? ⟨go19, (x27_1 : Int).toNat * 4 + 3, none⟩ = false := hfr19 3
   (try clear hcl19); (try clear hcc19); (try clear hfr19); (try clear hM19)
   replace p19 := eq_true p19; replace q19 := eq_true q19; have HX21 := zA.mk (show Kd.R k49 49 wr w.heap.size (fun _ => True) (.slice (some ⟨go19, 0, none⟩) x0_1.length co15) x0_1 from (aR HO_0))
   obtain ⟨ce21, hcl21, hM21, hcc21, hfr21⟩ := Kd.R_elem HX21.out z49 (x27_1 : Int) (aD) (by have h_ : (x27_1 : Int) < ((x0_1.length : Int) : Int) := aD; first | exact h_ | (have e_ := (Kd.zP HO_0.out).1; omega) | simpa using h_)
   obtain rfl := k49_openM hM21
   have HP21 := Kd.R_seg HX21.out (x27_1 : Int) (aD) (by have h_ : (x27_1 : Int) < ((x0_1.length : Int) : Int) := aD; first | exact h_ | (have e_ := (Kd.zP HO_0.out).1; omega) | simpa using h_) (seg := [.int .u8 0]) (j := 2) hcl21 hcc21 (show 3 ≤ 4 from by decide) (x' := (⟨(rd_T49 x0_1 x27_1).f0, (rd_T49 x0_1 x27_1).f1, 0, (rd_T49 x0_1 x27_1).f3⟩ : S49)) (k49_mkM _ _ _ (⟨(rd_T49 x0_1 x27_1).f0, (rd_T49 x0_1 x27_1).f1, 0, (rd_T49 x0_1 x27_1).f3⟩ : S49) ) (fun _ hk => hk)
   have hx21_2 := hcc21 2 _ rfl; (try simp only [show (k49).sz = 4 from rfl, Nat.mul_one, Nat.add_zero] at hx21_2)
   have hf21_2 := hfr21 2; (try simp only [show (k49).sz = 4 from rfl, Nat.mul_one, Nat.add_zero] at hf21_2)
   (try clear hcl21); (try clear hcc21); (try clear hfr21); (try clear hM21)
   go_wp2_with (first | ((with_reducible refine gate_store (t := 5) (p := 33) rfl ?_); refine store_event (t := 5) (p := 33) (v := ?vo_w22) (w1 := (wr.setCell ⟨go19, (x27_1 : Int).toNat * 4 + 2, none⟩ (.int .u8 0))) ?hg ?ho ?hn ?hr ?_; (case ho => rfl); (case hg => rfl); (case hn => rfl); (case hr => first | (go_simp; done) | (go_simp; rfl)); intro w22 hw; have hg : wr.grownBy w22 (some go19) := (by rw [hw]; exact HP21.2); have hp_ : Kd.R k49 49 w22 w.heap.size (fun _ => True) (.slice (some ⟨go19, 0, none⟩) x0_1.length co15) y497 := (by rw [hw, Ny497.out]; exact HP21.1); clear HP21; have n0_ := zA.mk (hp_); have n1_ := zA.mk (blk_grown (g := gb485) (o := .cells #[.int .u8 a1_0, .int .u8 a1_1, .int .u8 a1_2, .int .u16 a1_3, .int .u16 a1_4, .float .f64 a1_5] 26 (0, 0)) (aB BK485) hg (Kd.R_ne HO_0.out BK485.out (by decide))); have n2_ := zA.mk ((by rw [hw]; exact below_set (HB.out) GB19.out : Below w.heap.size w w22)); clear HO_0; clear BK485; clear HB; have HO_0 := n0_; have BK485 := n1_; have HB := n2_; clear n0_ n1_ n2_; clear hg hw hp_; have p20 : 0 ≤ (x27_1 : Int) := aD; have q20 : (x27_1 : Int) < ((x0_1.length : Int) : Int) := aD; obtain ⟨ce20, hcl20, hM20, hcc20, hfr20⟩ := Kd.R_elem HO_0.out z49 (x27_1 : Int) p20 q20; obtain rfl := k49_openM hM20; have hx20_0 : w22.cell? ⟨go19, (x27_1 : Int).toNat * 4, none⟩ = some (.int .u8 ((rd_T49 y497 x27_1).f0)) := hcc20 0 _ rfl; have hx20_1 : w22.cell? ⟨go19, (x27_1 : Int).toNat * 4 + 1, none⟩ = some (.int .u8 ((rd_T49 y497 x27_1).f1)) := hcc20 1 _ rfl; have hx20_2 : w22.cell? ⟨go19, (x27_1 : Int).toNat * 4 + 2, none⟩ = some (.int .u8 ((rd_T49 y497 x27_1).f2)) := hcc20 2 _ rfl; have hx20_3 : w22.cell? ⟨go19, (x27_1 : Int).toNat * 4 + 3, none⟩ = some (.int .u8 ((rd_T49 y497 x27_1).f3)) := hcc20 3 _ rfl; have hf20_0 : w22.frozen? ⟨go19, (x27_1 : Int).toNat * 4, none⟩ = false := hfr20 0; have hf20_1 : w22.frozen? ⟨go19, (x27_1 : Int).toNat * 4 + 1, none⟩ = false := hfr20 1; have hf20_2 : w22.frozen? ⟨go19, (x27_1 : Int).toNat * 4 + 2, none⟩ = false := hfr20 2; have hf20_3 : w22.frozen? ⟨go19, (x27_1 : Int).toNat * 4 + 3, none⟩ = false := hfr20 3; (try clear hcl20); (try clear hcc20); (try clear hfr20); (try clear hM20); replace p20 := eq_true p20; replace q20 := eq_true q20; have HX23 := zA.mk (show Kd.R k49 49 w22 w.heap.size (fun _ => True) (.slice (some ⟨go19, 0, none⟩) x0_1.length co15) y497 from (aR HO_0)); obtain ⟨ce23, hcl23, hM23, hcc23, hfr23⟩ := Kd.R_elem HX23.out z49 (x27_1 : Int) (aD) (by have h_ : (x27_1 : Int) < ((x0_1.length : Int) : Int) := aD; first | exact h_ | (have e_ := (Kd.zP HO_0.out).1; omega) | simpa using h_); obtain rfl := k49_openM hM23; have HP23 := Kd.R_seg HX23.out (x27_1 : Int) (aD) (by have h_ : (x27_1 : Int) < ((x0_1.length : Int) : Int) := aD; first | exact h_ | (have e_ := (Kd.zP HO_0.out).1; omega) | simpa using h_) (seg := [.int .u8 1]) (j := 0) hcl23 hcc23 (show 1 ≤ 4 from by decide) (x' := (⟨1, (rd_T49 y497 x27_1).f1, (rd_T49 y497 x27_1).f2, (rd_T49 y497 x27_1).f3⟩ : S49)) (k49_mkM _ _ _ (⟨1, (rd_T49 y497 x27_1).f1, (rd_T49 y497 x27_1).f2, (rd_T49 y497 x27_1).f3⟩ : S49) ) (fun _ hk => hk); have hx23_0 := hcc23 0 _ rfl; (try simp only [show (k49).sz = 4 from rfl, Nat.mul_one, Nat.add_zero] at hx23_0); have hf23_0 := hfr23 0; (try simp only [show (k49).sz = 4 from rfl, Nat.mul_one, Nat.add_zero] at hf23_0); (try clear hcl23); (try clear hcc23); (try clear hfr23); (try clear hM23)) | ((with_reducible refine gate_store (t := 5) (p := 37) rfl ?_); refine store_event (t := 5) (p := 37) (v := ?vo_w24) (w1 := (w22.setCell ⟨go19, (x27_1 : Int).toNat * 4, none⟩ (.int .u8 1))) ?hg ?ho ?hn ?hr ?_; (case ho => rfl); (case hg => rfl); (case hn => rfl); (case hr => first | (go_simp; done) | (go_simp; rfl)); intro w24 hw; have hg : w22.grownBy w24 (some go19) := (by rw [hw]; exact HP23.2); have hp_ : Kd.R k49 49 w24 w.heap.size (fun _ => True) (.slice (some ⟨go19, 0, none⟩) x0_1.length co15) y498 := (by rw [hw, Ny498.out]; exact HP23.1); clear HP23; have n0_ := zA.mk (hp_); have n1_ := zA.mk (blk_grown (g := gb485) (o := .cells #[.int .u8 a1_0, .int .u8 a1_1, .int .u8 a1_2, .int .u16 a1_3, .int .u16 a1_4, .float .f64 a1_5] 26 (0, 0)) (aB BK485) hg (Kd.R_ne HO_0.out BK485.out (by decide))); have n2_ := zA.mk ((by rw [hw]; exact below_set (HB.out) GB19.out : Below w.heap.size w w24)); clear HO_0; clear BK485; clear HB; have HO_0 := n0_; have BK485 := n1_; have HB := n2_; clear n0_ n1_ n2_; clear hg hw hp_))
   (try simp only [← hl0_1])
   go_roundg k1
   case measure => have := HK1.out; omega
   case rel => exact ⟨(y498), (wrap64 (x27_1 + 1)), aZ, H', ⟨by have := HK1.out; omega⟩, ⟨by (try simp only [hl0_1]); (with_reducible repeat (first | apply Kd.zI | apply Kd.zJ | apply Kd.zK)); exact HO_0.out⟩, ⟨by (try simp only [hl0_1]); (with_reducible repeat (first | refine zE ?_ _ | refine zD ?_ | refine zF ?_ _)); exact BK485.out⟩, ⟨aL HB⟩⟩
  rw [if_neg c16] at H; have c16b0 : decide (x27_1 < (y494.length : Int)) = false := decide_eq_false c16
  (try simp only [hl0_1] at c16b0)
  clear c16; replace H := Option.bind_eq_some_iff.mp H; obtain ⟨⟨t499, t502, t505, t508, t509, t510, t511, t512, t513, t514⟩, A250, H⟩ := H; replace H : ((draw_All.f k1 t514 t499 t502 t505 t508 t509 t510 t511 t512 t513 false).bind fun t519 => ((draw_All.f k1 t514 t499 t502 t505 t508 t509 t510 t511 t512 t513 true).bind fun t522 => (if (t519.length : Int) = (t505.length : Int) then (stanzalaw22_DrawCells.j1 k1 t505 t519 t522 ((t522.length : Int) != (t505.length : Int)) t499 t502 t508 t509 t510 t511 t512 t513) else (stanzalaw22_DrawCells.j1 k1 t505 t519 t522 true t499 t502 t508 t509 t510 t511 t512 t513)))) = some r := H
  have A25 := zA.mk A250; clear A250; replace H := Option.bind_eq_some_iff.mp H; obtain ⟨t519, A260, H⟩ := H; replace H : ((draw_All.f k1 t514 t499 t502 t505 t508 t509 t510 t511 t512 t513 true).bind fun t522 => (if (t519.length : Int) = (t505.length : Int) then (stanzalaw22_DrawCells.j1 k1 t505 t519 t522 ((t522.length : Int) != (t505.length : Int)) t499 t502 t508 t509 t510 t511 t512 t513) else (stanzalaw22_DrawCells.j1 k1 t505 t519 t522 true t499 t502 t508 t509 t510 t511 t512 t513))) = some r := H
  have A26 := zA.mk A260; clear A260; replace H := Option.bind_eq_some_iff.mp H; obtain ⟨t522, A270, H⟩ := H; replace H : (if (t519.length : Int) = (t505.length : Int) then (stanzalaw22_DrawCells.j1 k1 t505 t519 t522 ((t522.length : Int) != (t505.length : Int)) t499 t502 t508 t509 t510 t511 t512 t513) else (stanzalaw22_DrawCells.j1 k1 t505 t519 t522 true t499 t502 t508 t509 t510 t511 t512 t513)) = some r := H; have A27 := zA.mk A270; clear A270; have HC28 := zA.mk H; clear H; obtain ⟨hcz29_0, hcz29_1, hcz29_2, hcz29_3, hcz29_4, hcz29_5, hfz29_0, hfz29_1, hfz29_2, hfz29_3, hfz29_4, hfz29_5⟩ := aC6 BK485; try go_wp2_with (first | ((with_reducible refine gate_callee (f := 22) rfl ?_); refine goesL_ (some 42) rfl rfl Try.func22 (by kernel_rfl) rfl #[.slice Ao15 x0_1.length co15, .agg #[.int .u8 a1_0, .int .u8 a1_1, .int .u8 a1_2, .int .u16 a1_3, .int .u16 a1_4, .float .f64 a1_5]] rfl aT ?_; (with_reducible refine (stanzalaw22_lined.calls k1 _ _ x0_1 a1_0 a1_1 a1_2 a1_3 a1_4 a1_5 t499 t502 t505 t508 t509 t510 t511 t512 t513 t514 _ ?side1 ?side2 A25.out).mono ?_); (case side1 => exact aF HO_0); (case side2 => exact (Kd.zP HO_0.out).2.1); rintro e w30 ⟨v500, v503, v506, v515, rfl, ho0, ho1, ho2, ho3, hb⟩; refine ⟨_, rfl, ?_⟩; have n0_ := zA.mk (Kd.zQ (aR HO_0) hb); have n1_ := zA.mk (Kd.zT ho0 (zG (aL HB))); have n2_ := zA.mk (Kd.zT ho1 (zG (aL HB))); have n3_ := zA.mk (Kd.zT ho2 (zG (aL HB))); have n4_ := zA.mk (Kd.zT ho3 (zG (aL HB))); have n5_ := zA.mk (zB (g := gb485) (o := .cells #[.int .u8 a1_0, .int .u8 a1_1, .int .u8 a1_2, .int .u16 a1_3, .int .u16 a1_4, .float .f64 a1_5] 26 (0, 0)) (aB BK485) hb); have n6_ := zA.mk (zH (aL HB) hb); clear HO_0; clear BK485; clear HB; have HO_0 := n0_; have HO501 := n1_; have HO504 := n2_; have HO507 := n3_; have HO516 := n4_; have BK485 := n5_; have HB := n6_; clear n0_ n1_ n2_ n3_ n4_ n5_ n6_; (try clear hb); (try clear hb2); (try clear hk); (try clear hi); (try clear ho0); (try clear ho1); (try clear ho2); (try clear ho3)) | ((with_reducible refine gate_dst (N := 6) rfl ?_); (try (refine gate_guard (by rfl) ?_; dsimp only)); refine box_event ?hg (N := 6) ?hd (cs := #[.slice none 0 0, .slice none 0 0]) (t := 31) ?hr ?_; (case hd => rfl); (case hg => rfl); (case hr => first | (go_simp; done) | (go_simp; rfl)); intro gb517 hg w31 hbox hb; have n0_ := zA.mk (Kd.zQ (aR HO_0) hb); have n1_ := zA.mk (Kd.zQ (aR HO501) hb); have n2_ := zA.mk (Kd.zQ (aR HO504) hb); have n3_ := zA.mk (Kd.zQ (aR HO507) hb); have n4_ := zA.mk (Kd.zQ (aR HO516) hb); have n5_ := zA.mk (zB (g := gb485) (o := .cells #[.int .u8 a1_0, .int .u8 a1_1, .int .u8 a1_2, .int .u16 a1_3, .int .u16 a1_4, .float .f64 a1_5] 26 (0, 0)) (aB BK485) hb); have n6_ := zA.mk (zH (aL HB) hb); have n7_ := zA.mk (hbox); have n8_ := zA.mk ((by rw [hg]; exact (zG (aL HB)) : w.heap.size ≤ gb517)); have n9_ := zA.mk ((by rw [hg]; exact (zG (aL HB)) : w.heap.size ≤ gb517)); have n10_ := zA.mk ((by rw [hg]; exact Nat.ne_of_lt (blk_lt (g := gb485) (o := .cells #[.int .u8 a1_0, .int .u8 a1_1, .int .u8 a1_2, .int .u16 a1_3, .int .u16 a1_4, .float .f64 a1_5] 26 (0, 0)) (aB BK485)) : gb485 ≠ gb517)); have n11_ := zA.mk ((by rw [hg]; exact Nat.ne_of_gt (blk_lt (g := gb485) (o := .cells #[.int .u8 a1_0, .int .u8 a1_1, .int .u8 a1_2, .int .u16 a1_3, .int .u16 a1_4, .float .f64 a1_5] 26 (0, 0)) (aB BK485)) : gb517 ≠ gb485)); clear HO_0; clear HO501; clear HO504; clear HO507; clear HO516; clear BK485; clear HB; have HO_0 := n0_; have HO501 := n1_; have HO504 := n2_; have HO507 := n3_; have HO516 := n4_; have BK485 := n5_; have HB := n6_; have BK517 := n7_; have GW517 := n8_; have GE517 := n9_; have NB485_517 := n10_; have NB517_485 := n11_; clear n0_ n1_ n2_ n3_ n4_ n5_ n6_ n7_ n8_ n9_ n10_ n11_; clear hb hbox hg) | ((with_reducible refine gate_dst (N := 8) rfl ?_); (try (refine gate_guard (by rfl) ?_; dsimp only)); refine box_event ?hg (N := 8) ?hd (cs := #[.int .i64 0, .int .i64 0, .int .u8 0, .int .i64 0, .int .i64 0, .float .f64 0]) (t := 35) ?hr ?_; (case hd => rfl); (case hg => rfl); (case hr => first | (go_simp; done) | (go_simp; rfl)); intro gb518 hg w32 hbox hb; have n0_ := zA.mk (Kd.zQ (aR HO_0) hb); have n1_ := zA.mk (Kd.zQ (aR HO501) hb); have n2_ := zA.mk (Kd.zQ (aR HO504) hb); have n3_ := zA.mk (Kd.zQ (aR HO507) hb); have n4_ := zA.mk (Kd.zQ (aR HO516) hb); have n5_ := zA.mk (zB (g := gb485) (o := .cells #[.int .u8 a1_0, .int .u8 a1_1, .int .u8 a1_2, .int .u16 a1_3, .int .u16 a1_4, .float .f64 a1_5] 26 (0, 0)) (aB BK485) hb); have n6_ := zA.mk (zB (g := gb517) (o := .cells #[.slice none 0 0, .slice none 0 0] 31 (0, 0)) (aB BK517) hb); have n7_ := zA.mk (zH (aL HB) hb); have n8_ := zA.mk (hbox); have n9_ := zA.mk ((by rw [hg]; exact (zG (aL HB)) : w.heap.size ≤ gb518)); have n10_ := zA.mk ((by rw [hg]; exact (zG (aL HB)) : w.heap.size ≤ gb518)); have n11_ := zA.mk ((by rw [hg]; exact Nat.ne_of_lt (blk_lt (g := gb485) (o := .cells #[.int .u8 a1_0, .int .u8 a1_1, .int .u8 a1_2, .int .u16 a1_3, .int .u16 a1_4, .float .f64 a1_5] 26 (0, 0)) (aB BK485)) : gb485 ≠ gb518)); have n12_ := zA.mk ((by rw [hg]; exact Nat.ne_of_gt (blk_lt (g := gb485) (o := .cells #[.int .u8 a1_0, .int .u8 a1_1, .int .u8 a1_2, .int .u16 a1_3, .int .u16 a1_4, .float .f64 a1_5] 26 (0, 0)) (aB BK485)) : gb518 ≠ gb485)); have n13_ := zA.mk ((by rw [hg]; exact Nat.ne_of_lt (blk_lt (g := gb517) (o := .cells #[.slice none 0 0, .slice none 0 0] 31 (0, 0)) (aB BK517)) : gb517 ≠ gb518)); have n14_ := zA.mk ((by rw [hg]; exact Nat.ne_of_gt (blk_lt (g := gb517) (o := .cells #[.slice none 0 0, .slice none 0 0] 31 (0, 0)) (aB BK517)) : gb518 ≠ gb517)); clear HO_0; clear HO501; clear HO504; clear HO507; clear HO516; clear BK485; clear BK517; clear HB; have HO_0 := n0_; have HO501 := n1_; have HO504 := n2_; have HO507 := n3_; have HO516 := n4_; have BK485 := n5_; have BK517 := n6_; have HB := n7_; have BK518 := n8_; have GW518 := n9_; have GE518 := n10_; have NB485_518 := n11_; have NB518_485 := n12_; have NB517_518 := n13_; have NB518_517 := n14_; clear n0_ n1_ n2_ n3_ n4_ n5_ n6_ n7_ n8_ n9_ n10_ n11_ n12_ n13_ n14_; clear hb hbox hg; obtain ⟨Ao33, co33, eo33⟩ := Kd.zS HO501.out; subst eo33; have hnb34 := NB517_485.out; have hnc34 := NB485_517.out; have hnb35 := NB517_518.out; have hnc35 := NB518_517.out; obtain ⟨hcz36_0, hcz36_1, hfz36_0, hfz36_1⟩ := aC2 BK517; obtain ⟨Ao37, co37, eo37⟩ := Kd.zS HO504.out; subst eo37) | ((with_reducible refine gate_store (t := 31) (p := 6) rfl ?_); refine store_event (t := 31) (p := 6) (v := ?vo_w38) (w1 := ((w32.setCell ⟨gb517, 0, none⟩ (.slice Ao33 t499.length co33)).setCell ⟨gb517, 1, none⟩ (.slice Ao37 t502.length co37))) ?hg ?ho ?hn ?hr ?_; (case ho => rfl); (case hg => rfl); (case hn => rfl); (case hr => first | (go_simp; done) | (go_simp; rfl)); intro w38 hw; have n0_ : zA (Kd.R k49 49 w38 w.heap.size (fun _ => True) (.slice Ao15 x0_1.length co15) x0_1) := ⟨(by rw [hw]; exact (by (with_reducible repeat (first | apply Kd.zI | apply Kd.zJ | apply Kd.zK)); exact Kd.zU (Kd.zR (p := ⟨gb517, 1, none⟩) (Kd.zR (p := ⟨gb517, 0, none⟩) (Kd.zV HO_0.out BK517.out (by decide)) (fun _ hk => hk.2) (.slice Ao33 t499.length co33)) (fun _ hk => hk.2) (.slice Ao37 t502.length co37)) (fun _ hk => trivial)))⟩; have n1_ : zA (Kd.R k61 61 w38 w.heap.size (fun _ => True) (.slice Ao33 t499.length co33) t499) := ⟨(by rw [hw]; exact (by (with_reducible repeat (first | apply Kd.zI | apply Kd.zJ | apply Kd.zK)); exact Kd.zU (Kd.zR (p := ⟨gb517, 1, none⟩) (Kd.zR (p := ⟨gb517, 0, none⟩) (Kd.zV HO501.out BK517.out (by decide)) (fun _ hk => hk.2) (.slice Ao33 t499.length co33)) (fun _ hk => hk.2) (.slice Ao37 t502.length co37)) (fun _ hk => trivial)))⟩; have n2_ : zA (Kd.R (Kd.int .u8) 43 w38 w.heap.size (fun _ => True) (.slice Ao37 t502.length co37) t502) := ⟨(by rw [hw]; exact (by (with_reducible repeat (first | apply Kd.zI | apply Kd.zJ | apply Kd.zK)); exact Kd.zU (Kd.zR (p := ⟨gb517, 1, none⟩) (Kd.zR (p := ⟨gb517, 0, none⟩) (Kd.zV HO504.out BK517.out (by decide)) (fun _ hk => hk.2) (.slice Ao33 t499.length co33)) (fun _ hk => hk.2) (.slice Ao37 t502.length co37)) (fun _ hk => trivial)))⟩; have n3_ : zA (Kd.R k45 45 w38 w.heap.size (fun _ => True) v506 t505) := ⟨(by rw [hw]; exact (by (with_reducible repeat (first | apply Kd.zI | apply Kd.zJ | apply Kd.zK)); exact Kd.zU (Kd.zR (p := ⟨gb517, 1, none⟩) (Kd.zR (p := ⟨gb517, 0, none⟩) (Kd.zV HO507.out BK517.out (by decide)) (fun _ hk => hk.2) (.slice Ao33 t499.length co33)) (fun _ hk => hk.2) (.slice Ao37 t502.length co37)) (fun _ hk => trivial)))⟩; have n4_ : zA (Kd.R (Kd.int .u8) 5 w38 w.heap.size (fun _ => True) v515 t514) := ⟨(by rw [hw]; exact (by (with_reducible repeat (first | apply Kd.zI | apply Kd.zJ | apply Kd.zK)); exact Kd.zU (Kd.zR (p := ⟨gb517, 1, none⟩) (Kd.zR (p := ⟨gb517, 0, none⟩) (Kd.zV HO516.out BK517.out (by decide)) (fun _ hk => hk.2) (.slice Ao33 t499.length co33)) (fun _ hk => hk.2) (.slice Ao37 t502.length co37)) (fun _ hk => trivial)))⟩; have n5_ : zA (w38.heap[gb485]? = some (.cells #[.int .u8 a1_0, .int .u8 a1_1, .int .u8 a1_2, .int .u16 a1_3, .int .u16 a1_4, .float .f64 a1_5] 26 (0, 0))) := ⟨(by rw [hw]; exact (aB BK485))⟩; have n6_ : zA (w38.heap[gb517]? = some (.cells #[.slice Ao33 t499.length co33, .slice Ao37 t502.length co37] 31 (0, 0))) := ⟨(by rw [hw]; exact (by (with_reducible repeat (first | refine zE ?_ _ | refine zD ?_ | refine zF ?_ _)); refine blk_put (cs := #[.slice Ao33 t499.length co33, .slice none 0 0]) ?_ 1 _ rfl; (with_reducible repeat (first | refine zE ?_ _ | refine zD ?_ | refine zF ?_ _)); refine blk_put (cs := #[.slice none 0 0, .slice none 0 0]) ?_ 0 _ rfl; (with_reducible repeat (first | refine zE ?_ _ | refine zD ?_ | refine zF ?_ _)); exact BK517.out))⟩; have n7_ : zA (w38.heap[gb518]? = some (.cells #[.int .i64 0, .int .i64 0, .int .u8 0, .int .i64 0, .int .i64 0, .float .f64 0] 35 (0, 0))) := ⟨(by rw [hw]; exact (aB BK518))⟩; have n8_ : zA (Below w.heap.size w w38) := ⟨(by rw [hw]; exact (aL HB))⟩; clear hw; clear HO_0; clear HO501; clear HO504; clear HO507; clear HO516; clear BK485; clear BK517; clear BK518; clear HB; have HO_0 := n0_; have HO501 := n1_; have HO504 := n2_; have HO507 := n3_; have HO516 := n4_; have BK485 := n5_; have BK517 := n6_; have BK518 := n7_; have HB := n8_; clear n0_ n1_ n2_ n3_ n4_ n5_ n6_ n7_ n8_; have hnb39 := NB518_485.out; have hnc39 := NB485_518.out; obtain ⟨hcz40_0, hcz40_1, hcz40_2, hcz40_3, hcz40_4, hcz40_5, hfz40_0, hfz40_1, hfz40_2, hfz40_3, hfz40_4, hfz40_5⟩ := aC6 BK518) | ((with_reducible refine gate_store (t := 35) (p := 8) rfl ?_); refine store_event (t := 35) (p := 8) (v := ?vo_w41) (w1 := ((((((w38.setCell ⟨gb518, 0, none⟩ (.int .i64 t508)).setCell ⟨gb518, 1, none⟩ (.int .i64 t509)).setCell ⟨gb518, 2, none⟩ (.int .u8 t510)).setCell ⟨gb518, 3, none⟩ (.int .i64 t511)).setCell ⟨gb518, 4, none⟩ (.int .i64 t512)).setCell ⟨gb518, 5, none⟩ (.float .f64 t513))) ?hg ?ho ?hn ?hr ?_; (case ho => rfl); (case hg => rfl); (case hn => rfl); (case hr => first | (go_simp; done) | (go_simp; rfl)); intro w41 hw; have n0_ : zA (Kd.R k49 49 w41 w.heap.size (fun _ => True) (.slice Ao15 x0_1.length co15) x0_1) := ⟨(by rw [hw]; exact (by (with_reducible repeat (first | apply Kd.zI | apply Kd.zJ | apply Kd.zK)); exact Kd.zU (Kd.zR (p := ⟨gb518, 5, none⟩) (Kd.zR (p := ⟨gb518, 4, none⟩) (Kd.zR (p := ⟨gb518, 3, none⟩) (Kd.zR (p := ⟨gb518, 2, none⟩) (Kd.zR (p := ⟨gb518, 1, none⟩) (Kd.zR (p := ⟨gb518, 0, none⟩) (Kd.zV HO_0.out BK518.out (by decide)) (fun _ hk => hk.2) (.int .i64 t508)) (fun _ hk => hk.2) (.int .i64 t509)) (fun _ hk => hk.2) (.int .u8 t510)) (fun _ hk => hk.2) (.int .i64 t511)) (fun _ hk => hk.2) (.int .i64 t512)) (fun _ hk => hk.2) (.float .f64 t513)) (fun _ hk => trivial)))⟩; have n1_ : zA (Kd.R k61 61 w41 w.heap.size (fun _ => True) (.slice Ao33 t499.length co33) t499) := ⟨(by rw [hw]; exact (by (with_reducible repeat (first | apply Kd.zI | apply Kd.zJ | apply Kd.zK)); exact Kd.zU (Kd.zR (p := ⟨gb518, 5, none⟩) (Kd.zR (p := ⟨gb518, 4, none⟩) (Kd.zR (p := ⟨gb518, 3, none⟩) (Kd.zR (p := ⟨gb518, 2, none⟩) (Kd.zR (p := ⟨gb518, 1, none⟩) (Kd.zR (p := ⟨gb518, 0, none⟩) (Kd.zV HO501.out BK518.out (by decide)) (fun _ hk => hk.2) (.int .i64 t508)) (fun _ hk => hk.2) (.int .i64 t509)) (fun _ hk => hk.2) (.int .u8 t510)) (fun _ hk => hk.2) (.int .i64 t511)) (fun _ hk => hk.2) (.int .i64 t512)) (fun _ hk => hk.2) (.float .f64 t513)) (fun _ hk => trivial)))⟩; have n2_ : zA (Kd.R (Kd.int .u8) 43 w41 w.heap.size (fun _ => True) (.slice Ao37 t502.length co37) t502) := ⟨(by rw [hw]; exact (by (with_reducible repeat (first | apply Kd.zI | apply Kd.zJ | apply Kd.zK)); exact Kd.zU (Kd.zR (p := ⟨gb518, 5, none⟩) (Kd.zR (p := ⟨gb518, 4, none⟩) (Kd.zR (p := ⟨gb518, 3, none⟩) (Kd.zR (p := ⟨gb518, 2, none⟩) (Kd.zR (p := ⟨gb518, 1, none⟩) (Kd.zR (p := ⟨gb518, 0, none⟩) (Kd.zV HO504.out BK518.out (by decide)) (fun _ hk => hk.2) (.int .i64 t508)) (fun _ hk => hk.2) (.int .i64 t509)) (fun _ hk => hk.2) (.int .u8 t510)) (fun _ hk => hk.2) (.int .i64 t511)) (fun _ hk => hk.2) (.int .i64 t512)) (fun _ hk => hk.2) (.float .f64 t513)) (fun _ hk => trivial)))⟩; have n3_ : zA (Kd.R k45 45 w41 w.heap.size (fun _ => True) v506 t505) := ⟨(by rw [hw]; exact (by (with_reducible repeat (first | apply Kd.zI | apply Kd.zJ | apply Kd.zK)); exact Kd.zU (Kd.zR (p := ⟨gb518, 5, none⟩) (Kd.zR (p := ⟨gb518, 4, none⟩) (Kd.zR (p := ⟨gb518, 3, none⟩) (Kd.zR (p := ⟨gb518, 2, none⟩) (Kd.zR (p := ⟨gb518, 1, none⟩) (Kd.zR (p := ⟨gb518, 0, none⟩) (Kd.zV HO507.out BK518.out (by decide)) (fun _ hk => hk.2) (.int .i64 t508)) (fun _ hk => hk.2) (.int .i64 t509)) (fun _ hk => hk.2) (.int .u8 t510)) (fun _ hk => hk.2) (.int .i64 t511)) (fun _ hk => hk.2) (.int .i64 t512)) (fun _ hk => hk.2) (.float .f64 t513)) (fun _ hk => trivial)))⟩; have n4_ : zA (Kd.R (Kd.int .u8) 5 w41 w.heap.size (fun _ => True) v515 t514) := ⟨(by rw [hw]; exact (by (with_reducible repeat (first | apply Kd.zI | apply Kd.zJ | apply Kd.zK)); exact Kd.zU (Kd.zR (p := ⟨gb518, 5, none⟩) (Kd.zR (p := ⟨gb518, 4, none⟩) (Kd.zR (p := ⟨gb518, 3, none⟩) (Kd.zR (p := ⟨gb518, 2, none⟩) (Kd.zR (p := ⟨gb518, 1, none⟩) (Kd.zR (p := ⟨gb518, 0, none⟩) (Kd.zV HO516.out BK518.out (by decide)) (fun _ hk => hk.2) (.int .i64 t508)) (fun _ hk => hk.2) (.int .i64 t509)) (fun _ hk => hk.2) (.int .u8 t510)) (fun _ hk => hk.2) (.int .i64 t511)) (fun _ hk => hk.2) (.int .i64 t512)) (fun _ hk => hk.2) (.float .f64 t513)) (fun _ hk => trivial)))⟩; have n5_ : zA (w41.heap[gb485]? = some (.cells #[.int .u8 a1_0, .int .u8 a1_1, .int .u8 a1_2, .int .u16 a1_3, .int .u16 a1_4, .float .f64 a1_5] 26 (0, 0))) := ⟨(by rw [hw]; exact (aB BK485))⟩; have n6_ : zA (w41.heap[gb517]? = some (.cells #[.slice Ao33 t499.length co33, .slice Ao37 t502.length co37] 31 (0, 0))) := ⟨(by rw [hw]; exact (aB BK517))⟩; have n7_ : zA (w41.heap[gb518]? = some (.cells #[.int .i64 t508, .int .i64 t509, .int .u8 t510, .int .i64 t511, .int .i64 t512, .float .f64 t513] 35 (0, 0))) := ⟨(by rw [hw]; exact (by (with_reducible repeat (first | refine zE ?_ _ | refine zD ?_ | refine zF ?_ _)); refine blk_put (cs := #[.int .i64 t508, .int .i64 t509, .int .u8 t510, .int .i64 t511, .int .i64 t512, .float .f64 0]) ?_ 5 _ rfl; (with_reducible repeat (first | refine zE ?_ _ | refine zD ?_ | refine zF ?_ _)); refine blk_put (cs := #[.int .i64 t508, .int .i64 t509, .int .u8 t510, .int .i64 t511, .int .i64 0, .float .f64 0]) ?_ 4 _ rfl; (with_reducible repeat (first | refine zE ?_ _ | refine zD ?_ | refine zF ?_ _)); refine blk_put (cs := #[.int .i64 t508, .int .i64 t509, .int .u8 t510, .int .i64 0, .int .i64 0, .float .f64 0]) ?_ 3 _ rfl; (with_reducible repeat (first | refine zE ?_ _ | refine zD ?_ | refine zF ?_ _)); refine blk_put (cs := #[.int .i64 t508, .int .i64 t509, .int .u8 0, .int .i64 0, .int .i64 0, .float .f64 0]) ?_ 2 _ rfl; (with_reducible repeat (first | refine zE ?_ _ | refine zD ?_ | refine zF ?_ _)); refine blk_put (cs := #[.int .i64 t508, .int .i64 0, .int .u8 0, .int .i64 0, .int .i64 0, .float .f64 0]) ?_ 1 _ rfl; (with_reducible repeat (first | refine zE ?_ _ | refine zD ?_ | refine zF ?_ _)); refine blk_put (cs := #[.int .i64 0, .int .i64 0, .int .u8 0, .int .i64 0, .int .i64 0, .float .f64 0]) ?_ 0 _ rfl; (with_reducible repeat (first | refine zE ?_ _ | refine zD ?_ | refine zF ?_ _)); exact BK518.out))⟩; have n8_ : zA (Below w.heap.size w w41) := ⟨(by rw [hw]; exact (aL HB))⟩; clear hw; clear HO_0; clear HO501; clear HO504; clear HO507; clear HO516; clear BK485; clear BK517; clear BK518; clear HB; have HO_0 := n0_; have HO501 := n1_; have HO504 := n2_; have HO507 := n3_; have HO516 := n4_; have BK485 := n5_; have BK517 := n6_; have BK518 := n7_; have HB := n8_; clear n0_ n1_ n2_ n3_ n4_ n5_ n6_ n7_ n8_))
  have n0_ := zA.mk (Kd.zK HO_0.out); have n1_ := zA.mk (Kd.zK HO501.out); have n2_ := zA.mk (Kd.zK HO504.out); have n3_ := zA.mk (Kd.zK HO507.out); have n4_ := zA.mk (Kd.zK HO516.out); have n5_ := zA.mk (zD BK485.out); have n6_ := zA.mk (zD BK517.out); have n7_ := zA.mk (zD BK518.out); have n8_ := zA.mk (below_drew1 HB.out); clear HO_0; clear HO501; clear HO504; clear HO507; clear HO516; clear BK485; clear BK517; clear BK518; clear HB; have HO_0 := n0_; have HO501 := n1_; have HO504 := n2_; have HO507 := n3_; have HO516 := n4_; have BK485 := n5_; have BK517 := n6_; have BK518 := n7_; have HB := n8_; clear n0_ n1_ n2_ n3_ n4_ n5_ n6_ n7_ n8_; obtain ⟨Ao43, co43, eo43⟩ := Kd.zS HO516.out; (first | subst eo43 | (injection eo43 with f1_ f2_ f3_; have f4_ := f1_.symm; have f5_ := f3_.symm; clear f1_ f2_ f3_; subst f4_; subst f5_))
  obtain ⟨Ao44, co44, eo44⟩ := Kd.zS HO507.out; (first | subst eo44 | (injection eo44 with f1_ f2_ f3_; have f4_ := f1_.symm; have f5_ := f3_.symm; clear f1_ f2_ f3_; subst f4_; subst f5_))
  refine start_ (n := 12) (S := fun w' => w'.cell? ⟨gb517, 0, none⟩ = some (.slice Ao33 t499.length co33) ∧ w'.cell? ⟨gb517, 1, none⟩ = some (.slice Ao37 t502.length co37) ∧ w'.cell? ⟨gb518, 0, none⟩ = some (.int .i64 t508) ∧ w'.cell? ⟨gb518, 1, none⟩ = some (.int .i64 t509) ∧ w'.cell? ⟨gb518, 2, none⟩ = some (.int .u8 t510) ∧ w'.cell? ⟨gb518, 3, none⟩ = some (.int .i64 t511) ∧ w'.cell? ⟨gb518, 4, none⟩ = some (.int .i64 t512) ∧ w'.cell? ⟨gb518, 5, none⟩ = some (.float .f64 t513)) (ds := []) #[false, false, false, false, false, false, false, false, false, false, false, false] (by kernel_rfl) rfl rfl ⟨(zC BK517.out 0).trans rfl, (zC BK517.out 1).trans rfl, (zC BK518.out 0).trans rfl, (zC BK518.out 1).trans rfl, (zC BK518.out 2).trans rfl, (zC BK518.out 3).trans rfl, (zC BK518.out 4).trans rfl, (zC BK518.out 5).trans rfl⟩ (fun hHeld => ?_); refine with_tabW stanzalaw22_DrawCells.tab11 stanzalaw22_DrawCells.bits11 (fun HT_ HW_ => ?_)
  generalize w41.drew = w42 at HO_0 HO501 HO504 HO507 HO516 BK485 BK517 BK518 HB hHeld ⊢
  refine aP 0 (some 47) (tf_ 1 12) HT_ ?_
  refine aP 2 (some 49) #[true, false, true, false, false, false, false, false, false, false, false, false] HT_ ?_
  refine aP 5 (some 52) #[true, false, true, false, false, true, false, false, false, false, false, false] HT_ ?_
  refine aP 7 (some 54) #[true, false, true, false, false, true, false, true, false, false, false, false] HT_ ?_
  refine take_ (i := 1) (N := some 48) (v := ?_) (a' := ?_) #[true, true, true, false, false, true, false, true, false, false, false, false] rfl rfl (take_ofW HT_.out HW_.out (by kernel_rfl)) (fun _ _ _ h => h) (Or.inl ⟨by rfl, ?_⟩) hHeld ?_ ?_
  rotate_left
  ·rintro w' ⟨s0, s1, s2, s3, s4, s5, s6, s7⟩
   go_simp
   with_reducible rfl
  rotate_left
  ·simp only [Act.put, sA_, sB_, sC_, i64_w, i32_w]
   rfl
  refine take_ (i := 3) (N := some 50) (v := ?_) (a' := ?_) #[true, true, true, true, false, true, false, true, false, false, false, false] rfl rfl (take_ofW HT_.out HW_.out (by kernel_rfl)) (fun _ _ _ h => h) (Or.inl ⟨by rfl, ?_⟩) hHeld ?_ ?_
  rotate_left
  ·rintro w' ⟨s0, s1, s2, s3, s4, s5, s6, s7⟩
   go_simp
   with_reducible rfl
  rotate_left
  ·simp only [Act.put, sA_, sB_, sC_, i64_w, i32_w]
   rfl
  refine take_ (i := 6) (N := some 53) (v := ?_) (a' := ?_) #[true, true, true, true, false, true, true, true, false, false, false, false] rfl rfl (take_ofW HT_.out HW_.out (by kernel_rfl)) (fun _ _ _ h => h) (Or.inl ⟨by rfl, ?_⟩) hHeld ?_ ?_
  rotate_left
  ·rintro w' ⟨s0, s1, s2, s3, s4, s5, s6, s7⟩
   go_simp
   with_reducible rfl
  rotate_left
  ·simp only [Act.put, sA_, sB_, sC_, i64_w, i32_w]
   rfl
  refine take_ (i := 8) (N := some 55) (v := ?_) (a' := ?_) #[true, true, true, true, false, true, true, true, true, false, false, false] rfl rfl (take_ofW HT_.out HW_.out (by kernel_rfl)) (fun _ _ _ h => h) (Or.inl ⟨by rfl, ?_⟩) hHeld ?_ ?_
  rotate_left
  ·rintro w' ⟨s0, s1, s2, s3, s4, s5, s6, s7⟩
   go_simp
   with_reducible rfl
  rotate_left
  ·simp only [Act.put, sA_, sB_, sC_, i64_w, i32_w]
   rfl
  refine one_ (i := 4) (N := some 51) #[true, true, true, true, true, true, true, true, true, false, false, false] rfl rfl (one_of HT_.out (by kernel_rfl)) (by decide) (fun K hK => ?_)
  refine goes_ Try.func23 (by kernel_rfl) rfl #[.slice Ao43 t514.length co43, .agg #[.slice Ao33 t499.length co33, .slice Ao37 t502.length co37], .slice Ao44 t505.length co44, .agg #[.int .i64 t508, .int .i64 t509, .int .u8 t510, .int .i64 t511, .int .i64 t512, .float .f64 t513], .bool false] (by rfl) rfl rfl aT ?_
  with_reducible refine (draw_All.calls k1 _ _ t514 _ _ t499 _ _ t502 _ _ t505 t508 t509 t510 t511 t512 t513 false t519 _ ?side1 ?side2 ?side3 ?side4 ?side5 ?side6 ?side7 ?side8 A26.out).mono ?_
  (case side1 => exact aF HO516)
  (case side2 => exact (Kd.zP HO516.out).2.1)
  (case side3 => exact aF HO501)
  (case side4 => exact (Kd.zP HO501.out).2.1)
  (case side5 => exact aF HO504)
  (case side6 => exact (Kd.zP HO504.out).2.1)
  (case side7 => exact aF HO507)
  (case side8 => exact (Kd.zP HO507.out).2.1)
  rintro e w45 ⟨v520, rfl, ho0, hb⟩
  refine ⟨_, rfl, ?_⟩
  have n0_ := zA.mk (Kd.zQ (aR HO_0) hb); have n1_ := zA.mk (Kd.zQ (aR HO501) hb); have n2_ := zA.mk (Kd.zQ (aR HO504) hb); have n3_ := zA.mk (Kd.zQ (aR HO507) hb); have n4_ := zA.mk (Kd.zQ (aR HO516) hb); have n5_ := zA.mk (Kd.S_lower (Kd.S_new' ho0 (Kd.R_lt (aR HO516))) (zG (aL HB))); have n6_ := zA.mk (zB (g := gb485) (o := .cells #[.int .u8 a1_0, .int .u8 a1_1, .int .u8 a1_2, .int .u16 a1_3, .int .u16 a1_4, .float .f64 a1_5] 26 (0, 0)) (aB BK485) hb); have n7_ := zA.mk (zB (g := gb517) (o := .cells #[.slice Ao33 t499.length co33, .slice Ao37 t502.length co37] 31 (0, 0)) (aB BK517) hb); have n8_ := zA.mk (zB (g := gb518) (o := .cells #[.int .i64 t508, .int .i64 t509, .int .u8 t510, .int .i64 t511, .int .i64 t512, .float .f64 t513] 35 (0, 0)) (aB BK518) hb); have n9_ := zA.mk (zH (aL HB) hb); clear HO_0; clear HO501; clear HO504; clear HO507; clear HO516; clear BK485; clear BK517; clear BK518; clear HB; have HO_0 := n0_; have HO501 := n1_; have HO504 := n2_; have HO507 := n3_; have HO516 := n4_; have HO521 := n5_; have BK485 := n6_; have BK517 := n7_; have BK518 := n8_; have HB := n9_; clear n0_ n1_ n2_ n3_ n4_ n5_ n6_ n7_ n8_ n9_; (try clear hb)
  (try clear hb2)
  (try clear hk)
  (try clear hi)
  (try clear ho0)
  refine hK.out _ _ ⟨(zC BK517.out 0).trans rfl, (zC BK517.out 1).trans rfl, (zC BK518.out 0).trans rfl, (zC BK518.out 1).trans rfl, (zC BK518.out 2).trans rfl, (zC BK518.out 3).trans rfl, (zC BK518.out 4).trans rfl, (zC BK518.out 5).trans rfl⟩ (fun hHeld => ?_)
  clear hK K; refine norm_ (a' := ?_) ?_ ?_
  rotate_left
  ·show Act.put _ (some 51) _ = _
   simp only [Act.put, sA_, sB_, sC_, i64_w, i32_w]; rfl
  refine one_ (i := 9) (N := some 56) #[true, true, true, true, true, true, true, true, true, true, false, false] rfl rfl (one_of HT_.out (by kernel_rfl)) (by decide) (fun K hK => ?_)
  refine goes_ Try.func23 (by kernel_rfl) rfl #[.slice Ao43 t514.length co43, .agg #[.slice Ao33 t499.length co33, .slice Ao37 t502.length co37], .slice Ao44 t505.length co44, .agg #[.int .i64 t508, .int .i64 t509, .int .u8 t510, .int .i64 t511, .int .i64 t512, .float .f64 t513], .bool true] (by rfl) rfl rfl aT ?_
  with_reducible refine (draw_All.calls k1 _ _ t514 _ _ t499 _ _ t502 _ _ t505 t508 t509 t510 t511 t512 t513 true t522 _ ?side1 ?side2 ?side3 ?side4 ?side5 ?side6 ?side7 ?side8 A27.out).mono ?_
  (case side1 => exact aF HO516)
  (case side2 => exact (Kd.zP HO516.out).2.1)
  (case side3 => exact aF HO501)
  (case side4 => exact (Kd.zP HO501.out).2.1)
  (case side5 => exact aF HO504)
  (case side6 => exact (Kd.zP HO504.out).2.1)
  (case side7 => exact aF HO507)
  (case side8 => exact (Kd.zP HO507.out).2.1)
  rintro e w46 ⟨v523, rfl, ho0, hb⟩
  refine ⟨_, rfl, ?_⟩
  have n0_ := zA.mk (Kd.zQ (aR HO_0) hb); have n1_ := zA.mk (Kd.zQ (aR HO501) hb); have n2_ := zA.mk (Kd.zQ (aR HO504) hb); have n3_ := zA.mk (Kd.zQ (aR HO507) hb); have n4_ := zA.mk (Kd.zQ (aR HO516) hb); have n5_ := zA.mk (Kd.S_elder' (aS HO521) (Kd.S_base ho0) hb); have n6_ := zA.mk (Kd.S_lower (Kd.S_new' (Kd.S_new' ho0 (Kd.R_lt (aR HO516))) (Kd.S_lt (aS HO521))) (zG (aL HB))); have n7_ := zA.mk (zB (g := gb485) (o := .cells #[.int .u8 a1_0, .int .u8 a1_1, .int .u8 a1_2, .int .u16 a1_3, .int .u16 a1_4, .float .f64 a1_5] 26 (0, 0)) (aB BK485) hb); have n8_ := zA.mk (zB (g := gb517) (o := .cells #[.slice Ao33 t499.length co33, .slice Ao37 t502.length co37] 31 (0, 0)) (aB BK517) hb); have n9_ := zA.mk (zB (g := gb518) (o := .cells #[.int .i64 t508, .int .i64 t509, .int .u8 t510, .int .i64 t511, .int .i64 t512, .float .f64 t513] 35 (0, 0)) (aB BK518) hb); have n10_ := zA.mk (zH (aL HB) hb); clear HO_0; clear HO501; clear HO504; clear HO507; clear HO516; clear HO521; clear BK485; clear BK517; clear BK518; clear HB; have HO_0 := n0_; have HO501 := n1_; have HO504 := n2_; have HO507 := n3_; have HO516 := n4_; have HO521 := n5_; have HO524 := n6_; have BK485 := n7_; have BK517 := n8_; have BK518 := n9_; have HB := n10_; clear n0_ n1_ n2_ n3_ n4_ n5_ n6_ n7_ n8_ n9_ n10_; (try clear hb)
  (try clear hb2)
  (try clear hk)
  (try clear hi)
  (try clear ho0)
  refine hK.out _ _ ⟨(zC BK517.out 0).trans rfl, (zC BK517.out 1).trans rfl, (zC BK518.out 0).trans rfl, (zC BK518.out 1).trans rfl, (zC BK518.out 2).trans rfl, (zC BK518.out 3).trans rfl, (zC BK518.out 4).trans rfl, (zC BK518.out 5).trans rfl⟩ (fun hHeld => ?_)
  clear hK K; refine norm_ (a' := ?_) ?_ ?_
  rotate_left
  ·show Act.put _ (some 56) _ = _
   simp only [Act.put, sA_, sB_, sC_, i64_w, i32_w]; rfl
  refine aP 10 (some 10) (tf_ 11 12) HT_ ?_
  refine aP 11 (some 11) #[true, true, true, true, true, true, true, true, true, true, true, true] HT_ ?_
  refine done_ (done_of HT_.out (by kernel_rfl)) ?_
  go_upto_region 12 with (fail)
  go_cut [68] (fun v68 wc => ∃ (kq : Nat) (x68_27 : Bool), v68 = .bool x68_27 ∧ zA (stanzalaw22_DrawCells.j1 kq t505 t519 t522 x68_27 t499 t502 t508 t509 t510 t511 t512 t513 = some r) ∧ zA (kq ≤ k1) ∧ zA (Kd.R k45 45 wc w.heap.size (fun _ => True) (.slice Ao44 t505.length co44) t505) ∧ zA (Kd.S (Kd.slice 5 (Kd.int .u8)) 51 wc w.heap.size (fun k_ => some k_ ≠ (v523 : Value).ownBlock) v520 t519) ∧ zA (Kd.S (Kd.slice 5 (Kd.int .u8)) 51 wc w.heap.size (fun k_ => some k_ ≠ (v520 : Value).ownBlock) v523 t522) ∧ zA (Kd.R k61 61 wc w.heap.size (fun _ => True) (.slice Ao33 t499.length co33) t499) ∧ zA (Kd.R (Kd.int .u8) 43 wc w.heap.size (fun _ => True) (.slice Ao37 t502.length co37) t502) ∧ zA (wc.heap[gb485]? = some (.cells #[.int .u8 a1_0, .int .u8 a1_1, .int .u8 a1_2, .int .u16 a1_3, .int .u16 a1_4, .float .f64 a1_5] 26 (0, 0))) ∧ zA (wc.heap[gb517]? = some (.cells #[(.slice Ao33 t499.length co33), (.slice Ao37 t502.length co37)] 31 (0, 0))) ∧ zA (wc.heap[gb518]? = some (.cells #[.int .i64 t508, .int .i64 t509, .int .u8 t510, .int .i64 t511, .int .i64 t512, .float .f64 t513] 35 (0, 0))) ∧ zA (Below w.heap.size w wc))
  case first =>
   have H := HC28.out; clear HC28; by_cases c47 : (t519.length : Int) = (t505.length : Int)
   rotate_left
   ·rw [if_neg c47] at H
    have c47b0 : ((t519.length : Int) == (t505.length : Int)) = false := beq_eq_false_iff_ne.mpr c47
    have c47b1 : ((t519.length : Int) != (t505.length : Int)) = true := bne_iff_ne.mpr c47
    have c47b2 : (t519.length == t505.length) = false := by first | simpa using c47 | (simp at c47 ⊢; omega)
    (try simp only [hl0_1] at c47b0)
    (try simp only [hl0_1] at c47b1)
    (try simp only [hl0_1] at c47b2)
    (first | rw [c47b0] | (simp only [i64_w, i32_w]; rw [c47b0]) | skip)
    have H' := zA.mk H
    clear H; obtain ⟨Ao50, co50, eo50⟩ := Kd.S_slice HO521.out; subst eo50; go_wp2
    go_meet
    case rel => exact ⟨_, (true), aZ, H', ⟨by have := HK1.out; first | omega | exact Nat.le_refl _⟩, ⟨by (try simp only [hl0_1]); (with_reducible repeat (first | apply Kd.zI | apply Kd.zJ | apply Kd.zK)); exact HO507.out⟩, ⟨by (try simp only [hl0_1]); (with_reducible repeat (first | apply Kd.S_alloc | apply Kd.S_drewN | apply Kd.S_drew)); exact Kd.S_mono HO521.out (fun _ hk => hk.2)⟩, ⟨by (try simp only [hl0_1]); (with_reducible repeat (first | apply Kd.S_alloc | apply Kd.S_drewN | apply Kd.S_drew)); exact Kd.S_mono HO524.out (fun _ hk => hk.2)⟩, ⟨by (try simp only [hl0_1]); (with_reducible repeat (first | apply Kd.zI | apply Kd.zJ | apply Kd.zK)); exact HO501.out⟩, ⟨by (try simp only [hl0_1]); (with_reducible repeat (first | apply Kd.zI | apply Kd.zJ | apply Kd.zK)); exact HO504.out⟩, ⟨by (try simp only [hl0_1]); (with_reducible repeat (first | refine zE ?_ _ | refine zD ?_ | refine zF ?_ _)); exact BK485.out⟩, ⟨by (try simp only [hl0_1]); (with_reducible repeat (first | refine zE ?_ _ | refine zD ?_ | refine zF ?_ _)); exact BK517.out⟩, ⟨by (try simp only [hl0_1]); (with_reducible repeat (first | refine zE ?_ _ | refine zD ?_ | refine zF ?_ _)); exact BK518.out⟩, ⟨aL HB⟩⟩
   rw [if_pos c47] at H; have c47b0 : ((t519.length : Int) == (t505.length : Int)) = true := beq_iff_eq.mpr c47
   have c47b1 : ((t519.length : Int) != (t505.length : Int)) = false := bne_eq_false_iff_eq.mpr c47
   have c47b2 : (t519.length == t505.length) = true := by first | simpa using c47 | (simp at c47 ⊢; omega)
   (try simp only [hl0_1] at c47b0)
   (try simp only [hl0_1] at c47b1)
   (try simp only [hl0_1] at c47b2)
   clear c47; (first | rw [c47b0] | (simp only [i64_w, i32_w]; rw [c47b0]) | skip)
   have H' := zA.mk H
   clear H; obtain ⟨Ao48, co48, eo48⟩ := Kd.S_slice HO521.out; subst eo48; obtain ⟨Ao49, co49, eo49⟩ := Kd.S_slice HO524.out; subst eo49; go_wp2
   go_meet
   case rel => exact ⟨_, (((t522.length : Int) != (t505.length : Int))), aZ, H', ⟨by have := HK1.out; first | omega | exact Nat.le_refl _⟩, ⟨by (try simp only [hl0_1]); (with_reducible repeat (first | apply Kd.zI | apply Kd.zJ | apply Kd.zK)); exact HO507.out⟩, ⟨by (try simp only [hl0_1]); (with_reducible repeat (first | apply Kd.S_alloc | apply Kd.S_drewN | apply Kd.S_drew)); exact Kd.S_mono HO521.out (fun _ hk => hk.2)⟩, ⟨by (try simp only [hl0_1]); (with_reducible repeat (first | apply Kd.S_alloc | apply Kd.S_drewN | apply Kd.S_drew)); exact Kd.S_mono HO524.out (fun _ hk => hk.2)⟩, ⟨by (try simp only [hl0_1]); (with_reducible repeat (first | apply Kd.zI | apply Kd.zJ | apply Kd.zK)); exact HO501.out⟩, ⟨by (try simp only [hl0_1]); (with_reducible repeat (first | apply Kd.zI | apply Kd.zJ | apply Kd.zK)); exact HO504.out⟩, ⟨by (try simp only [hl0_1]); (with_reducible repeat (first | refine zE ?_ _ | refine zD ?_ | refine zF ?_ _)); exact BK485.out⟩, ⟨by (try simp only [hl0_1]); (with_reducible repeat (first | refine zE ?_ _ | refine zD ?_ | refine zF ?_ _)); exact BK517.out⟩, ⟨by (try simp only [hl0_1]); (with_reducible repeat (first | refine zE ?_ _ | refine zD ?_ | refine zF ?_ _)); exact BK518.out⟩, ⟨aL HB⟩⟩
  clear HC28; try clear c1
  try clear p1
  try clear q1
  try clear hx1
  try clear c2
  try clear p2
  try clear q2
  try clear hx2
  try clear hf2
  try clear c3
  try clear c4
  try clear c6
  try clear c6b0
  try clear c6b1
  try clear p6
  try clear c7
  try clear c7b0
  try clear c7b1
  try clear c8
  try clear c9
  try clear q13
  try clear c16
  try clear c16b0
  try clear c17
  try clear c17b0
  try clear c18
  try clear c18b0
  try clear c19
  try clear p19
  try clear q19
  try clear hx19
  try clear hf19
  try clear c20
  try clear p20
  try clear q20
  try clear hx20
  try clear hf20
  try clear c21
  try clear hx21
  try clear hf21
  try clear c22
  try clear c23
  try clear hx23
  try clear hf23
  try clear c34
  try clear c35
  try clear c39
  try clear c47
  try clear c47b0
  try clear c47b1
  try clear c47b2
  try clear hcz29_0
  try clear hcz29_1
  try clear hcz29_2
  try clear hcz29_3
  try clear hcz29_4
  try clear hcz29_5
  try clear hcz36_0
  try clear hcz36_1
  try clear hcz40_0
  try clear hcz40_1
  try clear hcz40_2
  try clear hcz40_3
  try clear hcz40_4
  try clear hcz40_5
  try clear hfz29_0
  try clear hfz29_1
  try clear hfz29_2
  try clear hfz29_3
  try clear hfz29_4
  try clear hfz29_5
  try clear hfz36_0
  try clear hfz36_1
  try clear hfz40_0
  try clear hfz40_1
  try clear hfz40_2
  try clear hfz40_3
  try clear hfz40_4
  try clear hfz40_5
  try clear hx19_0
  try clear hx19_1
  try clear hx19_2
  try clear hx19_3
  try clear hx20_0
  try clear hx20_1
  try clear hx20_2
  try clear hx20_3
  try clear hx21_2
  try clear hx23_0
  try clear p19
  try clear p2
  try clear p20
  try clear q1
  try clear q13
  try clear q19
  try clear q20
  obtain ⟨kq, x68_27, rfl, HA, HJ27, HO_7, HO_10, HO_11, HO_518000, HO_518001, BK485, BK517, BK518, HB⟩ := hcut; cases kq with
  | zero => exact absurd HA.out (by simp [stanzalaw22_DrawCells.j1])
  | succ kj27 =>
   have H := HA.out; clear HA; simp only [stanzalaw22_DrawCells.j1] at H; by_cases c51 : x68_27 = true
   ·subst c51
    have H1 : (some false) = some r := by rw [if_pos rfl] at H; exact H
    clear H; have H := H1; clear H1; exact absurd ((Option.some.inj H).trans hrt_.out) (by decide)
   replace c51 := Bool.eq_false_iff.mpr c51; subst c51; have H1 : (stanzalaw22_DrawCells.l1 kj27 t519 t522 t505 (t505.length : Int) 0 t499 t502 t508 t509 t510 t511 t512 t513) = some r := by rw [if_neg (show ¬ (false = true) by decide)] at H; exact H
   clear H; have H := H1; clear H1; have H' := zA.mk H
   clear H; go_wp2
   (try simp only [hji5])
   go_loopg [71] kj27 (fun kq v71 w' => ∃ (x71_3 : Int), v71 = .int .i64 x71_3 ∧ zA (stanzalaw22_DrawCells.l1 kq t519 t522 t505 (t505.length : Int) x71_3 t499 t502 t508 t509 t510 t511 t512 t513 = some r) ∧ zA (kq ≤ kj27) ∧ zA (Kd.S (Kd.slice 5 (Kd.int .u8)) 51 w' w.heap.size (fun k_ => some k_ ≠ (v523 : Value).ownBlock) v520 t519) ∧ zA (Kd.S (Kd.slice 5 (Kd.int .u8)) 51 w' w.heap.size (fun k_ => some k_ ≠ (v520 : Value).ownBlock) v523 t522) ∧ zA (Kd.R k45 45 w' w.heap.size (fun _ => True) (.slice Ao44 t505.length co44) t505) ∧ zA (Kd.R k61 61 w' w.heap.size (fun _ => True) (.slice Ao33 t499.length co33) t499) ∧ zA (Kd.R (Kd.int .u8) 43 w' w.heap.size (fun _ => True) (.slice Ao37 t502.length co37) t502) ∧ zA (w'.heap[gb485]? = some (.cells #[.int .u8 a1_0, .int .u8 a1_1, .int .u8 a1_2, .int .u16 a1_3, .int .u16 a1_4, .float .f64 a1_5] 26 (0, 0))) ∧ zA (w'.heap[gb517]? = some (.cells #[(.slice Ao33 t499.length co33), (.slice Ao37 t502.length co37)] 31 (0, 0))) ∧ zA (w'.heap[gb518]? = some (.cells #[.int .i64 t508, .int .i64 t509, .int .u8 t510, .int .i64 t511, .int .i64 t512, .float .f64 t513] 35 (0, 0))) ∧ zA (Below w.heap.size w w'))
   case atStart => exact ⟨(0), aZ, H', ⟨Nat.le_refl _⟩, ⟨by (try simp only [hl0_1]); (with_reducible repeat (first | apply Kd.S_alloc | apply Kd.S_drewN | apply Kd.S_drew)); exact HO_10.out⟩, ⟨by (try simp only [hl0_1]); (with_reducible repeat (first | apply Kd.S_alloc | apply Kd.S_drewN | apply Kd.S_drew)); exact HO_11.out⟩, ⟨by (try simp only [hl0_1]); (with_reducible repeat (first | apply Kd.zI | apply Kd.zJ | apply Kd.zK)); exact HO_7.out⟩, ⟨by (try simp only [hl0_1]); (with_reducible repeat (first | apply Kd.zI | apply Kd.zJ | apply Kd.zK)); exact HO_518000.out⟩, ⟨by (try simp only [hl0_1]); (with_reducible repeat (first | apply Kd.zI | apply Kd.zJ | apply Kd.zK)); exact HO_518001.out⟩, ⟨by (try simp only [hl0_1]); (with_reducible repeat (first | refine zE ?_ _ | refine zD ?_ | refine zF ?_ _)); exact BK485.out⟩, ⟨by (try simp only [hl0_1]); (with_reducible repeat (first | refine zE ?_ _ | refine zD ?_ | refine zF ?_ _)); exact BK517.out⟩, ⟨by (try simp only [hl0_1]); (with_reducible repeat (first | refine zE ?_ _ | refine zD ?_ | refine zF ?_ _)); exact BK518.out⟩, ⟨aL HB⟩⟩
   clear H'; try clear c1
   try clear p1
   try clear q1
   try clear hx1
   try clear c2
   try clear p2
   try clear q2
   try clear hx2
   try clear hf2
   try clear c3
   try clear c4
   try clear c5
   try clear c6
   try clear c6b0
   try clear c6b1
   try clear p6
   try clear c7
   try clear c7b0
   try clear c7b1
   try clear c8
   try clear c9
   try clear q13
   try clear c16
   try clear c16b0
   try clear c17
   try clear c17b0
   try clear c18
   try clear c18b0
   try clear c19
   try clear p19
   try clear q19
   try clear hx19
   try clear hf19
   try clear c20
   try clear p20
   try clear q20
   try clear hx20
   try clear hf20
   try clear c21
   try clear hx21
   try clear hf21
   try clear c22
   try clear c23
   try clear hx23
   try clear hf23
   try clear c34
   try clear c35
   try clear c39
   try clear c47
   try clear c47b0
   try clear c47b1
   try clear c47b2
   try clear c51
   try clear hcz29_0
   try clear hcz29_1
   try clear hcz29_2
   try clear hcz29_3
   try clear hcz29_4
   try clear hcz29_5
   try clear hcz36_0
   try clear hcz36_1
   try clear hcz40_0
   try clear hcz40_1
   try clear hcz40_2
   try clear hcz40_3
   try clear hcz40_4
   try clear hcz40_5
   try clear hfz29_0
   try clear hfz29_1
   try clear hfz29_2
   try clear hfz29_3
   try clear hfz29_4
   try clear hfz29_5
   try clear hfz36_0
   try clear hfz36_1
   try clear hfz40_0
   try clear hfz40_1
   try clear hfz40_2
   try clear hfz40_3
   try clear hfz40_4
   try clear hfz40_5
   try clear hx19_0
   try clear hx19_1
   try clear hx19_2
   try clear hx19_3
   try clear hx20_0
   try clear hx20_1
   try clear hx20_2
   try clear hx20_3
   try clear hx21_2
   try clear hx23_0
   try clear p1
   try clear p19
   try clear p2
   try clear p20
   try clear p6
   try clear q1
   try clear q13
   try clear q19
   try clear q2
   try clear q20
   obtain ⟨x71_3, rfl, HA, HK3, HO_10, HO_11, HO_69, HO_518000, HO_518001, BK485, BK517, BK518, HB⟩ := hrel; cases gk with
   | zero => exact absurd HA.out (by simp [stanzalaw22_DrawCells.l1])
   | succ k3 =>
    have H := HA.out; clear HA; simp only [stanzalaw22_DrawCells.l1] at H; by_cases c52 : x71_3 < (t505.length : Int)
    rotate_left
    ·rw [if_neg c52] at H
     have c52b0 : decide (x71_3 < (t505.length : Int)) = false := decide_eq_false c52
     (try simp only [hl0_1] at c52b0)
     clear c52; obtain rfl := Option.some.inj H
     go_wp2
     go_ret
     exact ⟨by first | rfl | (simp [errW_none, errW_some] <;> rfl) | (simp only [← hji5]; first | rfl | (simp [errW_none, errW_some] <;> rfl)) | (simp [*, errW_none, errW_some] <;> rfl), aL HB⟩
    rw [if_pos c52] at H; have c52b0 : decide (x71_3 < (t505.length : Int)) = true := decide_eq_true c52
    (try simp only [hl0_1] at c52b0)
    clear c52; by_cases c53 : 0 ≤ x71_3
    rotate_left
    ·rw [if_neg c53] at H
     exact absurd H (by simp)
    rw [if_pos c53] at H; have c53b0 : decide (0 ≤ x71_3) = true := decide_eq_true c53
    clear c53; by_cases c54 : x71_3 < (t505.length : Int)
    rotate_left
    ·rw [if_neg c54] at H
     exact absurd H (by simp)
    rw [if_pos c54] at H; have c54b0 : decide (x71_3 < (t505.length : Int)) = true := decide_eq_true c54
    (try simp only [hl0_1] at c54b0)
    clear c54; replace H := Option.bind_eq_some_iff.mp H; obtain ⟨t527, A550, H⟩ := H; replace H : (if ((rd_T45 t505 x71_3).f3) = 2 then (stanzalaw22_DrawCells.j3 k3 t519 t522 x71_3 ((rd_T45 t505 x71_3).f2) t505 (t505.length : Int) x71_3 false t499 t502 t508 t509 t510 t511 t512 t513 ((rd_T45 t505 x71_3).f0) ((rd_T45 t505 x71_3).f1) ((rd_T45 t505 x71_3).f2) ((rd_T45 t505 x71_3).f3)) else (if ((rd_T45 t505 x71_3).f3) = 4 then (stanzalaw22_DrawCells.j3 k3 t519 t522 x71_3 ((rd_T45 t505 x71_3).f2) t505 (t505.length : Int) x71_3 false t499 t502 t508 t509 t510 t511 t512 t513 ((rd_T45 t505 x71_3).f0) ((rd_T45 t505 x71_3).f1) ((rd_T45 t505 x71_3).f2) ((rd_T45 t505 x71_3).f3)) else (if t527 > 0 then (stanzalaw22_DrawCells.j3 k3 t519 t522 x71_3 ((rd_T45 t505 x71_3).f2) t505 (t505.length : Int) x71_3 (decide (((rd_T45 t505 x71_3).f2) ≤ t508)) t499 t502 t508 t509 t510 t511 t512 t513 ((rd_T45 t505 x71_3).f0) ((rd_T45 t505 x71_3).f1) ((rd_T45 t505 x71_3).f2) ((rd_T45 t505 x71_3).f3)) else (stanzalaw22_DrawCells.j3 k3 t519 t522 x71_3 ((rd_T45 t505 x71_3).f2) t505 (t505.length : Int) x71_3 false t499 t502 t508 t509 t510 t511 t512 t513 ((rd_T45 t505 x71_3).f0) ((rd_T45 t505 x71_3).f1) ((rd_T45 t505 x71_3).f2) ((rd_T45 t505 x71_3).f3))))) = some r := H; have A55 := zA.mk A550; clear A550; have HC56 := zA.mk H; clear H; have p525 : 0 ≤ (x71_3 : Int) := aD
    have q525 : x71_3 < (t505.length : Int) := aD
    obtain ⟨ad525, e525, hx525_0, hx525_1, hx525_2, hx525_3⟩ := at_T45 (Kd.zP HO_69.out).2.2 x71_3 p525 q525; cases e525
    replace p525 := eq_true p525; replace q525 := eq_true q525; go_upto_region 19 with (first | ((with_reducible refine gate_dst (N := 13) rfl ?_); (try (refine gate_guard (by rfl) ?_; dsimp only)); refine box_event ?hg (N := 13) ?hd (cs := #[.int .i64 0, .int .i64 0, .int .i64 0, .int .u8 0]) (t := 45) ?hr ?_; (case hd => rfl); (case hg => rfl); (case hr => first | (go_simp; done) | (go_simp; rfl)); intro gb526 hg w57 hbox hb; have n0_ := zA.mk (Kd.S_below (aS HO_10) hb); have n1_ := zA.mk (Kd.S_below (aS HO_11) hb); have n2_ := zA.mk (Kd.zQ (Kd.R_elderB (aR HO_69) gb526 (Nat.le_of_eq hg.symm)) hb); have n3_ := zA.mk (Kd.zQ (aR HO_518000) hb); have n4_ := zA.mk (Kd.zQ (aR HO_518001) hb); have n5_ := zA.mk (zB (g := gb485) (o := .cells #[.int .u8 a1_0, .int .u8 a1_1, .int .u8 a1_2, .int .u16 a1_3, .int .u16 a1_4, .float .f64 a1_5] 26 (0, 0)) (aB BK485) hb); have n6_ := zA.mk (zB (g := gb517) (o := .cells #[.slice Ao33 t499.length co33, .slice Ao37 t502.length co37] 31 (0, 0)) (aB BK517) hb); have n7_ := zA.mk (zB (g := gb518) (o := .cells #[.int .i64 t508, .int .i64 t509, .int .u8 t510, .int .i64 t511, .int .i64 t512, .float .f64 t513] 35 (0, 0)) (aB BK518) hb); have n8_ := zA.mk (zH (aL HB) hb); have n9_ := zA.mk (hbox); have n10_ := zA.mk ((by rw [hg]; exact (zG (aL HB)) : w.heap.size ≤ gb526)); have n11_ := zA.mk ((by rw [hg]; exact (zG (aL HB)) : w.heap.size ≤ gb526)); have n12_ := zA.mk ((by rw [hg]; exact Nat.ne_of_lt (blk_lt (g := gb485) (o := .cells #[.int .u8 a1_0, .int .u8 a1_1, .int .u8 a1_2, .int .u16 a1_3, .int .u16 a1_4, .float .f64 a1_5] 26 (0, 0)) (aB BK485)) : gb485 ≠ gb526)); have n13_ := zA.mk ((by rw [hg]; exact Nat.ne_of_gt (blk_lt (g := gb485) (o := .cells #[.int .u8 a1_0, .int .u8 a1_1, .int .u8 a1_2, .int .u16 a1_3, .int .u16 a1_4, .float .f64 a1_5] 26 (0, 0)) (aB BK485)) : gb526 ≠ gb485)); have n14_ := zA.mk ((by rw [hg]; exact Nat.ne_of_lt (blk_lt (g := gb517) (o := .cells #[.slice Ao33 t499.length co33, .slice Ao37 t502.length co37] 31 (0, 0)) (aB BK517)) : gb517 ≠ gb526)); have n15_ := zA.mk ((by rw [hg]; exact Nat.ne_of_gt (blk_lt (g := gb517) (o := .cells #[.slice Ao33 t499.length co33, .slice Ao37 t502.length co37] 31 (0, 0)) (aB BK517)) : gb526 ≠ gb517)); have n16_ := zA.mk ((by rw [hg]; exact Nat.ne_of_lt (blk_lt (g := gb518) (o := .cells #[.int .i64 t508, .int .i64 t509, .int .u8 t510, .int .i64 t511, .int .i64 t512, .float .f64 t513] 35 (0, 0)) (aB BK518)) : gb518 ≠ gb526)); have n17_ := zA.mk ((by rw [hg]; exact Nat.ne_of_gt (blk_lt (g := gb518) (o := .cells #[.int .i64 t508, .int .i64 t509, .int .u8 t510, .int .i64 t511, .int .i64 t512, .float .f64 t513] 35 (0, 0)) (aB BK518)) : gb526 ≠ gb518)); clear HO_10; clear HO_11; clear HO_69; clear HO_518000; clear HO_518001; clear BK485; clear BK517; clear BK518; clear HB; have HO_10 := n0_; have HO_11 := n1_; have HO_69 := n2_; have HO_518000 := n3_; have HO_518001 := n4_; have BK485 := n5_; have BK517 := n6_; have BK518 := n7_; have HB := n8_; have BK526 := n9_; have GW526 := n10_; have GE526 := n11_; have NB485_526 := n12_; have NB526_485 := n13_; have NB517_526 := n14_; have NB526_517 := n15_; have NB518_526 := n16_; have NB526_518 := n17_; clear n0_ n1_ n2_ n3_ n4_ n5_ n6_ n7_ n8_ n9_ n10_ n11_ n12_ n13_ n14_ n15_ n16_ n17_; clear hb hbox hg; have hnb58 := NB526_485.out; have hnc58 := NB485_526.out; have hnb59 := NB526_517.out; have hnc59 := NB517_526.out; have hnb60 := NB526_518.out; have hnc60 := NB518_526.out; obtain ⟨hcz61_0, hcz61_1, hcz61_2, hcz61_3, hfz61_0, hfz61_1, hfz61_2, hfz61_3⟩ := aC4 BK526) | ((with_reducible refine gate_store (t := 45) (p := 13) rfl ?_); refine store_event (t := 45) (p := 13) (v := ?vo_w62) (w1 := ((((w57.setCell ⟨gb526, 0, none⟩ (.int .i64 ((rd_T45 t505 x71_3).f0))).setCell ⟨gb526, 1, none⟩ (.int .i64 ((rd_T45 t505 x71_3).f1))).setCell ⟨gb526, 2, none⟩ (.int .i64 ((rd_T45 t505 x71_3).f2))).setCell ⟨gb526, 3, none⟩ (.int .u8 ((rd_T45 t505 x71_3).f3)))) ?hg ?ho ?hn ?hr ?_; (case ho => rfl); (case hg => rfl); (case hn => rfl); (case hr => first | (go_simp; done) | (go_simp; rfl)); intro w62 hw; have n0_ : zA (Kd.S (Kd.slice 5 (Kd.int .u8)) 51 w62 w.heap.size (fun k_ => some k_ ≠ (v523 : Value).ownBlock) v520 t519) := ⟨(by rw [hw]; exact (by (with_reducible repeat (first | apply Kd.S_alloc | apply Kd.S_drewN | apply Kd.S_drew)); exact Kd.S_mono (Kd.S_far (p := ⟨gb526, 3, none⟩) (Kd.S_far (p := ⟨gb526, 2, none⟩) (Kd.S_far (p := ⟨gb526, 1, none⟩) (Kd.S_far (p := ⟨gb526, 0, none⟩) (Kd.S_types HO_10.out BK526.out (by decide)) (fun _ hk => hk.2) (.int .i64 ((rd_T45 t505 x71_3).f0))) (fun _ hk => hk.2) (.int .i64 ((rd_T45 t505 x71_3).f1))) (fun _ hk => hk.2) (.int .i64 ((rd_T45 t505 x71_3).f2))) (fun _ hk => hk.2) (.int .u8 ((rd_T45 t505 x71_3).f3))) (fun _ hk => hk.1)))⟩; have n1_ : zA (Kd.S (Kd.slice 5 (Kd.int .u8)) 51 w62 w.heap.size (fun k_ => some k_ ≠ (v520 : Value).ownBlock) v523 t522) := ⟨(by rw [hw]; exact (by (with_reducible repeat (first | apply Kd.S_alloc | apply Kd.S_drewN | apply Kd.S_drew)); exact Kd.S_mono (Kd.S_far (p := ⟨gb526, 3, none⟩) (Kd.S_far (p := ⟨gb526, 2, none⟩) (Kd.S_far (p := ⟨gb526, 1, none⟩) (Kd.S_far (p := ⟨gb526, 0, none⟩) (Kd.S_types HO_11.out BK526.out (by decide)) (fun _ hk => hk.2) (.int .i64 ((rd_T45 t505 x71_3).f0))) (fun _ hk => hk.2) (.int .i64 ((rd_T45 t505 x71_3).f1))) (fun _ hk => hk.2) (.int .i64 ((rd_T45 t505 x71_3).f2))) (fun _ hk => hk.2) (.int .u8 ((rd_T45 t505 x71_3).f3))) (fun _ hk => hk.1)))⟩; have n2_ : zA (Kd.R k45 45 w62 w.heap.size (fun k_ => k_ ≠ gb526) (.slice (some ad525) t505.length co44) t505) := ⟨(by rw [hw]; exact (by (with_reducible repeat (first | apply Kd.zI | apply Kd.zJ | apply Kd.zK)); exact Kd.zU (Kd.zR (p := ⟨gb526, 3, none⟩) (Kd.zR (p := ⟨gb526, 2, none⟩) (Kd.zR (p := ⟨gb526, 1, none⟩) (Kd.zR (p := ⟨gb526, 0, none⟩) (Kd.zU HO_69.out (fun k_ hk => (⟨hk, hk.2⟩ : _ ∧ k_ ≠ gb526))) (fun _ hk => hk.2) (.int .i64 ((rd_T45 t505 x71_3).f0))) (fun _ hk => hk.2) (.int .i64 ((rd_T45 t505 x71_3).f1))) (fun _ hk => hk.2) (.int .i64 ((rd_T45 t505 x71_3).f2))) (fun _ hk => hk.2) (.int .u8 ((rd_T45 t505 x71_3).f3))) (fun _ hk => hk.1.2)))⟩; have n3_ : zA (Kd.R k61 61 w62 w.heap.size (fun _ => True) (.slice Ao33 t499.length co33) t499) := ⟨(by rw [hw]; exact (by (with_reducible repeat (first | apply Kd.zI | apply Kd.zJ | apply Kd.zK)); exact Kd.zU (Kd.zR (p := ⟨gb526, 3, none⟩) (Kd.zR (p := ⟨gb526, 2, none⟩) (Kd.zR (p := ⟨gb526, 1, none⟩) (Kd.zR (p := ⟨gb526, 0, none⟩) (Kd.zV HO_518000.out BK526.out (by decide)) (fun _ hk => hk.2) (.int .i64 ((rd_T45 t505 x71_3).f0))) (fun _ hk => hk.2) (.int .i64 ((rd_T45 t505 x71_3).f1))) (fun _ hk => hk.2) (.int .i64 ((rd_T45 t505 x71_3).f2))) (fun _ hk => hk.2) (.int .u8 ((rd_T45 t505 x71_3).f3))) (fun _ hk => trivial)))⟩; have n4_ : zA (Kd.R (Kd.int .u8) 43 w62 w.heap.size (fun _ => True) (.slice Ao37 t502.length co37) t502) := ⟨(by rw [hw]; exact (by (with_reducible repeat (first | apply Kd.zI | apply Kd.zJ | apply Kd.zK)); exact Kd.zU (Kd.zR (p := ⟨gb526, 3, none⟩) (Kd.zR (p := ⟨gb526, 2, none⟩) (Kd.zR (p := ⟨gb526, 1, none⟩) (Kd.zR (p := ⟨gb526, 0, none⟩) (Kd.zV HO_518001.out BK526.out (by decide)) (fun _ hk => hk.2) (.int .i64 ((rd_T45 t505 x71_3).f0))) (fun _ hk => hk.2) (.int .i64 ((rd_T45 t505 x71_3).f1))) (fun _ hk => hk.2) (.int .i64 ((rd_T45 t505 x71_3).f2))) (fun _ hk => hk.2) (.int .u8 ((rd_T45 t505 x71_3).f3))) (fun _ hk => trivial)))⟩; have n5_ : zA (w62.heap[gb485]? = some (.cells #[.int .u8 a1_0, .int .u8 a1_1, .int .u8 a1_2, .int .u16 a1_3, .int .u16 a1_4, .float .f64 a1_5] 26 (0, 0))) := ⟨(by rw [hw]; exact (aB BK485))⟩; have n6_ : zA (w62.heap[gb517]? = some (.cells #[.slice Ao33 t499.length co33, .slice Ao37 t502.length co37] 31 (0, 0))) := ⟨(by rw [hw]; exact (aB BK517))⟩; have n7_ : zA (w62.heap[gb518]? = some (.cells #[.int .i64 t508, .int .i64 t509, .int .u8 t510, .int .i64 t511, .int .i64 t512, .float .f64 t513] 35 (0, 0))) := ⟨(by rw [hw]; exact (aB BK518))⟩; have n8_ : zA (w62.heap[gb526]? = some (.cells #[.int .i64 ((rd_T45 t505 x71_3).f0), .int .i64 ((rd_T45 t505 x71_3).f1), .int .i64 ((rd_T45 t505 x71_3).f2), .int .u8 ((rd_T45 t505 x71_3).f3)] 45 (0, 0))) := ⟨(by rw [hw]; exact (by (with_reducible repeat (first | refine zE ?_ _ | refine zD ?_ | refine zF ?_ _)); refine blk_put (cs := #[.int .i64 ((rd_T45 t505 x71_3).f0), .int .i64 ((rd_T45 t505 x71_3).f1), .int .i64 ((rd_T45 t505 x71_3).f2), .int .u8 0]) ?_ 3 _ rfl; (with_reducible repeat (first | refine zE ?_ _ | refine zD ?_ | refine zF ?_ _)); refine blk_put (cs := #[.int .i64 ((rd_T45 t505 x71_3).f0), .int .i64 ((rd_T45 t505 x71_3).f1), .int .i64 0, .int .u8 0]) ?_ 2 _ rfl; (with_reducible repeat (first | refine zE ?_ _ | refine zD ?_ | refine zF ?_ _)); refine blk_put (cs := #[.int .i64 ((rd_T45 t505 x71_3).f0), .int .i64 0, .int .i64 0, .int .u8 0]) ?_ 1 _ rfl; (with_reducible repeat (first | refine zE ?_ _ | refine zD ?_ | refine zF ?_ _)); refine blk_put (cs := #[.int .i64 0, .int .i64 0, .int .i64 0, .int .u8 0]) ?_ 0 _ rfl; (with_reducible repeat (first | refine zE ?_ _ | refine zD ?_ | refine zF ?_ _)); exact BK526.out))⟩; have n9_ : zA (Below w.heap.size w w62) := ⟨(by rw [hw]; exact (aL HB))⟩; clear hw; clear HO_10; clear HO_11; clear HO_69; clear HO_518000; clear HO_518001; clear BK485; clear BK517; clear BK518; clear BK526; clear HB; have HO_10 := n0_; have HO_11 := n1_; have HO_69 := n2_; have HO_518000 := n3_; have HO_518001 := n4_; have BK485 := n5_; have BK517 := n6_; have BK518 := n7_; have BK526 := n8_; have HB := n9_; clear n0_ n1_ n2_ n3_ n4_ n5_ n6_ n7_ n8_ n9_; have hnb63 := NB517_485.out; have hnc63 := NB485_517.out; have hnb64 := NB517_518.out; have hnc64 := NB518_517.out; obtain ⟨hcz65_0, hcz65_1, hfz65_0, hfz65_1⟩ := aC2 BK517; obtain ⟨hcz66_0, hcz66_1, hcz66_2, hcz66_3, hfz66_0, hfz66_1, hfz66_2, hfz66_3⟩ := aC4 BK526) | ((with_reducible refine gate_callee (f := 26) rfl ?_); refine goesL_ (some 81) rfl rfl Try.func26 (by kernel_rfl) rfl #[.agg #[.slice Ao33 t499.length co33, .slice Ao37 t502.length co37], .int .i64 ((rd_T45 t505 x71_3).f0), .int .i64 ((rd_T45 t505 x71_3).f1)] rfl aT ?_; (with_reducible refine (r3_Gaps.calls k3 _ _ t499 _ _ t502 ((rd_T45 t505 x71_3).f0) ((rd_T45 t505 x71_3).f1) t527 _ ?side1 ?side2 ?side3 ?side4 A55.out).mono ?_); (case side1 => exact aF HO_518000); (case side2 => exact (Kd.zP HO_518000.out).2.1); (case side3 => exact aF HO_518001); (case side4 => exact (Kd.zP HO_518001.out).2.1); rintro e w67 ⟨rfl, hb⟩; refine ⟨_, rfl, ?_⟩; have n0_ := zA.mk (Kd.S_below (aS HO_10) hb); have n1_ := zA.mk (Kd.S_below (aS HO_11) hb); have n2_ := zA.mk (Kd.zQ (aR HO_69) hb); have n3_ := zA.mk (Kd.zQ (aR HO_518000) hb); have n4_ := zA.mk (Kd.zQ (aR HO_518001) hb); have n5_ := zA.mk (zB (g := gb485) (o := .cells #[.int .u8 a1_0, .int .u8 a1_1, .int .u8 a1_2, .int .u16 a1_3, .int .u16 a1_4, .float .f64 a1_5] 26 (0, 0)) (aB BK485) hb); have n6_ := zA.mk (zB (g := gb517) (o := .cells #[.slice Ao33 t499.length co33, .slice Ao37 t502.length co37] 31 (0, 0)) (aB BK517) hb); have n7_ := zA.mk (zB (g := gb518) (o := .cells #[.int .i64 t508, .int .i64 t509, .int .u8 t510, .int .i64 t511, .int .i64 t512, .float .f64 t513] 35 (0, 0)) (aB BK518) hb); have n8_ := zA.mk (zB (g := gb526) (o := .cells #[.int .i64 ((rd_T45 t505 x71_3).f0), .int .i64 ((rd_T45 t505 x71_3).f1), .int .i64 ((rd_T45 t505 x71_3).f2), .int .u8 ((rd_T45 t505 x71_3).f3)] 45 (0, 0)) (aB BK526) hb); have n9_ := zA.mk (zH (aL HB) hb); clear HO_10; clear HO_11; clear HO_69; clear HO_518000; clear HO_518001; clear BK485; clear BK517; clear BK518; clear BK526; clear HB; have HO_10 := n0_; have HO_11 := n1_; have HO_69 := n2_; have HO_518000 := n3_; have HO_518001 := n4_; have BK485 := n5_; have BK517 := n6_; have BK518 := n7_; have BK526 := n8_; have HB := n9_; clear n0_ n1_ n2_ n3_ n4_ n5_ n6_ n7_ n8_ n9_; (try clear hb); (try clear hb2); (try clear hk); (try clear hi); obtain ⟨hcz68_0, hcz68_1, hcz68_2, hcz68_3, hfz68_0, hfz68_1, hfz68_2, hfz68_3⟩ := aC4 BK526))
    (try simp only [Act.put, sA_, sB_, sC_])
    go_cut [102] (fun v102 wc => ∃ (kq : Nat) (x102_55 : Bool), v102 = .bool x102_55 ∧ zA (stanzalaw22_DrawCells.j3 kq t519 t522 x71_3 ((rd_T45 t505 x71_3).f2) t505 (t505.length : Int) x71_3 x102_55 t499 t502 t508 t509 t510 t511 t512 t513 ((rd_T45 t505 x71_3).f0) ((rd_T45 t505 x71_3).f1) ((rd_T45 t505 x71_3).f2) ((rd_T45 t505 x71_3).f3) = some r) ∧ zA (kq ≤ k3) ∧ zA (Kd.S (Kd.slice 5 (Kd.int .u8)) 51 wc w.heap.size (fun k_ => some k_ ≠ (v523 : Value).ownBlock) v520 t519) ∧ zA (Kd.S (Kd.slice 5 (Kd.int .u8)) 51 wc w.heap.size (fun k_ => some k_ ≠ (v520 : Value).ownBlock) v523 t522) ∧ zA (Kd.R k45 45 wc w.heap.size (fun k_ => k_ ≠ gb526) (.slice (some ad525) t505.length co44) t505) ∧ zA (Kd.R k61 61 wc w.heap.size (fun _ => True) (.slice Ao33 t499.length co33) t499) ∧ zA (Kd.R (Kd.int .u8) 43 wc w.heap.size (fun _ => True) (.slice Ao37 t502.length co37) t502) ∧ zA (wc.heap[gb485]? = some (.cells #[.int .u8 a1_0, .int .u8 a1_1, .int .u8 a1_2, .int .u16 a1_3, .int .u16 a1_4, .float .f64 a1_5] 26 (0, 0))) ∧ zA (wc.heap[gb517]? = some (.cells #[(.slice Ao33 t499.length co33), (.slice Ao37 t502.length co37)] 31 (0, 0))) ∧ zA (wc.heap[gb518]? = some (.cells #[.int .i64 t508, .int .i64 t509, .int .u8 t510, .int .i64 t511, .int .i64 t512, .float .f64 t513] 35 (0, 0))) ∧ zA (wc.heap[gb526]? = some (.cells #[.int .i64 ((rd_T45 t505 x71_3).f0), .int .i64 ((rd_T45 t505 x71_3).f1), .int .i64 ((rd_T45 t505 x71_3).f2), .int .u8 ((rd_T45 t505 x71_3).f3)] 45 (0, 0))) ∧ zA (Below w.heap.size w wc))
    case first =>
     have H := HC56.out; clear HC56; by_cases c69 : ((rd_T45 t505 x71_3).f3) = 2
     ·rw [if_pos c69] at H
      have c69b0 : (((rd_T45 t505 x71_3).f3) == 2) = true := beq_iff_eq.mpr c69
      have c69b1 : (((rd_T45 t505 x71_3).f3) != 2) = false := bne_eq_false_iff_eq.mpr c69
      clear c69; (first | rw [c69b0] | (simp only [i64_w, i32_w]; rw [c69b0]) | skip)
      have H' := zA.mk H
      clear H; have hnb70 := NB526_485.out; have hnc70 := NB485_526.out; have hnb71 := NB526_517.out; have hnc71 := NB517_526.out; have hnb72 := NB526_518.out; have hnc72 := NB518_526.out; obtain ⟨hcz73_0, hcz73_1, hcz73_2, hcz73_3, hfz73_0, hfz73_1, hfz73_2, hfz73_3⟩ := aC4 BK526; go_wp2
      go_meet
      case rel => exact ⟨_, (false), aZ, H', ⟨by have := HK1.out; have := HJ27.out; have := HK3.out; first | omega | exact Nat.le_refl _⟩, ⟨by (try simp only [hl0_1]); (with_reducible repeat (first | apply Kd.S_alloc | apply Kd.S_drewN | apply Kd.S_drew)); exact HO_10.out⟩, ⟨by (try simp only [hl0_1]); (with_reducible repeat (first | apply Kd.S_alloc | apply Kd.S_drewN | apply Kd.S_drew)); exact HO_11.out⟩, ⟨by (try simp only [hl0_1]); (with_reducible repeat (first | apply Kd.zI | apply Kd.zJ | apply Kd.zK)); exact HO_69.out⟩, ⟨by (try simp only [hl0_1]); (with_reducible repeat (first | apply Kd.zI | apply Kd.zJ | apply Kd.zK)); exact HO_518000.out⟩, ⟨by (try simp only [hl0_1]); (with_reducible repeat (first | apply Kd.zI | apply Kd.zJ | apply Kd.zK)); exact HO_518001.out⟩, ⟨by (try simp only [hl0_1]); (with_reducible repeat (first | refine zE ?_ _ | refine zD ?_ | refine zF ?_ _)); exact BK485.out⟩, ⟨by (try simp only [hl0_1]); (with_reducible repeat (first | refine zE ?_ _ | refine zD ?_ | refine zF ?_ _)); exact BK517.out⟩, ⟨by (try simp only [hl0_1]); (with_reducible repeat (first | refine zE ?_ _ | refine zD ?_ | refine zF ?_ _)); exact BK518.out⟩, ⟨by (try simp only [hl0_1]); (with_reducible repeat (first | refine zE ?_ _ | refine zD ?_ | refine zF ?_ _)); exact BK526.out⟩, ⟨aL HB⟩⟩
     rw [if_neg c69] at H; have c69b0 : (((rd_T45 t505 x71_3).f3) == 2) = false := beq_eq_false_iff_ne.mpr c69
     have c69b1 : (((rd_T45 t505 x71_3).f3) != 2) = true := bne_iff_ne.mpr c69
     (first | rw [c69b0] | (simp only [i64_w, i32_w]; rw [c69b0]) | skip)
     by_cases c74 : ((rd_T45 t505 x71_3).f3) = 4
     ·rw [if_pos c74] at H
      have c74b0 : (((rd_T45 t505 x71_3).f3) == 4) = true := beq_iff_eq.mpr c74
      have c74b1 : (((rd_T45 t505 x71_3).f3) != 4) = false := bne_eq_false_iff_eq.mpr c74
      clear c74; have H' := zA.mk H
      clear H; have hnb75 := NB526_485.out; have hnc75 := NB485_526.out; have hnb76 := NB526_517.out; have hnc76 := NB517_526.out; have hnb77 := NB526_518.out; have hnc77 := NB518_526.out; obtain ⟨hcz78_0, hcz78_1, hcz78_2, hcz78_3, hfz78_0, hfz78_1, hfz78_2, hfz78_3⟩ := aC4 BK526; go_wp2
      go_meet
      case rel => exact ⟨_, (false), aZ, H', ⟨by have := HK1.out; have := HJ27.out; have := HK3.out; first | omega | exact Nat.le_refl _⟩, ⟨by (try simp only [hl0_1]); (with_reducible repeat (first | apply Kd.S_alloc | apply Kd.S_drewN | apply Kd.S_drew)); exact HO_10.out⟩, ⟨by (try simp only [hl0_1]); (with_reducible repeat (first | apply Kd.S_alloc | apply Kd.S_drewN | apply Kd.S_drew)); exact HO_11.out⟩, ⟨by (try simp only [hl0_1]); (with_reducible repeat (first | apply Kd.zI | apply Kd.zJ | apply Kd.zK)); exact HO_69.out⟩, ⟨by (try simp only [hl0_1]); (with_reducible repeat (first | apply Kd.zI | apply Kd.zJ | apply Kd.zK)); exact HO_518000.out⟩, ⟨by (try simp only [hl0_1]); (with_reducible repeat (first | apply Kd.zI | apply Kd.zJ | apply Kd.zK)); exact HO_518001.out⟩, ⟨by (try simp only [hl0_1]); (with_reducible repeat (first | refine zE ?_ _ | refine zD ?_ | refine zF ?_ _)); exact BK485.out⟩, ⟨by (try simp only [hl0_1]); (with_reducible repeat (first | refine zE ?_ _ | refine zD ?_ | refine zF ?_ _)); exact BK517.out⟩, ⟨by (try simp only [hl0_1]); (with_reducible repeat (first | refine zE ?_ _ | refine zD ?_ | refine zF ?_ _)); exact BK518.out⟩, ⟨by (try simp only [hl0_1]); (with_reducible repeat (first | refine zE ?_ _ | refine zD ?_ | refine zF ?_ _)); exact BK526.out⟩, ⟨aL HB⟩⟩
     rw [if_neg c74] at H; have c74b0 : (((rd_T45 t505 x71_3).f3) == 4) = false := beq_eq_false_iff_ne.mpr c74
     have c74b1 : (((rd_T45 t505 x71_3).f3) != 4) = true := bne_iff_ne.mpr c74
     by_cases c79 : t527 > 0
     rotate_left
     ·rw [if_neg c79] at H
      have c79b0 : decide (0 < t527) = false := decide_eq_false c79
      clear c79; have H' := zA.mk H
      clear H; have hnb87 := NB526_485.out; have hnc87 := NB485_526.out; have hnb88 := NB526_517.out; have hnc88 := NB517_526.out; have hnb89 := NB526_518.out; have hnc89 := NB518_526.out; obtain ⟨hcz90_0, hcz90_1, hcz90_2, hcz90_3, hfz90_0, hfz90_1, hfz90_2, hfz90_3⟩ := aC4 BK526; go_wp2
      go_meet
      case rel => exact ⟨_, (false), aZ, H', ⟨by have := HK1.out; have := HJ27.out; have := HK3.out; first | omega | exact Nat.le_refl _⟩, ⟨by (try simp only [hl0_1]); (with_reducible repeat (first | apply Kd.S_alloc | apply Kd.S_drewN | apply Kd.S_drew)); exact HO_10.out⟩, ⟨by (try simp only [hl0_1]); (with_reducible repeat (first | apply Kd.S_alloc | apply Kd.S_drewN | apply Kd.S_drew)); exact HO_11.out⟩, ⟨by (try simp only [hl0_1]); (with_reducible repeat (first | apply Kd.zI | apply Kd.zJ | apply Kd.zK)); exact HO_69.out⟩, ⟨by (try simp only [hl0_1]); (with_reducible repeat (first | apply Kd.zI | apply Kd.zJ | apply Kd.zK)); exact HO_518000.out⟩, ⟨by (try simp only [hl0_1]); (with_reducible repeat (first | apply Kd.zI | apply Kd.zJ | apply Kd.zK)); exact HO_518001.out⟩, ⟨by (try simp only [hl0_1]); (with_reducible repeat (first | refine zE ?_ _ | refine zD ?_ | refine zF ?_ _)); exact BK485.out⟩, ⟨by (try simp only [hl0_1]); (with_reducible repeat (first | refine zE ?_ _ | refine zD ?_ | refine zF ?_ _)); exact BK517.out⟩, ⟨by (try simp only [hl0_1]); (with_reducible repeat (first | refine zE ?_ _ | refine zD ?_ | refine zF ?_ _)); exact BK518.out⟩, ⟨by (try simp only [hl0_1]); (with_reducible repeat (first | refine zE ?_ _ | refine zD ?_ | refine zF ?_ _)); exact BK526.out⟩, ⟨aL HB⟩⟩
     rw [if_pos c79] at H; have c79b0 : decide (0 < t527) = true := decide_eq_true c79
     clear c79; have H' := zA.mk H
     clear H; have hnb80 := NB526_485.out; have hnc80 := NB485_526.out; have hnb81 := NB526_517.out; have hnc81 := NB517_526.out; have hnb82 := NB526_518.out; have hnc82 := NB518_526.out; obtain ⟨hcz83_0, hcz83_1, hcz83_2, hcz83_3, hfz83_0, hfz83_1, hfz83_2, hfz83_3⟩ := aC4 BK526; have hnb84 := NB518_485.out; have hnc84 := NB485_518.out; have hnb85 := NB518_517.out; have hnc85 := NB517_518.out; obtain ⟨hcz86_0, hcz86_1, hcz86_2, hcz86_3, hcz86_4, hcz86_5, hfz86_0, hfz86_1, hfz86_2, hfz86_3, hfz86_4, hfz86_5⟩ := aC6 BK518; go_wp2
     go_meet
     case rel => exact ⟨_, (decide (((rd_T45 t505 x71_3).f2) ≤ t508)), aZ, H', ⟨by have := HK1.out; have := HJ27.out; have := HK3.out; first | omega | exact Nat.le_refl _⟩, ⟨by (try simp only [hl0_1]); (with_reducible repeat (first | apply Kd.S_alloc | apply Kd.S_drewN | apply Kd.S_drew)); exact HO_10.out⟩, ⟨by (try simp only [hl0_1]); (with_reducible repeat (first | apply Kd.S_alloc | apply Kd.S_drewN | apply Kd.S_drew)); exact HO_11.out⟩, ⟨by (try simp only [hl0_1]); (with_reducible repeat (first | apply Kd.zI | apply Kd.zJ | apply Kd.zK)); exact HO_69.out⟩, ⟨by (try simp only [hl0_1]); (with_reducible repeat (first | apply Kd.zI | apply Kd.zJ | apply Kd.zK)); exact HO_518000.out⟩, ⟨by (try simp only [hl0_1]); (with_reducible repeat (first | apply Kd.zI | apply Kd.zJ | apply Kd.zK)); exact HO_518001.out⟩, ⟨by (try simp only [hl0_1]); (with_reducible repeat (first | refine zE ?_ _ | refine zD ?_ | refine zF ?_ _)); exact BK485.out⟩, ⟨by (try simp only [hl0_1]); (with_reducible repeat (first | refine zE ?_ _ | refine zD ?_ | refine zF ?_ _)); exact BK517.out⟩, ⟨by (try simp only [hl0_1]); (with_reducible repeat (first | refine zE ?_ _ | refine zD ?_ | refine zF ?_ _)); exact BK518.out⟩, ⟨by (try simp only [hl0_1]); (with_reducible repeat (first | refine zE ?_ _ | refine zD ?_ | refine zF ?_ _)); exact BK526.out⟩, ⟨aL HB⟩⟩
    clear HC56; try clear c1
    try clear p1
    try clear q1
    try clear hx1
    try clear c2
    try clear p2
    try clear q2
    try clear hx2
    try clear hf2
    try clear c3
    try clear c4
    try clear c5
    try clear p5
    try clear q5
    try clear hx5
    try clear c6
    try clear c6b0
    try clear c6b1
    try clear p6
    try clear c7
    try clear c7b0
    try clear c7b1
    try clear c8
    try clear c9
    try clear q13
    try clear c16
    try clear c16b0
    try clear c17
    try clear c17b0
    try clear c18
    try clear c18b0
    try clear c19
    try clear p19
    try clear q19
    try clear hx19
    try clear hf19
    try clear c20
    try clear p20
    try clear q20
    try clear hx20
    try clear hf20
    try clear c21
    try clear hx21
    try clear hf21
    try clear c22
    try clear c23
    try clear hx23
    try clear hf23
    try clear c26
    try clear c34
    try clear c35
    try clear c39
    try clear c47
    try clear c47b0
    try clear c47b1
    try clear c47b2
    try clear c51
    try clear c52
    try clear c52b0
    try clear p52
    try clear q52
    try clear hx52
    try clear c53
    try clear c53b0
    try clear c54
    try clear c54b0
    try clear c58
    try clear c59
    try clear c60
    try clear c63
    try clear c64
    try clear c69
    try clear c69b0
    try clear c69b1
    try clear c70
    try clear c71
    try clear c72
    try clear c74
    try clear c74b0
    try clear c74b1
    try clear c75
    try clear c76
    try clear c77
    try clear c79
    try clear c79b0
    try clear c80
    try clear c81
    try clear c82
    try clear c84
    try clear c85
    try clear c87
    try clear c88
    try clear c89
    try clear hcz29_0
    try clear hcz29_1
    try clear hcz29_2
    try clear hcz29_3
    try clear hcz29_4
    try clear hcz29_5
    try clear hcz36_0
    try clear hcz36_1
    try clear hcz40_0
    try clear hcz40_1
    try clear hcz40_2
    try clear hcz40_3
    try clear hcz40_4
    try clear hcz40_5
    try clear hcz61_0
    try clear hcz61_1
    try clear hcz61_2
    try clear hcz61_3
    try clear hcz65_0
    try clear hcz65_1
    try clear hcz66_0
    try clear hcz66_1
    try clear hcz66_2
    try clear hcz66_3
    try clear hcz68_0
    try clear hcz68_1
    try clear hcz68_2
    try clear hcz68_3
    try clear hcz73_0
    try clear hcz73_1
    try clear hcz73_2
    try clear hcz73_3
    try clear hcz78_0
    try clear hcz78_1
    try clear hcz78_2
    try clear hcz78_3
    try clear hcz83_0
    try clear hcz83_1
    try clear hcz83_2
    try clear hcz83_3
    try clear hcz86_0
    try clear hcz86_1
    try clear hcz86_2
    try clear hcz86_3
    try clear hcz86_4
    try clear hcz86_5
    try clear hcz90_0
    try clear hcz90_1
    try clear hcz90_2
    try clear hcz90_3
    try clear hfz29_0
    try clear hfz29_1
    try clear hfz29_2
    try clear hfz29_3
    try clear hfz29_4
    try clear hfz29_5
    try clear hfz36_0
    try clear hfz36_1
    try clear hfz40_0
    try clear hfz40_1
    try clear hfz40_2
    try clear hfz40_3
    try clear hfz40_4
    try clear hfz40_5
    try clear hfz61_0
    try clear hfz61_1
    try clear hfz61_2
    try clear hfz61_3
    try clear hfz65_0
    try clear hfz65_1
    try clear hfz66_0
    try clear hfz66_1
    try clear hfz66_2
    try clear hfz66_3
    try clear hfz68_0
    try clear hfz68_1
    try clear hfz68_2
    try clear hfz68_3
    try clear hfz73_0
    try clear hfz73_1
    try clear hfz73_2
    try clear hfz73_3
    try clear hfz78_0
    try clear hfz78_1
    try clear hfz78_2
    try clear hfz78_3
    try clear hfz83_0
    try clear hfz83_1
    try clear hfz83_2
    try clear hfz83_3
    try clear hfz86_0
    try clear hfz86_1
    try clear hfz86_2
    try clear hfz86_3
    try clear hfz86_4
    try clear hfz86_5
    try clear hfz90_0
    try clear hfz90_1
    try clear hfz90_2
    try clear hfz90_3
    try clear hx19_0
    try clear hx19_1
    try clear hx19_2
    try clear hx19_3
    try clear hx20_0
    try clear hx20_1
    try clear hx20_2
    try clear hx20_3
    try clear hx21_2
    try clear hx23_0
    try clear hx525_0
    try clear hx525_1
    try clear hx525_2
    try clear hx525_3
    try clear p1
    try clear p19
    try clear p2
    try clear p20
    try clear p525
    try clear p6
    try clear q1
    try clear q13
    try clear q19
    try clear q2
    try clear q20
    try clear q525
    obtain ⟨kq, x102_55, rfl, HA, HJ55, HO_10, HO_11, HO_69, HO_518000, HO_518001, BK485, BK517, BK518, BK526, HB⟩ := hcut; cases kq with
    | zero => exact absurd HA.out (by simp [stanzalaw22_DrawCells.j3])
    | succ kj55 =>
     have H := HA.out; clear HA; simp only [stanzalaw22_DrawCells.j3] at H; by_cases c91 : x102_55 = true
     rotate_left
     ·replace c91 := Bool.eq_false_iff.mpr c91
      subst c91; have H1 : (if 0 ≤ x71_3 then (if x71_3 < (t519.length : Int) then (if ((rd_L5 t519 x71_3).length : Int) = ((rd_T45 t505 x71_3).f2) then (if x71_3 < (t522.length : Int) then (if ((rd_L5 t522 x71_3).length : Int) = ((rd_T45 t505 x71_3).f2) then (stanzalaw22_DrawCells.l1 kj55 t519 t522 t505 (t505.length : Int) (wrap64 (x71_3 + 1)) t499 t502 t508 t509 t510 t511 t512 t513) else (some false)) else (none)) else (some false)) else (none)) else (none)) = some r := by rw [if_neg (show ¬ (false = true) by decide)] at H; exact H
      clear H; have H := H1; clear H1; by_cases c104 : 0 ≤ x71_3
      rotate_left
      ·rw [if_neg c104] at H
       exact absurd H (by simp)
      rw [if_pos c104] at H; have c104b0 : decide (0 ≤ x71_3) = true := decide_eq_true c104
      clear c104; by_cases c105 : x71_3 < (t519.length : Int)
      rotate_left
      ·rw [if_neg c105] at H
       exact absurd H (by simp)
      rw [if_pos c105] at H; have c105b0 : decide (x71_3 < (t519.length : Int)) = true := decide_eq_true c105
      (try simp only [hl0_1] at c105b0)
      clear c105; by_cases c106 : ((rd_L5 t519 x71_3).length : Int) = ((rd_T45 t505 x71_3).f2)
      rotate_left
      ·rw [if_neg c106] at H
       have c106b0 : (((rd_L5 t519 x71_3).length : Int) == ((rd_T45 t505 x71_3).f2)) = false := beq_eq_false_iff_ne.mpr c106
       have c106b1 : (((rd_L5 t519 x71_3).length : Int) != ((rd_T45 t505 x71_3).f2)) = true := bne_iff_ne.mpr c106
       (try simp only [hl0_1] at c106b0)
       (try simp only [hl0_1] at c106b1)
       exact absurd ((Option.some.inj H).trans hrt_.out) (by decide)
      rw [if_pos c106] at H; have c106b0 : (((rd_L5 t519 x71_3).length : Int) == ((rd_T45 t505 x71_3).f2)) = true := beq_iff_eq.mpr c106
      have c106b1 : (((rd_L5 t519 x71_3).length : Int) != ((rd_T45 t505 x71_3).f2)) = false := bne_eq_false_iff_eq.mpr c106
      (try simp only [hl0_1] at c106b0)
      (try simp only [hl0_1] at c106b1)
      clear c106; by_cases c107 : x71_3 < (t522.length : Int)
      rotate_left
      ·rw [if_neg c107] at H
       exact absurd H (by simp)
      rw [if_pos c107] at H; have c107b0 : decide (x71_3 < (t522.length : Int)) = true := decide_eq_true c107
      (try simp only [hl0_1] at c107b0)
      clear c107; by_cases c108 : ((rd_L5 t522 x71_3).length : Int) = ((rd_T45 t505 x71_3).f2)
      rotate_left
      ·rw [if_neg c108] at H
       have c108b0 : (((rd_L5 t522 x71_3).length : Int) == ((rd_T45 t505 x71_3).f2)) = false := beq_eq_false_iff_ne.mpr c108
       have c108b1 : (((rd_L5 t522 x71_3).length : Int) != ((rd_T45 t505 x71_3).f2)) = true := bne_iff_ne.mpr c108
       (try simp only [hl0_1] at c108b0)
       (try simp only [hl0_1] at c108b1)
       exact absurd ((Option.some.inj H).trans hrt_.out) (by decide)
      rw [if_pos c108] at H; have c108b0 : (((rd_L5 t522 x71_3).length : Int) == ((rd_T45 t505 x71_3).f2)) = true := beq_iff_eq.mpr c108
      have c108b1 : (((rd_L5 t522 x71_3).length : Int) != ((rd_T45 t505 x71_3).f2)) = false := bne_eq_false_iff_eq.mpr c108
      (try simp only [hl0_1] at c108b0)
      (try simp only [hl0_1] at c108b1)
      clear c108; have H' := zA.mk H
      clear H; try go_wp2
      have n0_ := zA.mk (Kd.S_drew HO_10.out); have n1_ := zA.mk (Kd.S_drew HO_11.out); have n2_ := zA.mk (Kd.zK HO_69.out); have n3_ := zA.mk (Kd.zK HO_518000.out); have n4_ := zA.mk (Kd.zK HO_518001.out); have n5_ := zA.mk (zD BK485.out); have n6_ := zA.mk (zD BK517.out); have n7_ := zA.mk (zD BK518.out); have n8_ := zA.mk (zD BK526.out); have n9_ := zA.mk (below_drew1 HB.out); clear HO_10; clear HO_11; clear HO_69; clear HO_518000; clear HO_518001; clear BK485; clear BK517; clear BK518; clear BK526; clear HB; have HO_10 := n0_; have HO_11 := n1_; have HO_69 := n2_; have HO_518000 := n3_; have HO_518001 := n4_; have BK485 := n5_; have BK517 := n6_; have BK518 := n7_; have BK526 := n8_; have HB := n9_; clear n0_ n1_ n2_ n3_ n4_ n5_ n6_ n7_ n8_ n9_; obtain ⟨Ao110, co110, eo110⟩ := Kd.S_slice HO_10.out; (first | subst eo110 | (injection eo110 with f1_ f2_ f3_; have f4_ := f1_.symm; have f5_ := f3_.symm; clear f1_ f2_ f3_; subst f4_; subst f5_))
      have p530 : 0 ≤ (x71_3 : Int) := aD
      have q530 : x71_3 < (t519.length : Int) := aD
      obtain ⟨ad530, A530_0, c530_0, e530, hx530_0, hl530_0, hi530_0⟩ := at_L5 (Kd.S_reads' HO_10.out).2.2 x71_3 p530 q530; cases e530
      obtain ⟨ce530, hce530, hMe530, hcc530⟩ := Kd.S_get HO_10.out [] x71_3 p530 (by first | exact q530 | exact aD | (have e_ := (Kd.S_reads' HO_10.out).1; omega))
      obtain ⟨ve530_0, rfl, ge530_0⟩ := hMe530; have hv530_0 := hcc530 0 _ rfl; rw [Nat.add_zero, show ((Kd.slice 5 (Kd.int .u8))).sz = 1 from rfl, Nat.mul_one] at hv530_0; replace hv530_0 := Option.some.inj (hv530_0.symm.trans hx530_0); rw [hv530_0] at ge530_0; have HL530_0 := zA.mk (show Kd.R (Kd.int .u8) 5 _ _ _ _ (rd_L5 t519 x71_3) from ge530_0); clear hv530_0 ge530_0; clear hcc530 hce530; have HR530_0 := zA.mk hi530_0; have HC530_0 := zA.mk hl530_0; clear hi530_0 hl530_0; replace p530 := eq_true p530; replace q530 := eq_true q530; obtain ⟨Ao111, co111, eo111⟩ := Kd.S_slice HO_11.out; (first | subst eo111 | (injection eo111 with f1_ f2_ f3_; have f4_ := f1_.symm; have f5_ := f3_.symm; clear f1_ f2_ f3_; subst f4_; subst f5_))
      have p531 : 0 ≤ (x71_3 : Int) := aD
      have q531 : x71_3 < (t522.length : Int) := aD
      obtain ⟨ad531, A531_0, c531_0, e531, hx531_0, hl531_0, hi531_0⟩ := at_L5 (Kd.S_reads' HO_11.out).2.2 x71_3 p531 q531; cases e531
      obtain ⟨ce531, hce531, hMe531, hcc531⟩ := Kd.S_get HO_11.out [] x71_3 p531 (by first | exact q531 | exact aD | (have e_ := (Kd.S_reads' HO_11.out).1; omega))
      obtain ⟨ve531_0, rfl, ge531_0⟩ := hMe531; have hv531_0 := hcc531 0 _ rfl; rw [Nat.add_zero, show ((Kd.slice 5 (Kd.int .u8))).sz = 1 from rfl, Nat.mul_one] at hv531_0; replace hv531_0 := Option.some.inj (hv531_0.symm.trans hx531_0); rw [hv531_0] at ge531_0; have HL531_0 := zA.mk (show Kd.R (Kd.int .u8) 5 _ _ _ _ (rd_L5 t522 x71_3) from ge531_0); clear hv531_0 ge531_0; clear hcc531 hce531; have HR531_0 := zA.mk hi531_0; have HC531_0 := zA.mk hl531_0; clear hi531_0 hl531_0; replace p531 := eq_true p531; replace q531 := eq_true q531; refine start_ (n := 17) (S := fun w' => w'.cell? ⟨gb526, 0, none⟩ = some (.int .i64 ((rd_T45 t505 x71_3).f0)) ∧ w'.cell? ⟨gb526, 1, none⟩ = some (.int .i64 ((rd_T45 t505 x71_3).f1)) ∧ w'.cell? ⟨gb526, 2, none⟩ = some (.int .i64 ((rd_T45 t505 x71_3).f2)) ∧ w'.cell? ⟨gb526, 3, none⟩ = some (.int .u8 ((rd_T45 t505 x71_3).f3)) ∧ w'.cell? (ad530.add (x71_3).toNat) = some (.slice A530_0 (rd_L5 t519 x71_3).length c530_0) ∧ w'.cell? (ad531.add (x71_3).toNat) = some (.slice A531_0 (rd_L5 t522 x71_3).length c531_0)) (ds := []) #[false, false, false, false, false, false, false, false, false, false, false, false, false, false, false, false, false] (by kernel_rfl) rfl rfl ⟨(zC BK526.out 0).trans rfl, (zC BK526.out 1).trans rfl, (zC BK526.out 2).trans rfl, (zC BK526.out 3).trans rfl, hx530_0, hx531_0⟩ (fun hHeld => ?_); refine with_tabW stanzalaw22_DrawCells.tab21 stanzalaw22_DrawCells.bits21 (fun HT_ HW_ => ?_)
      generalize wc.drew = w109 at HO_10 HO_11 HO_69 HO_518000 HO_518001 BK485 BK517 BK518 BK526 HB HL530_0 HL531_0 HR530_0 HR531_0 hx530_0 hx531_0 hHeld ⊢
      refine aP 0 (some 105) (tf_ 1 17) HT_ ?_
      refine aP 1 (some 106) (tf_ 2 17) HT_ ?_
      refine aP 2 (some 107) (tf_ 3 17) HT_ ?_
      refine aP 5 (some 110) #[true, true, true, false, false, true, false, false, false, false, false, false, false, false, false, false, false] HT_ ?_
      refine take_ (i := 3) (N := some 108) (v := ?_) (a' := ?_) #[true, true, true, true, false, true, false, false, false, false, false, false, false, false, false, false, false] rfl rfl (take_ofW HT_.out HW_.out (by kernel_rfl)) (fun _ _ _ h => h) (Or.inl ⟨by rfl, ?_⟩) hHeld ?_ ?_
      rotate_left
      ·rintro w' ⟨s0, s1, s2, s3, s4, s5⟩
       go_simp
       with_reducible rfl
      rotate_left
      ·simp only [Act.put, sA_, sB_, sC_, i64_w, i32_w]
       rfl
      refine aP 4 (some 109) (tf_ 6 17) HT_ ?_
      refine take_ (i := 6) (N := some 111) (v := ?_) (a' := ?_) (tf_ 7 17) rfl rfl (take_ofW HT_.out HW_.out (by kernel_rfl)) (fun _ _ _ h => h) (Or.inl ⟨by rfl, ?_⟩) hHeld ?_ ?_
      rotate_left
      ·rintro w' ⟨s0, s1, s2, s3, s4, s5⟩
       go_simp
       with_reducible rfl
      rotate_left
      ·simp only [Act.put, sA_, sB_, sC_, i64_w, i32_w]
       rfl
      refine aP 7 (some 112) (tf_ 8 17) HT_ ?_
      refine aP 8 (some 113) (tf_ 9 17) HT_ ?_
      refine aP 9 (some 114) (tf_ 10 17) HT_ ?_
      refine aP 10 (some 115) (tf_ 11 17) HT_ ?_
      refine aP 11 (some 116) (tf_ 12 17) HT_ ?_
      refine aP 14 (some 119) #[true, true, true, true, true, true, true, true, true, true, true, true, false, false, true, false, false] HT_ ?_
      refine take_ (i := 12) (N := some 117) (v := ?_) (a' := ?_) #[true, true, true, true, true, true, true, true, true, true, true, true, true, false, true, false, false] rfl rfl (take_ofW HT_.out HW_.out (by kernel_rfl)) (fun _ _ _ h => h) (Or.inl ⟨by rfl, ?_⟩) hHeld ?_ ?_
      rotate_left
      ·rintro w' ⟨s0, s1, s2, s3, s4, s5⟩
       go_simp
       with_reducible rfl
      rotate_left
      ·simp only [Act.put, sA_, sB_, sC_, i64_w, i32_w]
       rfl
      refine aP 13 (some 118) (tf_ 15 17) HT_ ?_
      refine aP 15 (some 120) (tf_ 16 17) HT_ ?_
      refine aP 16 (some 121) #[true, true, true, true, true, true, true, true, true, true, true, true, true, true, true, true, true] HT_ ?_
      refine done_ (done_of HT_.out (by kernel_rfl)) ?_
      try go_wp2
      go_roundg kj55
      case measure => have := HK1.out; have := HJ27.out; have := HK3.out; have := HJ55.out; omega
      case rel => exact ⟨(wrap64 (x71_3 + 1)), aZ, H', ⟨by have := HK1.out; have := HJ27.out; have := HK3.out; have := HJ55.out; omega⟩, ⟨by (try simp only [hl0_1]); (with_reducible repeat (first | apply Kd.S_alloc | apply Kd.S_drewN | apply Kd.S_drew)); exact HO_10.out⟩, ⟨by (try simp only [hl0_1]); (with_reducible repeat (first | apply Kd.S_alloc | apply Kd.S_drewN | apply Kd.S_drew)); exact HO_11.out⟩, ⟨by (try simp only [hl0_1]); (with_reducible repeat (first | apply Kd.zI | apply Kd.zJ | apply Kd.zK)); exact Kd.zU HO_69.out (fun _ hk => trivial)⟩, ⟨by (try simp only [hl0_1]); (with_reducible repeat (first | apply Kd.zI | apply Kd.zJ | apply Kd.zK)); exact HO_518000.out⟩, ⟨by (try simp only [hl0_1]); (with_reducible repeat (first | apply Kd.zI | apply Kd.zJ | apply Kd.zK)); exact HO_518001.out⟩, ⟨by (try simp only [hl0_1]); (with_reducible repeat (first | refine zE ?_ _ | refine zD ?_ | refine zF ?_ _)); exact BK485.out⟩, ⟨by (try simp only [hl0_1]); (with_reducible repeat (first | refine zE ?_ _ | refine zD ?_ | refine zF ?_ _)); exact BK517.out⟩, ⟨by (try simp only [hl0_1]); (with_reducible repeat (first | refine zE ?_ _ | refine zD ?_ | refine zF ?_ _)); exact BK518.out⟩, ⟨aL HB⟩⟩
     subst c91; have H1 : (if 0 ≤ x71_3 then (if x71_3 < (t519.length : Int) then (if ((rd_L5 t519 x71_3).length : Int) = ((rd_T45 t505 x71_3).f2) then (if x71_3 < (t522.length : Int) then (if ((rd_L5 t522 x71_3).length : Int) = t508 then (stanzalaw22_DrawCells.l1 kj55 t519 t522 t505 (t505.length : Int) (wrap64 (x71_3 + 1)) t499 t502 t508 t509 t510 t511 t512 t513) else (some false)) else (none)) else (some false)) else (none)) else (none)) = some r := by rw [if_pos rfl] at H; exact H
     clear H; have H := H1; clear H1; by_cases c92 : 0 ≤ x71_3
     rotate_left
     ·rw [if_neg c92] at H
      exact absurd H (by simp)
     rw [if_pos c92] at H; have c92b0 : decide (0 ≤ x71_3) = true := decide_eq_true c92
     clear c92; by_cases c93 : x71_3 < (t519.length : Int)
     rotate_left
     ·rw [if_neg c93] at H
      exact absurd H (by simp)
     rw [if_pos c93] at H; have c93b0 : decide (x71_3 < (t519.length : Int)) = true := decide_eq_true c93
     (try simp only [hl0_1] at c93b0)
     clear c93; by_cases c94 : ((rd_L5 t519 x71_3).length : Int) = ((rd_T45 t505 x71_3).f2)
     rotate_left
     ·rw [if_neg c94] at H
      have c94b0 : (((rd_L5 t519 x71_3).length : Int) == ((rd_T45 t505 x71_3).f2)) = false := beq_eq_false_iff_ne.mpr c94
      have c94b1 : (((rd_L5 t519 x71_3).length : Int) != ((rd_T45 t505 x71_3).f2)) = true := bne_iff_ne.mpr c94
      (try simp only [hl0_1] at c94b0)
      (try simp only [hl0_1] at c94b1)
      exact absurd ((Option.some.inj H).trans hrt_.out) (by decide)
     rw [if_pos c94] at H; have c94b0 : (((rd_L5 t519 x71_3).length : Int) == ((rd_T45 t505 x71_3).f2)) = true := beq_iff_eq.mpr c94
     have c94b1 : (((rd_L5 t519 x71_3).length : Int) != ((rd_T45 t505 x71_3).f2)) = false := bne_eq_false_iff_eq.mpr c94
     (try simp only [hl0_1] at c94b0)
     (try simp only [hl0_1] at c94b1)
     clear c94; by_cases c95 : x71_3 < (t522.length : Int)
     rotate_left
     ·rw [if_neg c95] at H
      exact absurd H (by simp)
     rw [if_pos c95] at H; have c95b0 : decide (x71_3 < (t522.length : Int)) = true := decide_eq_true c95
     (try simp only [hl0_1] at c95b0)
     clear c95; by_cases c96 : ((rd_L5 t522 x71_3).length : Int) = t508
     rotate_left
     ·rw [if_neg c96] at H
      have c96b0 : (((rd_L5 t522 x71_3).length : Int) == t508) = false := beq_eq_false_iff_ne.mpr c96
      have c96b1 : (((rd_L5 t522 x71_3).length : Int) != t508) = true := bne_iff_ne.mpr c96
      (try simp only [hl0_1] at c96b0)
      (try simp only [hl0_1] at c96b1)
      exact absurd ((Option.some.inj H).trans hrt_.out) (by decide)
     rw [if_pos c96] at H; have c96b0 : (((rd_L5 t522 x71_3).length : Int) == t508) = true := beq_iff_eq.mpr c96
     have c96b1 : (((rd_L5 t522 x71_3).length : Int) != t508) = false := bne_eq_false_iff_eq.mpr c96
     (try simp only [hl0_1] at c96b0)
     (try simp only [hl0_1] at c96b1)
     clear c96; have H' := zA.mk H
     clear H; have hnb97 := NB518_485.out; have hnc97 := NB485_518.out; have hnb98 := NB518_517.out; have hnc98 := NB517_518.out; have hnb99 := NB518_526.out; have hnc99 := NB526_518.out; obtain ⟨hcz100_0, hcz100_1, hcz100_2, hcz100_3, hcz100_4, hcz100_5, hfz100_0, hfz100_1, hfz100_2, hfz100_3, hfz100_4, hfz100_5⟩ := aC6 BK518; try go_wp2
     have n0_ := zA.mk (Kd.S_drew HO_10.out); have n1_ := zA.mk (Kd.S_drew HO_11.out); have n2_ := zA.mk (Kd.zK HO_69.out); have n3_ := zA.mk (Kd.zK HO_518000.out); have n4_ := zA.mk (Kd.zK HO_518001.out); have n5_ := zA.mk (zD BK485.out); have n6_ := zA.mk (zD BK517.out); have n7_ := zA.mk (zD BK518.out); have n8_ := zA.mk (zD BK526.out); have n9_ := zA.mk (below_drew1 HB.out); clear HO_10; clear HO_11; clear HO_69; clear HO_518000; clear HO_518001; clear BK485; clear BK517; clear BK518; clear BK526; clear HB; have HO_10 := n0_; have HO_11 := n1_; have HO_69 := n2_; have HO_518000 := n3_; have HO_518001 := n4_; have BK485 := n5_; have BK517 := n6_; have BK518 := n7_; have BK526 := n8_; have HB := n9_; clear n0_ n1_ n2_ n3_ n4_ n5_ n6_ n7_ n8_ n9_; obtain ⟨Ao102, co102, eo102⟩ := Kd.S_slice HO_10.out; (first | subst eo102 | (injection eo102 with f1_ f2_ f3_; have f4_ := f1_.symm; have f5_ := f3_.symm; clear f1_ f2_ f3_; subst f4_; subst f5_))
     have p528 : 0 ≤ (x71_3 : Int) := aD
     have q528 : x71_3 < (t519.length : Int) := aD
     obtain ⟨ad528, A528_0, c528_0, e528, hx528_0, hl528_0, hi528_0⟩ := at_L5 (Kd.S_reads' HO_10.out).2.2 x71_3 p528 q528; cases e528
     obtain ⟨ce528, hce528, hMe528, hcc528⟩ := Kd.S_get HO_10.out [] x71_3 p528 (by first | exact q528 | exact aD | (have e_ := (Kd.S_reads' HO_10.out).1; omega))
     obtain ⟨ve528_0, rfl, ge528_0⟩ := hMe528; have hv528_0 := hcc528 0 _ rfl; rw [Nat.add_zero, show ((Kd.slice 5 (Kd.int .u8))).sz = 1 from rfl, Nat.mul_one] at hv528_0; replace hv528_0 := Option.some.inj (hv528_0.symm.trans hx528_0); rw [hv528_0] at ge528_0; have HL528_0 := zA.mk (show Kd.R (Kd.int .u8) 5 _ _ _ _ (rd_L5 t519 x71_3) from ge528_0); clear hv528_0 ge528_0; clear hcc528 hce528; have HR528_0 := zA.mk hi528_0; have HC528_0 := zA.mk hl528_0; clear hi528_0 hl528_0; replace p528 := eq_true p528; replace q528 := eq_true q528; obtain ⟨Ao103, co103, eo103⟩ := Kd.S_slice HO_11.out; (first | subst eo103 | (injection eo103 with f1_ f2_ f3_; have f4_ := f1_.symm; have f5_ := f3_.symm; clear f1_ f2_ f3_; subst f4_; subst f5_))
     have p529 : 0 ≤ (x71_3 : Int) := aD
     have q529 : x71_3 < (t522.length : Int) := aD
     obtain ⟨ad529, A529_0, c529_0, e529, hx529_0, hl529_0, hi529_0⟩ := at_L5 (Kd.S_reads' HO_11.out).2.2 x71_3 p529 q529; cases e529
     obtain ⟨ce529, hce529, hMe529, hcc529⟩ := Kd.S_get HO_11.out [] x71_3 p529 (by first | exact q529 | exact aD | (have e_ := (Kd.S_reads' HO_11.out).1; omega))
     obtain ⟨ve529_0, rfl, ge529_0⟩ := hMe529; have hv529_0 := hcc529 0 _ rfl; rw [Nat.add_zero, show ((Kd.slice 5 (Kd.int .u8))).sz = 1 from rfl, Nat.mul_one] at hv529_0; replace hv529_0 := Option.some.inj (hv529_0.symm.trans hx529_0); rw [hv529_0] at ge529_0; have HL529_0 := zA.mk (show Kd.R (Kd.int .u8) 5 _ _ _ _ (rd_L5 t522 x71_3) from ge529_0); clear hv529_0 ge529_0; clear hcc529 hce529; have HR529_0 := zA.mk hi529_0; have HC529_0 := zA.mk hl529_0; clear hi529_0 hl529_0; replace p529 := eq_true p529; replace q529 := eq_true q529; refine start_ (n := 17) (S := fun w' => w'.cell? ⟨gb526, 0, none⟩ = some (.int .i64 ((rd_T45 t505 x71_3).f0)) ∧ w'.cell? ⟨gb526, 1, none⟩ = some (.int .i64 ((rd_T45 t505 x71_3).f1)) ∧ w'.cell? ⟨gb526, 2, none⟩ = some (.int .i64 ((rd_T45 t505 x71_3).f2)) ∧ w'.cell? ⟨gb526, 3, none⟩ = some (.int .u8 ((rd_T45 t505 x71_3).f3)) ∧ w'.cell? (ad528.add (x71_3).toNat) = some (.slice A528_0 (rd_L5 t519 x71_3).length c528_0) ∧ w'.cell? (ad529.add (x71_3).toNat) = some (.slice A529_0 (rd_L5 t522 x71_3).length c529_0)) (ds := []) #[false, false, false, false, false, false, false, false, false, false, false, false, false, false, false, false, false] (by kernel_rfl) rfl rfl ⟨(zC BK526.out 0).trans rfl, (zC BK526.out 1).trans rfl, (zC BK526.out 2).trans rfl, (zC BK526.out 3).trans rfl, hx528_0, hx529_0⟩ (fun hHeld => ?_); refine with_tabW stanzalaw22_DrawCells.tab21 stanzalaw22_DrawCells.bits21 (fun HT_ HW_ => ?_)
     generalize wc.drew = w101 at HO_10 HO_11 HO_69 HO_518000 HO_518001 BK485 BK517 BK518 BK526 HB HL528_0 HL529_0 HR528_0 HR529_0 hx528_0 hx529_0 hHeld ⊢
     refine aP 0 (some 105) (tf_ 1 17) HT_ ?_
     refine aP 1 (some 106) (tf_ 2 17) HT_ ?_
     refine aP 2 (some 107) (tf_ 3 17) HT_ ?_
     refine aP 5 (some 110) #[true, true, true, false, false, true, false, false, false, false, false, false, false, false, false, false, false] HT_ ?_
     refine take_ (i := 3) (N := some 108) (v := ?_) (a' := ?_) #[true, true, true, true, false, true, false, false, false, false, false, false, false, false, false, false, false] rfl rfl (take_ofW HT_.out HW_.out (by kernel_rfl)) (fun _ _ _ h => h) (Or.inl ⟨by rfl, ?_⟩) hHeld ?_ ?_
     rotate_left
     ·rintro w' ⟨s0, s1, s2, s3, s4, s5⟩
      go_simp
      with_reducible rfl
     rotate_left
     ·simp only [Act.put, sA_, sB_, sC_, i64_w, i32_w]
      rfl
     refine aP 4 (some 109) (tf_ 6 17) HT_ ?_
     refine take_ (i := 6) (N := some 111) (v := ?_) (a' := ?_) (tf_ 7 17) rfl rfl (take_ofW HT_.out HW_.out (by kernel_rfl)) (fun _ _ _ h => h) (Or.inl ⟨by rfl, ?_⟩) hHeld ?_ ?_
     rotate_left
     ·rintro w' ⟨s0, s1, s2, s3, s4, s5⟩
      go_simp
      with_reducible rfl
     rotate_left
     ·simp only [Act.put, sA_, sB_, sC_, i64_w, i32_w]
      rfl
     refine aP 7 (some 112) (tf_ 8 17) HT_ ?_
     refine aP 8 (some 113) (tf_ 9 17) HT_ ?_
     refine aP 9 (some 114) (tf_ 10 17) HT_ ?_
     refine aP 10 (some 115) (tf_ 11 17) HT_ ?_
     refine aP 11 (some 116) (tf_ 12 17) HT_ ?_
     refine aP 14 (some 119) #[true, true, true, true, true, true, true, true, true, true, true, true, false, false, true, false, false] HT_ ?_
     refine take_ (i := 12) (N := some 117) (v := ?_) (a' := ?_) #[true, true, true, true, true, true, true, true, true, true, true, true, true, false, true, false, false] rfl rfl (take_ofW HT_.out HW_.out (by kernel_rfl)) (fun _ _ _ h => h) (Or.inl ⟨by rfl, ?_⟩) hHeld ?_ ?_
     rotate_left
     ·rintro w' ⟨s0, s1, s2, s3, s4, s5⟩
      go_simp
      with_reducible rfl
     rotate_left
     ·simp only [Act.put, sA_, sB_, sC_, i64_w, i32_w]
      rfl
     refine aP 13 (some 118) (tf_ 15 17) HT_ ?_
     refine aP 15 (some 120) (tf_ 16 17) HT_ ?_
     refine aP 16 (some 121) #[true, true, true, true, true, true, true, true, true, true, true, true, true, true, true, true, true] HT_ ?_
     refine done_ (done_of HT_.out (by kernel_rfl)) ?_
     try go_wp2
     go_roundg kj55
     case measure => have := HK1.out; have := HJ27.out; have := HK3.out; have := HJ55.out; omega
     case rel => exact ⟨(wrap64 (x71_3 + 1)), aZ, H', ⟨by have := HK1.out; have := HJ27.out; have := HK3.out; have := HJ55.out; omega⟩, ⟨by (try simp only [hl0_1]); (with_reducible repeat (first | apply Kd.S_alloc | apply Kd.S_drewN | apply Kd.S_drew)); exact HO_10.out⟩, ⟨by (try simp only [hl0_1]); (with_reducible repeat (first | apply Kd.S_alloc | apply Kd.S_drewN | apply Kd.S_drew)); exact HO_11.out⟩, ⟨by (try simp only [hl0_1]); (with_reducible repeat (first | apply Kd.zI | apply Kd.zJ | apply Kd.zK)); exact Kd.zU HO_69.out (fun _ hk => trivial)⟩, ⟨by (try simp only [hl0_1]); (with_reducible repeat (first | apply Kd.zI | apply Kd.zJ | apply Kd.zK)); exact HO_518000.out⟩, ⟨by (try simp only [hl0_1]); (with_reducible repeat (first | apply Kd.zI | apply Kd.zJ | apply Kd.zK)); exact HO_518001.out⟩, ⟨by (try simp only [hl0_1]); (with_reducible repeat (first | refine zE ?_ _ | refine zD ?_ | refine zF ?_ _)); exact BK485.out⟩, ⟨by (try simp only [hl0_1]); (with_reducible repeat (first | refine zE ?_ _ | refine zD ?_ | refine zF ?_ _)); exact BK517.out⟩, ⟨by (try simp only [hl0_1]); (with_reducible repeat (first | refine zE ?_ _ | refine zD ?_ | refine zF ?_ _)); exact BK518.out⟩, ⟨aL HB⟩⟩
def stanzalaw22_DrawCells.Pure : Prop := ∀ (l0 : List (S49)) (a1_0 : Int) (a1_1 : Int) (a1_2 : Int) (a1_3 : Int) (a1_4 : Int) (a1_5 : Nat), (l0.length * 4 ≤ 140737488351232 ∧ ∀ y0 ∈ l0, ((Lit.int .u8 y0.f0).wf = true ∧ ((Lit.int .u8 y0.f1).wf = true ∧ ((Lit.int .u8 y0.f2).wf = true ∧ (Lit.int .u8 y0.f3).wf = true)))) → ((Lit.int .u8 a1_0).wf = true ∧ ((Lit.int .u8 a1_1).wf = true ∧ ((Lit.int .u8 a1_2).wf = true ∧ ((Lit.int .u16 a1_3).wf = true ∧ ((Lit.int .u16 a1_4).wf = true ∧ (Lit.float .f64 a1_5).wf = true))))) → ∃ k, stanzalaw22_DrawCells.f k l0 a1_0 a1_1 a1_2 a1_3 a1_4 a1_5 = some true
mutual
def r3_Spread.j0 : Nat → Int → Int → Bool → Option (List Int)
 | 0, _, _, _ => none
 | k + 1, x0, x1, x22 => if x22 = true then (some ([] : List Int)) else (r3_Spread.l0 k x0 x1 ([] : List Int) 0 1)
def r3_Spread.l0 : Nat → Int → Int → List Int → Int → Int → Option (List Int)
 | 0, _, _, _, _, _ => none
 | k + 1, x0, x1, x5, x6, x7 => if x7 ≤ x1 then (if x1 = 0 then (none) else (if x5.length < 17592186044416 then (r3_Spread.l0 k x0 x1 (x5 ++ [wrap64 ((wrap64 (Int.tdiv (wrap64 (x0 * x7)) x1)) - x6)]) (wrap64 (Int.tdiv (wrap64 (x0 * x7)) x1)) (wrap64 (x7 + 1))) else (none))) else (some x5)
end
def r3_Spread.f (k : Nat) (a0 : Int) (a1 : Int) : Option (List Int) := if a0 < 0 then (r3_Spread.j0 k a0 a1 true) else (if a0 > 1048576 then (r3_Spread.j0 k a0 a1 true) else (if a1 < 1 then (r3_Spread.j0 k a0 a1 true) else (r3_Spread.j0 k a0 a1 (decide (a1 > 4096)))))
theorem r3_Spread.mono_l : ∀ k, (∀ y0 y1 y2, LeO (r3_Spread.j0 k y0 y1 y2) (r3_Spread.j0 (k + 1) y0 y1 y2)) ∧ (∀ y0 y1 y2 y3 y4, LeO (r3_Spread.l0 k y0 y1 y2 y3 y4) (r3_Spread.l0 (k + 1) y0 y1 y2 y3 y4))
 | 0 => ⟨fun _ _ _ r h => by simp [r3_Spread.j0] at h, fun _ _ _ _ _ r h => by simp [r3_Spread.l0] at h⟩
 | k + 1 => by
  obtain ⟨ih0, ih1⟩ := r3_Spread.mono_l k; refine ⟨?_, ?_⟩
  ·intro y0 y1 y2
   unfold r3_Spread.j0
   repeat' (with_reducible first | exact ih0 _ _ _ | exact ih1 _ _ _ _ _ | exact LeO.refl _ | exact LeO.none _ | refine LeO.ite ?_ ?_ | refine LeO.bind ?_ (fun _ => ?_))
  ·intro y0 y1 y2 y3 y4
   unfold r3_Spread.l0
   repeat' (with_reducible first | exact ih0 _ _ _ | exact ih1 _ _ _ _ _ | exact LeO.refl _ | exact LeO.none _ | refine LeO.ite ?_ ?_ | refine LeO.bind ?_ (fun _ => ?_))
theorem r3_Spread.mono : ∀ a0 a1 k, LeO (r3_Spread.f k a0 a1) (r3_Spread.f (k + 1) a0 a1) := by
 intro a0 a1 k
 obtain ⟨ih0, ih1⟩ := r3_Spread.mono_l k; unfold r3_Spread.f
 repeat' (with_reducible first | exact ih0 _ _ _ | exact ih1 _ _ _ _ _ | exact LeO.refl _ | exact LeO.none _ | refine LeO.ite ?_ ?_ | refine LeO.bind ?_ (fun _ => ?_))
set_option maxHeartbeats 8000000 in
set_option maxRecDepth 100000 in
theorem r3_Spread.calls (k : Nat) (a0 : Int) (a1 : Int) (r : List Int) (w : World) (h : r3_Spread.f k a0 a1 = some r) :
  Calls Try.prog 45 #[.int .i64 a0, .int .i64 a1] w fun e w' => ∃ v0_ : Value, e = .returned (v0_) ∧ Kd.R (Kd.int .i64) 3 w' w.heap.size (fun _ => True) v0_ r ∧ Below w.heap.size w w' := by
 have HB := zA.mk (Below.refl w.heap.size w); have H : (if a0 < 0 then (r3_Spread.j0 k a0 a1 true) else (if a0 > 1048576 then (r3_Spread.j0 k a0 a1 true) else (if a1 < 1 then (r3_Spread.j0 k a0 a1 true) else (r3_Spread.j0 k a0 a1 (decide (a1 > 4096)))))) = some r := h
 clear h; have HC3 := zA.mk H; clear H; go_enter Try.func45, Try.ntmps45
 go_upto_region 1 with (fail)
 go_cut [22] (fun v22 wc => ∃ (kq : Nat) (x22_2 : Bool), v22 = .bool x22_2 ∧ zA (r3_Spread.j0 kq a0 a1 x22_2 = some r) ∧ zA (kq ≤ k) ∧ zA (Below w.heap.size w wc))
 case first =>
  have H := HC3.out; clear HC3; by_cases c4 : a0 < 0
  ·rw [if_pos c4] at H
   have c4b0 : decide (a0 < 0) = true := decide_eq_true c4
   clear c4; (first | rw [c4b0] | (simp only [i64_w, i32_w]; rw [c4b0]) | skip)
   have H' := zA.mk H
   clear H; go_wp2
   go_meet
   case rel => exact ⟨_, (true), aZ, H', ⟨by first | omega | exact Nat.le_refl _⟩, ⟨aL HB⟩⟩
  rw [if_neg c4] at H; have c4b0 : decide (a0 < 0) = false := decide_eq_false c4
  clear c4; (first | rw [c4b0] | (simp only [i64_w, i32_w]; rw [c4b0]) | skip)
  by_cases c5 : a0 > 1048576
  ·rw [if_pos c5] at H
   have c5b0 : decide (1048576 < a0) = true := decide_eq_true c5
   clear c5; have H' := zA.mk H
   clear H; go_wp2
   go_meet
   case rel => exact ⟨_, (true), aZ, H', ⟨by first | omega | exact Nat.le_refl _⟩, ⟨aL HB⟩⟩
  rw [if_neg c5] at H; have c5b0 : decide (1048576 < a0) = false := decide_eq_false c5
  clear c5; by_cases c6 : a1 < 1
  ·rw [if_pos c6] at H
   have c6b0 : decide (a1 < 1) = true := decide_eq_true c6
   clear c6; have H' := zA.mk H
   clear H; go_wp2
   go_meet
   case rel => exact ⟨_, (true), aZ, H', ⟨by first | omega | exact Nat.le_refl _⟩, ⟨aL HB⟩⟩
  rw [if_neg c6] at H; have c6b0 : decide (a1 < 1) = false := decide_eq_false c6
  clear c6; have H' := zA.mk H
  clear H; go_wp2
  go_meet
  case rel => exact ⟨_, (decide (a1 > 4096)), aZ, H', ⟨by first | omega | exact Nat.le_refl _⟩, ⟨aL HB⟩⟩
 clear HC3; obtain ⟨kq, x22_2, rfl, HA, HJ2, HB⟩ := hcut; cases kq with
 | zero => exact absurd HA.out (by simp [r3_Spread.j0])
 | succ kj2 =>
  have H := HA.out; clear HA; simp only [r3_Spread.j0] at H; by_cases c7 : x22_2 = true
  ·subst c7
   have H1 : (some ([] : List Int)) = some r := by rw [if_pos rfl] at H; exact H
   clear H; have H := H1; clear H1; obtain rfl := Option.some.inj H
   go_wp2
   go_ret
   exact ⟨_, aX, by first | exact Kd.R_nil _ _ _ _ _ | exact Kd.N_nil _ _ _ _ _ | exact Kd.V_nil _ _ _ _ _ | exact Kd.Q_nil _ _ _ _ _ | exact Kd.S_nil _ _ _ _ _, aL HB⟩
  replace c7 := Bool.eq_false_iff.mpr c7; subst c7; have H1 : (r3_Spread.l0 kj2 a0 a1 ([] : List Int) 0 1) = some r := by rw [if_neg (show ¬ (false = true) by decide)] at H; exact H
  clear H; have H := H1; clear H1; have H' := zA.mk H
  clear H; go_wp2
  go_loopg [5, 6, 7] kj2 (fun kq v5 v6 v7 w' => ∃ (x5_2 : List Int) (x6_2 : Int) (x7_2 : Int), v6 = .int .i64 x6_2 ∧ v7 = .int .i64 x7_2 ∧ zA (r3_Spread.l0 kq a0 a1 x5_2 x6_2 x7_2 = some r) ∧ zA (kq ≤ kj2) ∧ zA (Kd.R (Kd.int .i64) 3 w' w.heap.size (fun _ => True) v5 x5_2) ∧ zA (Below w.heap.size w w'))
  case atStart => exact ⟨(([] : List Int)), (0), (1), aZ, aZ, H', ⟨Nat.le_refl _⟩, ⟨by first | exact Kd.R_nil _ _ _ _ _ | exact Kd.N_nil _ _ _ _ _ | exact Kd.V_nil _ _ _ _ _ | exact Kd.Q_nil _ _ _ _ _ | exact Kd.S_nil _ _ _ _ _⟩, ⟨aL HB⟩⟩
  clear H'; obtain ⟨x5_2, x6_2, x7_2, rfl, rfl, HA, HK2, HO_5, HB⟩ := hrel; cases gk with
  | zero => exact absurd HA.out (by simp [r3_Spread.l0])
  | succ k2 =>
   have H := HA.out; clear HA; simp only [r3_Spread.l0] at H; by_cases c8 : x7_2 ≤ a1
   rotate_left
   ·rw [if_neg c8] at H
    have c8b0 : decide (x7_2 ≤ a1) = false := decide_eq_false c8
    clear c8; obtain rfl := Option.some.inj H
    go_wp2
    go_ret
    exact ⟨_, aX, aR HO_5, aL HB⟩
   rw [if_pos c8] at H; have c8b0 : decide (x7_2 ≤ a1) = true := decide_eq_true c8
   clear c8; by_cases c9 : a1 = 0
   ·rw [if_pos c9] at H
    exact absurd H (by simp)
   rw [if_neg c9] at H; have c9b0 : (a1 == 0) = false := beq_eq_false_iff_ne.mpr c9
   have c9b1 : (a1 != 0) = true := bne_iff_ne.mpr c9
   by_cases c10 : x5_2.length < 17592186044416
   rotate_left
   ·rw [if_neg c10] at H
    exact absurd H (by simp)
   rw [if_pos c10] at H; have LMc10 := zA.mk c10; clear c10; obtain ⟨y400, hy400⟩ : ∃ y_ : List Int, y_ = (x5_2 ++ [wrap64 ((wrap64 (Int.tdiv (wrap64 (a0 * x7_2)) a1)) - x6_2)]) := ⟨_, rfl⟩; replace H : (r3_Spread.l0 k2 a0 a1 y400 (wrap64 (Int.tdiv (wrap64 (a0 * x7_2)) a1)) (wrap64 (x7_2 + 1))) = some r := by first | (rw [hy400]; with_reducible exact H) | (have H2_ := (Option.bind_some _ _).symm.trans H; rw [hy400]; with_reducible exact H2_) | (have H2_ := (Option.bind_some _ _).symm.trans H; with_reducible exact H2_) | with_reducible exact H | (rw [hy400]; exact H) | exact H
   have Ny400 := zA.mk hy400; clear hy400; have H' := zA.mk H
   clear H; go_wp2_with (first | ((with_reducible refine gate_builtin (b := .append) (xs := #[.tmp 33, .tmp 37]) rfl ?_); at_builtin; refine Kd.R_append (Kd.int .i64) (w0 := w) w.heap.size rfl (.tmp 33) (.tmp 37) 37 3 (.int .i64 0) 8 rfl Try.underlying37 info3 rfl (by decide) (by omega) u5 x5_2 (wrap64 ((wrap64 (Int.tdiv (wrap64 (a0 * x7_2)) a1)) - x6_2)) [.int .i64 (wrap64 ((wrap64 (Int.tdiv (wrap64 (a0 * x7_2)) a1)) - x6_2))] (fun _ => True) (fun _ => False) rfl rfl ?aP (fun _ hk => hk.elim) ?aF ?aO ?aB ?aS ?aL ?_; (case aP => exact rfl); (case aB => exact (aL HB)); (case aF => exact (fun _ _ => trivial)); (case aO => exact (aR HO_5)); (case aS => exact (zG (aL HB))); (case aL => have := LMc10.out; omega); intro v401 w11 ho hb hg hat; rw [← Ny400.out] at ho; replace HB := zA.mk (hb); have HO402 := zA.mk (ho); clear HO_5; clear ho hb hg hat))
   go_roundg k2
   case measure => have := HJ2.out; have := HK2.out; omega
   case rel => exact ⟨(y400), (wrap64 (Int.tdiv (wrap64 (a0 * x7_2)) a1)), (wrap64 (x7_2 + 1)), aZ, aZ, H', ⟨by have := HJ2.out; have := HK2.out; omega⟩, ⟨aR HO402⟩, ⟨aL HB⟩⟩
end Go.Proofs.Ytfeidhmkmbgnoaa.F
end
