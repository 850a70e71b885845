/- Printed by a program: Lean functions that answer as the Go functions do, and the proofs of it. -/
import Derived.Test.YtfeidhmkmbgnoaaVFirstLines0
section
namespace Go.Proofs.Ytfeidhmkmbgnoaa.F
open Go.RowKit Go.Proofs.YtfeidhmkmbgnoaaW.PrintWords Go.Proofs.YtfeidhmkmbgnoaaW.PrintLast Go.Proofs.YtfeidhmkmbgnoaaW.PrintMore
attribute [local go_sem] max2_int min2_int max_two min_two max_three min_three max_four min_four   -- for this text's walks alone
set_option linter.unusedVariables false
set_option linter.unusedSimpArgs false
mutual
def l4_FirstLines.l0 : Nat → Int → List Int → Int → Int → List (S61) → List Int → Int → Int → Int → Int → Int → Nat → Option (Bool)
 | 0, _, _, _, _, _, _, _, _, _, _, _, _ => none
 | k + 1, x7, x25, x26, x27, x262000, x262001, x263000, x263001, x263002, x263003, x263004, x263005 => if x27 < x26 then (if 0 ≤ x27 then (if x27 < (x25.length : Int) then ((first_Break.f k x262000 x262001 x7 (rd x25 x27) x263000 x263001 x263002 x263003 x263004 x263005).bind fun t267 => (l4_FirstLines.l1 k (rd x25 x27) x7 x25 x26 x27 t267 (t267.length : Int) 0 x262000 x262001 x263000 x263001 x263002 x263003 x263004 x263005)) else (none)) else (none)) else (some true)
def l4_FirstLines.l1 : Nat → Int → Int → List Int → Int → Int → List (S45) → Int → Int → List (S61) → List Int → Int → Int → Int → Int → Int → Nat → Option (Bool)
 | 0, _, _, _, _, _, _, _, _, _, _, _, _, _, _, _, _ => none
 | k + 1, x9, x10, x25, x26, x27, x36, x37, x38, x262000, x262001, x263000, x263001, x263002, x263003, x263004, x263005 => if x38 < x37 then (if 0 ≤ x38 then (if x38 < (x36.length : Int) then (if ((rd_T45 x36 x38).f0) = x10 then (if ((rd_T45 x36 x38).f1) ≤ x10 then (l4_FirstLines.j2 k x9 x10 x25 x26 x27 x36 x37 x38 true x262000 x262001 x263000 x263001 x263002 x263003 x263004 x263005 ((rd_T45 x36 x38).f0) ((rd_T45 x36 x38).f1) ((rd_T45 x36 x38).f2) ((rd_T45 x36 x38).f3)) else (if ((rd_T45 x36 x38).f1) > x9 then (l4_FirstLines.j2 k x9 x10 x25 x26 x27 x36 x37 x38 true x262000 x262001 x263000 x263001 x263002 x263003 x263004 x263005 ((rd_T45 x36 x38).f0) ((rd_T45 x36 x38).f1) ((rd_T45 x36 x38).f2) ((rd_T45 x36 x38).f3)) else (if ((rd_T45 x36 x38).f3) = 4 then (l4_FirstLines.j2 k x9 x10 x25 x26 x27 x36 x37 x38 (((rd_T45 x36 x38).f3) == 0) x262000 x262001 x263000 x263001 x263002 x263003 x263004 x263005 ((rd_T45 x36 x38).f0) ((rd_T45 x36 x38).f1) ((rd_T45 x36 x38).f2) ((rd_T45 x36 x38).f3)) else (if 0 ≤ ((rd_T45 x36 x38).f1) then (if ((rd_T45 x36 x38).f1) < (x262001.length : Int) then (if ((rd_T45 x36 x38).f3) = (rd x262001 ((rd_T45 x36 x38).f1)) then (l4_FirstLines.j2 k x9 x10 x25 x26 x27 x36 x37 x38 (((rd_T45 x36 x38).f3) == 0) x262000 x262001 x263000 x263001 x263002 x263003 x263004 x263005 ((rd_T45 x36 x38).f0) ((rd_T45 x36 x38).f1) ((rd_T45 x36 x38).f2) ((rd_T45 x36 x38).f3)) else (l4_FirstLines.j2 k x9 x10 x25 x26 x27 x36 x37 x38 true x262000 x262001 x263000 x263001 x263002 x263003 x263004 x263005 ((rd_T45 x36 x38).f0) ((rd_T45 x36 x38).f1) ((rd_T45 x36 x38).f2) ((rd_T45 x36 x38).f3))) else (none)) else (none))))) else (l4_FirstLines.j2 k x9 x10 x25 x26 x27 x36 x37 x38 true x262000 x262001 x263000 x263001 x263002 x263003 x263004 x263005 ((rd_T45 x36 x38).f0) ((rd_T45 x36 x38).f1) ((rd_T45 x36 x38).f2) ((rd_T45 x36 x38).f3))) else (none)) else (none)) else (if x10 = x9 then (l4_FirstLines.l0 k x9 x25 x26 (wrap64 (x27 + 1)) x262000 x262001 x263000 x263001 x263002 x263003 x263004 x263005) else (some false))
def l4_FirstLines.j2 : Nat → Int → Int → List Int → Int → Int → List (S45) → Int → Int → Bool → List (S61) → List Int → Int → Int → Int → Int → Int → Nat → Int → Int → Int → Int → Option (Bool)
 | 0, _, _, _, _, _, _, _, _, _, _, _, _, _, _, _, _, _, _, _, _, _ => none
 | k + 1, x9, x10, x25, x26, x27, x36, x37, x38, x78, x262000, x262001, x263000, x263001, x263002, x263003, x263004, x263005, x272000, x272001, x272002, x272003 => if x78 = true then (some false) else (if x272002 > x263000 then (if x272001 = (wrap64 (x10 + 1)) then ((span_Trim.f k x262000 x262001 x10 x272001).bind fun t273 => (l4_FirstLines.j3 k x9 x10 x25 x26 x27 x36 x37 x38 (t273 != (wrap64 (x10 + 1))) x262000 x262001 x263000 x263001 x263002 x263003 x263004 x263005 x272000 x272001 x272002 x272003)) else (l4_FirstLines.j3 k x9 x10 x25 x26 x27 x36 x37 x38 true x262000 x262001 x263000 x263001 x263002 x263003 x263004 x263005 x272000 x272001 x272002 x272003)) else (l4_FirstLines.j3 k x9 x10 x25 x26 x27 x36 x37 x38 false x262000 x262001 x263000 x263001 x263002 x263003 x263004 x263005 x272000 x272001 x272002 x272003))
def l4_FirstLines.j3 : Nat → Int → Int → List Int → Int → Int → List (S45) → Int → Int → Bool → List (S61) → List Int → Int → Int → Int → Int → Int → Nat → Int → Int → Int → Int → Option (Bool)
 | 0, _, _, _, _, _, _, _, _, _, _, _, _, _, _, _, _, _, _, _, _, _ => none
 | k + 1, x9, x10, x25, x26, x27, x36, x37, x38, x100, x262000, x262001, x263000, x263001, x263002, x263003, x263004, x263005, x272000, x272001, x272002, x272003 => if x100 = true then (some false) else (l4_FirstLines.l2 k x9 x10 (wrap64 (x10 + 1)) x25 x26 x27 x36 x37 x38 x262000 x262001 x263000 x263001 x263002 x263003 x263004 x263005 x272000 x272001 x272002 x272003)
def l4_FirstLines.l2 : Nat → Int → Int → Int → List Int → Int → Int → List (S45) → Int → Int → List (S61) → List Int → Int → Int → Int → Int → Int → Nat → Int → Int → Int → Int → Option (Bool)
 | 0, _, _, _, _, _, _, _, _, _, _, _, _, _, _, _, _, _, _, _, _, _ => none
 | k + 1, x9, x10, x13, x25, x26, x27, x36, x37, x38, x262000, x262001, x263000, x263001, x263002, x263003, x263004, x263005, x272000, x272001, x272002, x272003 => if x13 ≤ x9 then (if 0 ≤ x13 then (if x13 < (x262001.length : Int) then (if (rd x262001 x13) = 0 then (l4_FirstLines.l2 k x9 x10 (wrap64 (x13 + 1)) x25 x26 x27 x36 x37 x38 x262000 x262001 x263000 x263001 x263002 x263003 x263004 x263005 x272000 x272001 x272002 x272003) else ((span_Cells.f k x262000 x262001 x10 x13 (rd x262001 x13) x263001).bind fun t276 => (if t276 ≤ x263000 then (if x272003 = 4 then (some false) else (if x13 > x272001 then (some false) else (l4_FirstLines.l2 k x9 x10 (wrap64 (x13 + 1)) x25 x26 x27 x36 x37 x38 x262000 x262001 x263000 x263001 x263002 x263003 x263004 x263005 x272000 x272001 x272002 x272003))) else (l4_FirstLines.l2 k x9 x10 (wrap64 (x13 + 1)) x25 x26 x27 x36 x37 x38 x262000 x262001 x263000 x263001 x263002 x263003 x263004 x263005 x272000 x272001 x272002 x272003)))) else (none)) else (none)) else (l4_FirstLines.l1 k x9 x272001 x25 x26 x27 x36 x37 (wrap64 (x38 + 1)) x262000 x262001 x263000 x263001 x263002 x263003 x263004 x263005)
end
def l4_FirstLines.f (k : Nat) (l0 : List (S49)) (a1_0 : Int) (a1_1 : Int) (a1_2 : Int) (a1_3 : Int) (a1_4 : Int) (a1_5 : Nat) : Option (Bool) := (l4_Awake.f k).bind fun t248 => (if t248 = true then (if (l0.length : Int) > 300 then (some true) else ((h3_Para.f k l0).bind fun bt249 => ((h3_Config.f a1_0 a1_1 a1_2 a1_3 a1_4 a1_5).bind fun bt255 => ((r0_Parts.f k bt249.1 bt249.2).bind fun t263 => (l4_FirstLines.l0 k 0 t263 (t263.length : Int) 0 bt249.1 bt249.2 bt255.1 bt255.2.1 bt255.2.2.1 bt255.2.2.2.1 bt255.2.2.2.2.1 bt255.2.2.2.2.2))))) else (some false))
theorem l4_FirstLines.mono_l : ∀ k, (∀ y0 y1 y2 y3 y4 y5 y6 y7 y8 y9 y10 y11, LeO (l4_FirstLines.l0 k y0 y1 y2 y3 y4 y5 y6 y7 y8 y9 y10 y11) (l4_FirstLines.l0 (k + 1) y0 y1 y2 y3 y4 y5 y6 y7 y8 y9 y10 y11)) ∧ (∀ y0 y1 y2 y3 y4 y5 y6 y7 y8 y9 y10 y11 y12 y13 y14 y15, LeO (l4_FirstLines.l1 k y0 y1 y2 y3 y4 y5 y6 y7 y8 y9 y10 y11 y12 y13 y14 y15) (l4_FirstLines.l1 (k + 1) y0 y1 y2 y3 y4 y5 y6 y7 y8 y9 y10 y11 y12 y13 y14 y15)) ∧ (∀ y0 y1 y2 y3 y4 y5 y6 y7 y8 y9 y10 y11 y12 y13 y14 y15 y16 y17 y18 y19 y20, LeO (l4_FirstLines.j2 k y0 y1 y2 y3 y4 y5 y6 y7 y8 y9 y10 y11 y12 y13 y14 y15 y16 y17 y18 y19 y20) (l4_FirstLines.j2 (k + 1) y0 y1 y2 y3 y4 y5 y6 y7 y8 y9 y10 y11 y12 y13 y14 y15 y16 y17 y18 y19 y20)) ∧ (∀ y0 y1 y2 y3 y4 y5 y6 y7 y8 y9 y10 y11 y12 y13 y14 y15 y16 y17 y18 y19 y20, LeO (l4_FirstLines.j3 k y0 y1 y2 y3 y4 y5 y6 y7 y8 y9 y10 y11 y12 y13 y14 y15 y16 y17 y18 y19 y20) (l4_FirstLines.j3 (k + 1) y0 y1 y2 y3 y4 y5 y6 y7 y8 y9 y10 y11 y12 y13 y14 y15 y16 y17 y18 y19 y20)) ∧ (∀ y0 y1 y2 y3 y4 y5 y6 y7 y8 y9 y10 y11 y12 y13 y14 y15 y16 y17 y18 y19 y20, LeO (l4_FirstLines.l2 k y0 y1 y2 y3 y4 y5 y6 y7 y8 y9 y10 y11 y12 y13 y14 y15 y16 y17 y18 y19 y20) (l4_FirstLines.l2 (k + 1) y0 y1 y2 y3 y4 y5 y6 y7 y8 y9 y10 y11 y12 y13 y14 y15 y16 y17 y18 y19 y20))
 | 0 => ⟨fun _ _ _ _ _ _ _ _ _ _ _ _ r h => by simp [l4_FirstLines.l0] at h, fun _ _ _ _ _ _ _ _ _ _ _ _ _ _ _ _ r h => by simp [l4_FirstLines.l1] at h, fun _ _ _ _ _ _ _ _ _ _ _ _ _ _ _ _ _ _ _ _ _ r h => by simp [l4_FirstLines.j2] at h, fun _ _ _ _ _ _ _ _ _ _ _ _ _ _ _ _ _ _ _ _ _ r h => by simp [l4_FirstLines.j3] at h, fun _ _ _ _ _ _ _ _ _ _ _ _ _ _ _ _ _ _ _ _ _ r h => by simp [l4_FirstLines.l2] at h⟩
 | k + 1 => by
  obtain ⟨ih0, ih1, ih2, ih3, ih4⟩ := l4_FirstLines.mono_l k; refine ⟨?_, ?_, ?_, ?_, ?_⟩
  ·intro y0 y1 y2 y3 y4 y5 y6 y7 y8 y9 y10 y11
   unfold l4_FirstLines.l0
   repeat' (with_reducible first | exact ih0 _ _ _ _ _ _ _ _ _ _ _ _ | exact ih1 _ _ _ _ _ _ _ _ _ _ _ _ _ _ _ _ | exact ih2 _ _ _ _ _ _ _ _ _ _ _ _ _ _ _ _ _ _ _ _ _ | exact ih3 _ _ _ _ _ _ _ _ _ _ _ _ _ _ _ _ _ _ _ _ _ | exact ih4 _ _ _ _ _ _ _ _ _ _ _ _ _ _ _ _ _ _ _ _ _ | exact first_Break.mono _ _ _ _ _ _ _ _ _ _ _ | exact span_Cells.mono _ _ _ _ _ _ _ | exact span_Trim.mono _ _ _ _ _ | exact h3_Para.mono _ _ | exact l4_Awake.mono _ | exact r0_Parts.mono _ _ _ | exact LeO.refl _ | exact LeO.none _ | refine LeO.ite ?_ ?_ | refine LeO.bind ?_ (fun _ => ?_))
  ·intro y0 y1 y2 y3 y4 y5 y6 y7 y8 y9 y10 y11 y12 y13 y14 y15
   unfold l4_FirstLines.l1
   repeat' (with_reducible first | exact ih0 _ _ _ _ _ _ _ _ _ _ _ _ | exact ih1 _ _ _ _ _ _ _ _ _ _ _ _ _ _ _ _ | exact ih2 _ _ _ _ _ _ _ _ _ _ _ _ _ _ _ _ _ _ _ _ _ | exact ih3 _ _ _ _ _ _ _ _ _ _ _ _ _ _ _ _ _ _ _ _ _ | exact ih4 _ _ _ _ _ _ _ _ _ _ _ _ _ _ _ _ _ _ _ _ _ | exact first_Break.mono _ _ _ _ _ _ _ _ _ _ _ | exact span_Cells.mono _ _ _ _ _ _ _ | exact span_Trim.mono _ _ _ _ _ | exact h3_Para.mono _ _ | exact l4_Awake.mono _ | exact r0_Parts.mono _ _ _ | exact LeO.refl _ | exact LeO.none _ | refine LeO.ite ?_ ?_ | refine LeO.bind ?_ (fun _ => ?_))
  ·intro y0 y1 y2 y3 y4 y5 y6 y7 y8 y9 y10 y11 y12 y13 y14 y15 y16 y17 y18 y19 y20
   unfold l4_FirstLines.j2
   repeat' (with_reducible first | exact ih0 _ _ _ _ _ _ _ _ _ _ _ _ | exact ih1 _ _ _ _ _ _ _ _ _ _ _ _ _ _ _ _ | exact ih2 _ _ _ _ _ _ _ _ _ _ _ _ _ _ _ _ _ _ _ _ _ | exact ih3 _ _ _ _ _ _ _ _ _ _ _ _ _ _ _ _ _ _ _ _ _ | exact ih4 _ _ _ _ _ _ _ _ _ _ _ _ _ _ _ _ _ _ _ _ _ | exact first_Break.mono _ _ _ _ _ _ _ _ _ _ _ | exact span_Cells.mono _ _ _ _ _ _ _ | exact span_Trim.mono _ _ _ _ _ | exact h3_Para.mono _ _ | exact l4_Awake.mono _ | exact r0_Parts.mono _ _ _ | exact LeO.refl _ | exact LeO.none _ | refine LeO.ite ?_ ?_ | refine LeO.bind ?_ (fun _ => ?_))
  ·intro y0 y1 y2 y3 y4 y5 y6 y7 y8 y9 y10 y11 y12 y13 y14 y15 y16 y17 y18 y19 y20
   unfold l4_FirstLines.j3
   repeat' (with_reducible first | exact ih0 _ _ _ _ _ _ _ _ _ _ _ _ | exact ih1 _ _ _ _ _ _ _ _ _ _ _ _ _ _ _ _ | exact ih2 _ _ _ _ _ _ _ _ _ _ _ _ _ _ _ _ _ _ _ _ _ | exact ih3 _ _ _ _ _ _ _ _ _ _ _ _ _ _ _ _ _ _ _ _ _ | exact ih4 _ _ _ _ _ _ _ _ _ _ _ _ _ _ _ _ _ _ _ _ _ | exact first_Break.mono _ _ _ _ _ _ _ _ _ _ _ | exact span_Cells.mono _ _ _ _ _ _ _ | exact span_Trim.mono _ _ _ _ _ | exact h3_Para.mono _ _ | exact l4_Awake.mono _ | exact r0_Parts.mono _ _ _ | exact LeO.refl _ | exact LeO.none _ | refine LeO.ite ?_ ?_ | refine LeO.bind ?_ (fun _ => ?_))
  ·intro y0 y1 y2 y3 y4 y5 y6 y7 y8 y9 y10 y11 y12 y13 y14 y15 y16 y17 y18 y19 y20
   unfold l4_FirstLines.l2
   repeat' (with_reducible first | exact ih0 _ _ _ _ _ _ _ _ _ _ _ _ | exact ih1 _ _ _ _ _ _ _ _ _ _ _ _ _ _ _ _ | exact ih2 _ _ _ _ _ _ _ _ _ _ _ _ _ _ _ _ _ _ _ _ _ | exact ih3 _ _ _ _ _ _ _ _ _ _ _ _ _ _ _ _ _ _ _ _ _ | exact ih4 _ _ _ _ _ _ _ _ _ _ _ _ _ _ _ _ _ _ _ _ _ | exact first_Break.mono _ _ _ _ _ _ _ _ _ _ _ | exact span_Cells.mono _ _ _ _ _ _ _ | exact span_Trim.mono _ _ _ _ _ | exact h3_Para.mono _ _ | exact l4_Awake.mono _ | exact r0_Parts.mono _ _ _ | exact LeO.refl _ | exact LeO.none _ | refine LeO.ite ?_ ?_ | refine LeO.bind ?_ (fun _ => ?_))
theorem l4_FirstLines.mono : ∀ a0 a1 a2 a3 a4 a5 a6 k, LeO (l4_FirstLines.f k a0 a1 a2 a3 a4 a5 a6) (l4_FirstLines.f (k + 1) a0 a1 a2 a3 a4 a5 a6) := by
 intro a0 a1 a2 a3 a4 a5 a6 k
 obtain ⟨ih0, ih1, ih2, ih3, ih4⟩ := l4_FirstLines.mono_l k; unfold l4_FirstLines.f
 repeat' (with_reducible first | exact ih0 _ _ _ _ _ _ _ _ _ _ _ _ | exact ih1 _ _ _ _ _ _ _ _ _ _ _ _ _ _ _ _ | exact ih2 _ _ _ _ _ _ _ _ _ _ _ _ _ _ _ _ _ _ _ _ _ | exact ih3 _ _ _ _ _ _ _ _ _ _ _ _ _ _ _ _ _ _ _ _ _ | exact ih4 _ _ _ _ _ _ _ _ _ _ _ _ _ _ _ _ _ _ _ _ _ | exact first_Break.mono _ _ _ _ _ _ _ _ _ _ _ | exact span_Cells.mono _ _ _ _ _ _ _ | exact span_Trim.mono _ _ _ _ _ | exact h3_Para.mono _ _ | exact l4_Awake.mono _ | exact r0_Parts.mono _ _ _ | exact LeO.refl _ | exact LeO.none _ | refine LeO.ite ?_ ?_ | refine LeO.bind ?_ (fun _ => ?_))
def l4_FirstLines.T5 : Bool × List (List Nat × List Nat) := (true, [([], []), ([0], [0]), ([], []), ([2, 1], [2]), ([], []), ([], []), ([4, 1, 3, 0, 1, 4, 5], [1, 4]), ([5, 3, 6, 0, 1, 2, 3, 4, 5, 6], [3, 5])])
def l4_FirstLines.B5 : List Nat := [0, 1, 0, 7, 0, 0, 63, 127]
theorem l4_FirstLines.tab5 : rtab .any (opsOf Try.f4 5) = l4_FirstLines.T5 := by kernel_rfl
theorem l4_FirstLines.bits5 : waitsOk l4_FirstLines.T5.2 l4_FirstLines.B5 = true := by kernel_rfl
def l4_FirstLines.T14 : Bool × List (List Nat × List Nat) := (true, [([], []), ([0], [0]), ([], []), ([1, 2], [1, 2]), ([3], [3]), ([4], [4]), ([5, 4], [4, 5]), ([4], [4]), ([6, 7, 4], [4, 6, 7]), ([4, 8], [4, 8]), ([9, 4], [9]), ([10], [10]), ([11, 10], [10, 11]), ([10], [10]), ([12, 13, 10], [10, 12, 13]), ([10, 14], [10, 14]), ([15, 10], [15]), ([16], [16]), ([17, 16], [16, 17]), ([18, 16], [16, 18]), ([19, 16, 16], [16, 19]), ([20], [20]), ([21, 20], [20, 21]), ([20], [20]), ([23, 20], [20, 23]), ([20], [20]), ([25, 20], [20, 25]), ([24, 26, 20], [20, 24, 26]), ([27, 20], [20, 27]), ([22, 28, 20], [20, 22, 28]), ([20, 29, 16], [16, 20, 29]), ([16, 30], [16, 30]), ([31, 20], [31]), ([32], [32]), ([33, 32], [32, 33]), ([34, 32], [32, 34]), ([32, 35], [32, 35])])
def l4_FirstLines.B14 : List Nat := [0, 1, 0, 7, 15, 31, 63, 31, 255, 511, 1023, 2047, 4095, 2047, 16383, 32767, 65535, 131071, 262143, 524287, 1048575, 2097151, 4194303, 2097151, 10485759, 2097151, 35651583, 127926271, 262143999, 536870911, 1073741823, 2147483647, 4294967295, 8589934591, 17179869183, 34359738367, 68719476735]
theorem l4_FirstLines.tab14 : rtab .any (opsOf Try.f4 14) = l4_FirstLines.T14 := by kernel_rfl
theorem l4_FirstLines.bits14 : waitsOk l4_FirstLines.T14.2 l4_FirstLines.B14 = true := by kernel_rfl
def l4_FirstLines.T21 : Bool × List (List Nat × List Nat) := (true, [([], []), ([0], [0]), ([], []), ([1, 2], [1, 2]), ([3], [3]), ([4], [4]), ([5], [5]), ([6], [6]), ([6], [6]), ([6], [6]), ([6], [6]), ([10, 6], [6, 10]), ([6], [6]), ([11, 12, 6], [6, 11, 12]), ([13, 6], [6, 13]), ([6], [6]), ([15, 6], [6, 15]), ([7, 8, 9, 14, 16, 6, 6], [6, 7, 8, 9, 14, 16]), ([6], [6]), ([18, 6], [6, 18]), ([17, 19, 6], [6, 17, 19]), ([6, 20], [6, 20]), ([21, 17, 0, 1, 2, 3, 4, 5, 6, 7, 8, 9, 10, 11, 12, 13, 14, 15, 16, 17, 18, 19, 20, 21], [21])])
def l4_FirstLines.B21 : List Nat := [0, 1, 0, 7, 15, 31, 63, 127, 127, 127, 127, 1151, 127, 7295, 15487, 127, 32895, 131071, 127, 262271, 1048575, 2097151, 4194303]
theorem l4_FirstLines.tab21 : rtab .any (opsOf Try.f4 21) = l4_FirstLines.T21 := by kernel_rfl
theorem l4_FirstLines.bits21 : waitsOk l4_FirstLines.T21.2 l4_FirstLines.B21 = true := by kernel_rfl
set_option maxHeartbeats 8000000 in
set_option maxRecDepth 100000 in
theorem l4_FirstLines.calls (k : Nat) (A0 : Option Addr) (c0 : Nat) (l0 : List (S49)) (a1_0 : Int) (a1_1 : Int) (a1_2 : Int) (a1_3 : Int) (a1_4 : Int) (a1_5 : Nat) (r : Bool) (w : World) (hr0 : Kd.C k49 w A0 l0.length l0) (hc0 : l0.length ≤ c0) (h : l4_FirstLines.f k l0 a1_0 a1_1 a1_2 a1_3 a1_4 a1_5 = some r) (hrt_ : zA (r = true)) :
  Calls Try.prog 4 #[.slice A0 l0.length c0, .agg #[.int .u8 a1_0, .int .u8 a1_1, .int .u8 a1_2, .int .u16 a1_3, .int .u16 a1_4, .float .f64 a1_5]] w fun e w' => e = .returned (.bool r) ∧ Below w.heap.size w w' := by
 have hu26 := Try.underlying26; have hu31 := Try.underlying31; have hu35 := Try.underlying35; have hu45 := Try.underlying45; have HR0 := zA.mk hr0; have HC0 := zA.mk hc0; clear hr0 hc0; have HB := zA.mk (Below.refl w.heap.size w); have H : ((l4_Awake.f k).bind fun t248 => (if t248 = true then (if (l0.length : Int) > 300 then (some true) else ((h3_Para.f k l0).bind fun bt249 => ((h3_Config.f a1_0 a1_1 a1_2 a1_3 a1_4 a1_5).bind fun bt255 => ((r0_Parts.f k bt249.1 bt249.2).bind fun t263 => (l4_FirstLines.l0 k 0 t263 (t263.length : Int) 0 bt249.1 bt249.2 bt255.1 bt255.2.1 bt255.2.2.1 bt255.2.2.2.1 bt255.2.2.2.2.1 bt255.2.2.2.2.2))))) else (some false))) = some r := h
 clear h; replace H := Option.bind_eq_some_iff.mp H; obtain ⟨t248, A30, H⟩ := H; replace H : (if t248 = true then (if (l0.length : Int) > 300 then (some true) else ((h3_Para.f k l0).bind fun bt249 => ((h3_Config.f a1_0 a1_1 a1_2 a1_3 a1_4 a1_5).bind fun bt255 => ((r0_Parts.f k bt249.1 bt249.2).bind fun t263 => (l4_FirstLines.l0 k 0 t263 (t263.length : Int) 0 bt249.1 bt249.2 bt255.1 bt255.2.1 bt255.2.2.1 bt255.2.2.2.1 bt255.2.2.2.2.1 bt255.2.2.2.2.2))))) else (some false)) = some r := H
 have A3 := zA.mk A30; clear A30; by_cases c4 : t248 = true
 rotate_left
 ·replace c4 := Bool.eq_false_iff.mpr c4
  subst c4; have H1 : (some false) = some r := by rw [if_neg (show ¬ (false = true) by decide)] at H; exact H
  clear H; have H := H1; clear H1; exact absurd ((Option.some.inj H).trans hrt_.out) (by decide)
 subst c4; have H1 : (if (l0.length : Int) > 300 then (some true) else ((h3_Para.f k l0).bind fun bt249 => ((h3_Config.f a1_0 a1_1 a1_2 a1_3 a1_4 a1_5).bind fun bt255 => ((r0_Parts.f k bt249.1 bt249.2).bind fun t263 => (l4_FirstLines.l0 k 0 t263 (t263.length : Int) 0 bt249.1 bt249.2 bt255.1 bt255.2.1 bt255.2.2.1 bt255.2.2.2.1 bt255.2.2.2.2.1 bt255.2.2.2.2.2))))) = some r := by rw [if_pos rfl] at H; exact H
 clear H; have H := H1; clear H1; by_cases c5 : (l0.length : Int) > 300
 ·rw [if_pos c5] at H
  have c5b0 : decide (300 < (l0.length : Int)) = true := decide_eq_true c5
  have c5b1 : decide (300 < l0.length) = true := decide_eq_true (by omega)
  clear c5; obtain rfl := Option.some.inj H
  go_enter Try.func4, Try.ntmps4
  go_wp2_with (first | ((with_reducible refine gate_dst (N := 3) rfl ?_); refine box_event ?hg (N := 3) ?hd (cs := #[.int .u8 a1_0, .int .u8 a1_1, .int .u8 a1_2, .int .u16 a1_3, .int .u16 a1_4, .float .f64 a1_5]) (t := 26) ?hr ?_; (case hd => rfl); (case hg => rfl); (case hr => first | (go_simp; done) | (go_simp; rfl)); intro gb247 hg w6 hbox hb; have n0_ := zA.mk (below_step (aL HB) hb); have n1_ := zA.mk (hbox); have n2_ := zA.mk ((by rw [hg]; exact (below_size (aL HB)) : w.heap.size ≤ gb247)); have n3_ := zA.mk ((by rw [hg]; exact (below_size (aL HB)) : w.heap.size ≤ gb247)); clear HB; have HB := n0_; have BK247 := n1_; have GW247 := n2_; have GE247 := n3_; clear n0_ n1_ n2_ n3_; clear hb hbox hg) | ((with_reducible refine gate_callee (f := 12) rfl ?_); refine goesL_ (some 15) rfl rfl Try.func12 (by kernel_rfl) rfl #[] rfl aT ?_; (with_reducible refine (l4_Awake.calls k  true _ A3.out (by first | exact ⟨rfl⟩ | exact hrt_)).mono ?_); rintro e w7 ⟨rfl, hb⟩; refine ⟨_, rfl, ?_⟩; have n0_ := zA.mk (blk_below (g := gb247) (o := .cells #[.int .u8 a1_0, .int .u8 a1_1, .int .u8 a1_2, .int .u16 a1_3, .int .u16 a1_4, .float .f64 a1_5] 26 (0, 0)) (aB BK247) hb); have n1_ := zA.mk (below_step (aL HB) hb); clear BK247; clear HB; have BK247 := n0_; have HB := n1_; clear n0_ n1_; (try clear hb); (try clear hb2); (try clear hk); (try clear hi)))
  go_ret
  exact ⟨aX, aL HB⟩
 rw [if_neg c5] at H; have c5b0 : decide (300 < (l0.length : Int)) = false := decide_eq_false c5
 have c5b1 : decide (300 < l0.length) = false := decide_eq_false (by omega)
 clear c5; replace H := Option.bind_eq_some_iff.mp H; obtain ⟨⟨t249, t252⟩, A80, H⟩ := H; replace H : ((h3_Config.f a1_0 a1_1 a1_2 a1_3 a1_4 a1_5).bind fun bt255 => ((r0_Parts.f k t249 t252).bind fun t263 => (l4_FirstLines.l0 k 0 t263 (t263.length : Int) 0 t249 t252 bt255.1 bt255.2.1 bt255.2.2.1 bt255.2.2.2.1 bt255.2.2.2.2.1 bt255.2.2.2.2.2))) = some r := H
 have A8 := zA.mk A80; clear A80; replace H := Option.bind_eq_some_iff.mp H; obtain ⟨⟨t255, t256, t257, t258, t259, t260⟩, A90, H⟩ := H; replace H : ((r0_Parts.f k t249 t252).bind fun t263 => (l4_FirstLines.l0 k 0 t263 (t263.length : Int) 0 t249 t252 t255 t256 t257 t258 t259 t260)) = some r := H
 have A9 := zA.mk A90; clear A90; replace H := Option.bind_eq_some_iff.mp H; obtain ⟨t263, A100, H⟩ := H; replace H : (l4_FirstLines.l0 k 0 t263 (t263.length : Int) 0 t249 t252 t255 t256 t257 t258 t259 t260) = some r := H; have A10 := zA.mk A100; clear A100; have H' := zA.mk H
 clear H; go_enter Try.func4, Try.ntmps4
 try go_wp2_with (first | ((with_reducible refine gate_dst (N := 3) rfl ?_); refine box_event ?hg (N := 3) ?hd (cs := #[.int .u8 a1_0, .int .u8 a1_1, .int .u8 a1_2, .int .u16 a1_3, .int .u16 a1_4, .float .f64 a1_5]) (t := 26) ?hr ?_; (case hd => rfl); (case hg => rfl); (case hr => first | (go_simp; done) | (go_simp; rfl)); intro gb247 hg w11 hbox hb; have n0_ := zA.mk (below_step (aL HB) hb); have n1_ := zA.mk (hbox); have n2_ := zA.mk ((by rw [hg]; exact (below_size (aL HB)) : w.heap.size ≤ gb247)); have n3_ := zA.mk ((by rw [hg]; exact (below_size (aL HB)) : w.heap.size ≤ gb247)); clear HB; have HB := n0_; have BK247 := n1_; have GW247 := n2_; have GE247 := n3_; clear n0_ n1_ n2_ n3_; clear hb hbox hg) | ((with_reducible refine gate_callee (f := 12) rfl ?_); refine goesL_ (some 15) rfl rfl Try.func12 (by kernel_rfl) rfl #[] rfl aT ?_; (with_reducible refine (l4_Awake.calls k  true _ A3.out (by first | exact ⟨rfl⟩ | exact hrt_)).mono ?_); rintro e w12 ⟨rfl, hb⟩; refine ⟨_, rfl, ?_⟩; have n0_ := zA.mk (blk_below (g := gb247) (o := .cells #[.int .u8 a1_0, .int .u8 a1_1, .int .u8 a1_2, .int .u16 a1_3, .int .u16 a1_4, .float .f64 a1_5] 26 (0, 0)) (aB BK247) hb); have n1_ := zA.mk (below_step (aL HB) hb); clear BK247; clear HB; have BK247 := n0_; have HB := n1_; clear n0_ n1_; (try clear hb); (try clear hb2); (try clear hk); (try clear hi)))
 have n0_ := zA.mk (zB BK247.out); have n1_ := zA.mk (below_drew1 HB.out); clear BK247; clear HB; have BK247 := n0_; have HB := n1_; clear n0_ n1_; refine start_ (n := 8) (S := fun w' => w'.cell? ⟨gb247, 0, none⟩ = some (.int .u8 a1_0) ∧ w'.cell? ⟨gb247, 1, none⟩ = some (.int .u8 a1_1) ∧ w'.cell? ⟨gb247, 2, none⟩ = some (.int .u8 a1_2) ∧ w'.cell? ⟨gb247, 3, none⟩ = some (.int .u16 a1_3) ∧ w'.cell? ⟨gb247, 4, none⟩ = some (.int .u16 a1_4) ∧ w'.cell? ⟨gb247, 5, none⟩ = some (.float .f64 a1_5)) (ds := []) #[false, false, false, false, false, false, false, false] (by kernel_rfl) rfl rfl ⟨(zE BK247.out 0).trans rfl, (zE BK247.out 1).trans rfl, (zE BK247.out 2).trans rfl, (zE BK247.out 3).trans rfl, (zE BK247.out 4).trans rfl, (zE BK247.out 5).trans rfl⟩ (fun hHeld => ?_); refine with_tabW l4_FirstLines.tab5 l4_FirstLines.bits5 (fun HT_ HW_ => ?_)
 generalize w12.drew = w13 at BK247 HB hHeld ⊢
 refine aP 0 (some 20) (tf_ 1 8) HT_ ?_
 refine take_ (i := 2) (N := some 22) (v := ?_) (a' := ?_) #[true, false, true, false, false, false, false, false] rfl rfl (take_ofW HT_.out HW_.out (by kernel_rfl)) (fun _ _ _ h => h) (Or.inl ⟨by rfl, ?_⟩) hHeld ?_ ?_
 rotate_left
 ·rintro w' ⟨s0, s1, s2, s3, s4, s5⟩
  go_simp
  with_reducible rfl
 rotate_left
 ·simp only [Act.put, sA_, sB_, sC_, i64_w, i32_w]
  rfl
 refine join_ (σ := Value × Value × Nat × Nat) 2 #[true, true, true, true, true, true, false, false] (fun s_ => [(21, .agg #[s_.1, s_.2.1]), (23, .agg #[.int .i64 t255, .int .i64 t256, .int .u8 t257, .int .i64 t258, .int .i64 t259, .float .f64 t260]), (5, .pointer (some ⟨s_.2.2.1, 0, none⟩)), (6, .pointer (some ⟨s_.2.2.2, 0, none⟩))]) (fun s_ w' => (w'.cell? ⟨gb247, 0, none⟩ = some (.int .u8 a1_0) ∧ w'.cell? ⟨gb247, 1, none⟩ = some (.int .u8 a1_1) ∧ w'.cell? ⟨gb247, 2, none⟩ = some (.int .u8 a1_2) ∧ w'.cell? ⟨gb247, 3, none⟩ = some (.int .u16 a1_3) ∧ w'.cell? ⟨gb247, 4, none⟩ = some (.int .u16 a1_4) ∧ w'.cell? ⟨gb247, 5, none⟩ = some (.float .f64 a1_5)) ∧ (Kd.R k61 61 w' w.heap.size (fun _ => True) s_.1 t249) ∧ (Kd.R (Kd.int .u8) 43 w' w.heap.size (fun _ => True) s_.2.1 t252) ∧ (w'.heap[gb247]? = some (.cells #[.int .u8 a1_0, .int .u8 a1_1, .int .u8 a1_2, .int .u16 a1_3, .int .u16 a1_4, .float .f64 a1_5] 26 (0, 0))) ∧ (w'.heap[s_.2.2.1]? = some (.cells #[.slice none 0 0, .slice none 0 0] 31 (0, 0))) ∧ (w'.heap[s_.2.2.2]? = some (.cells #[.int .i64 0, .int .i64 0, .int .u8 0, .int .i64 0, .int .i64 0, .float .f64 0] 35 (0, 0))) ∧ (w.heap.size ≤ s_.2.2.1) ∧ (w.heap.size ≤ s_.2.2.1) ∧ (gb247 ≠ s_.2.2.1) ∧ (s_.2.2.1 ≠ gb247) ∧ (s_.2.2.2 ≠ s_.2.2.1) ∧ (s_.2.2.1 ≠ s_.2.2.2) ∧ (w.heap.size ≤ s_.2.2.2) ∧ (w.heap.size ≤ s_.2.2.2) ∧ (gb247 ≠ s_.2.2.2) ∧ (s_.2.2.2 ≠ gb247) ∧ (Below w.heap.size w w')) ?_ ?_
 rotate_left
 ·intro hJ1_3_4_5
  refine par4_ (fuel := 2) (l' := #[true, true, true, true, true, true, false, false]) (i1 := 1) (i3 := 3) (i4 := 4) (i5 := 5) (σ := Value × Value) (cs4 := #[.slice none 0 0, .slice none 0 0]) (t4 := 31) (cs5 := #[.int .i64 0, .int .i64 0, .int .u8 0, .int .i64 0, .int .i64 0, .float .f64 0]) (t5 := 35) (fun s_ => .agg #[s_.1, s_.2]) (.agg #[.int .i64 t255, .int .i64 t256, .int .u8 t257, .int .i64 t258, .int .i64 t259, .float .f64 t260]) (par4_of HT_.out (by kernel_rfl)) rfl rfl rfl rfl rfl rfl rfl rfl rfl rfl (by decide) rfl (fun w_ => (w_.cell? ⟨gb247, 0, none⟩ = some (.int .u8 a1_0) ∧ w_.cell? ⟨gb247, 1, none⟩ = some (.int .u8 a1_1) ∧ w_.cell? ⟨gb247, 2, none⟩ = some (.int .u8 a1_2) ∧ w_.cell? ⟨gb247, 3, none⟩ = some (.int .u16 a1_3) ∧ w_.cell? ⟨gb247, 4, none⟩ = some (.int .u16 a1_4) ∧ w_.cell? ⟨gb247, 5, none⟩ = some (.float .f64 a1_5)) ∧ (w_.heap[gb247]? = some (.cells #[.int .u8 a1_0, .int .u8 a1_1, .int .u8 a1_2, .int .u16 a1_3, .int .u16 a1_4, .float .f64 a1_5] 26 (0, 0))) ∧ (Below w.heap.size w w_)) ?pgrow (fun _ hP_ => hP_.1) (fun s_ w_ => (Kd.R k61 61 w_ w.heap.size (fun _ => True) s_.1 t249) ∧ (Kd.R (Kd.int .u8) 43 w_ w.heap.size (fun _ => True) s_.2 t252)) ?pF (fun g_ => (w.heap.size ≤ g_) ∧ (gb247 ≠ g_) ∧ (g_ ≠ gb247)) ?pNew ?pc1 ?pc3 ?pc4 ?pc5 ?pPhi ?pcont
  case pgrow =>
   intro w0_ w1_ hP_ hb_; obtain ⟨hS_, k0_, k1_⟩ := hP_; have BK247 := zA.mk (by first | exact Kd.zN k0_ hb_ | exact blk_below k0_ hb_ | exact below_step k0_ hb_); have HB := zA.mk (by first | exact Kd.zN k1_ hb_ | exact blk_below k1_ hb_ | exact below_step k1_ hb_)
   exact ⟨⟨(zE BK247.out 0).trans rfl, (zE BK247.out 1).trans rfl, (zE BK247.out 2).trans rfl, (zE BK247.out 3).trans rfl, (zE BK247.out 4).trans rfl, (zE BK247.out 5).trans rfl⟩, BK247.out, HB.out⟩
  case pF => intro s_ w0_ w1_ hP_ hb_; obtain ⟨f0_, f1_⟩ := hP_; exact ⟨(by first | exact Kd.zN f0_ hb_ | exact blk_below f0_ hb_ | exact below_step f0_ hb_), (by first | exact Kd.zN f1_ hb_ | exact blk_below f1_ hb_ | exact below_step f1_ hb_)⟩
  case pNew => intro w0_ hP_; obtain ⟨hS_, k0_, k1_⟩ := hP_; (try have l0_ := blk_lt k0_); (try have m0_ := below_size k0_); (try have l1_ := blk_lt k1_); (try have m1_ := below_size k1_); refine ⟨?_, ?_, ?_⟩ <;> omega
  case pc1 =>
   intro a_ W_ K_ hev_ hP_ h_; obtain ⟨hS_, k0_, k1_⟩ := hP_; have BK247 := zA.mk k0_; have HB := zA.mk k1_
   refine goes_ Try.func13 (by kernel_rfl) rfl #[.slice A0 l0.length c0] (by rfl) rfl rfl (by simp only [List.map_toArray, List.map_cons, List.map_nil]; first | rfl | (simp (disch := decide) only [hev_]; rfl) | (rw [hev_ _ (by decide) (by decide) (by decide) (by decide)]; rfl)) ?_
   with_reducible refine (h3_Para.calls k _ _ l0 t249 t252 _ ?side1 ?side2 A8.out).mono ?_
   (case side1 => exact aA HR0 HB)
   (case side2 => exact HC0.out)
   rintro e w14 ⟨v250, v253, rfl, ho0, ho1, hb⟩
   refine ⟨_, rfl, ?_⟩
   exact h_ (v250, v253) _ hb ⟨(Kd.zQ ho0 (below_size (aL HB))), (Kd.zQ ho1 (below_size (aL HB)))⟩
  case pc3 =>
   intro a_ W_ K_ hev_ hP_ h_; obtain ⟨hS_, k0_, k1_⟩ := hP_; have BK247 := zA.mk k0_; have HB := zA.mk k1_
   refine goes_ Try.func14 (by kernel_rfl) rfl #[.agg #[.int .u8 a1_0, .int .u8 a1_1, .int .u8 a1_2, .int .u16 a1_3, .int .u16 a1_4, .float .f64 a1_5]] (by rfl) rfl rfl (by simp only [List.map_toArray, List.map_cons, List.map_nil]; first | rfl | (simp (disch := decide) only [hev_]; rfl) | (rw [hev_ _ (by decide) (by decide) (by decide) (by decide)]; rfl)) ?_
   with_reducible refine (h3_Config.calls a1_0 a1_1 a1_2 a1_3 a1_4 a1_5 t255 t256 t257 t258 t259 t260 _ A9.out).mono ?_
   rintro e w16 ⟨rfl, hb⟩
   refine ⟨_, rfl, ?_⟩
   exact h_ _ hb
  case pc4 => intro a_ W_; first | (go_simp; done) | (go_simp; rfl)
  case pc5 => intro a_ W_; first | (go_simp; done) | (go_simp; rfl)
  case pPhi => exact ⟨hHeld, BK247.out, HB.out⟩
  case pcont => intro s_ gb261 gb262 w18 hP_ hF_ y4_ y5_ x4_ x5_ he_; obtain ⟨hS_, k0_, k1_⟩ := hP_; obtain ⟨v250, v253⟩ := s_; obtain ⟨f0_, f1_⟩ := hF_; exact hJ1_3_4_5 (v250, v253, gb261, gb262) _ ⟨hS_, f0_, f1_, k0_, y4_, y5_, x4_.1, x4_.1, x4_.2.1, x4_.2.2, (Ne.symm he_), he_, x5_.1, x5_.1, x5_.2.1, x5_.2.2, k1_⟩
 rintro ⟨v250, v253, gb261, gb262⟩ w18 ⟨hS_, h0_, h1_, h2_, h3_, h4_, h5_, h6_, h7_, h8_, h9_, h10_, h11_, h12_, h13_, h14_, h15_⟩
 have n0_ : zA (Kd.R k61 61 w18 w.heap.size (fun _ => True) v250 t249) := ⟨h0_⟩
 have n1_ : zA (Kd.R (Kd.int .u8) 43 w18 w.heap.size (fun _ => True) v253 t252) := ⟨h1_⟩
 have n2_ : zA (w18.heap[gb247]? = some (.cells #[.int .u8 a1_0, .int .u8 a1_1, .int .u8 a1_2, .int .u16 a1_3, .int .u16 a1_4, .float .f64 a1_5] 26 (0, 0))) := ⟨h2_⟩
 have n3_ : zA (w18.heap[gb261]? = some (.cells #[.slice none 0 0, .slice none 0 0] 31 (0, 0))) := ⟨h3_⟩
 have n4_ : zA (w18.heap[gb262]? = some (.cells #[.int .i64 0, .int .i64 0, .int .u8 0, .int .i64 0, .int .i64 0, .float .f64 0] 35 (0, 0))) := ⟨h4_⟩
 have n5_ : zA (w.heap.size ≤ gb261) := ⟨h5_⟩
 have n6_ : zA (w.heap.size ≤ gb261) := ⟨h6_⟩
 have n7_ : zA (gb247 ≠ gb261) := ⟨h7_⟩
 have n8_ : zA (gb261 ≠ gb247) := ⟨h8_⟩
 have n9_ : zA (gb262 ≠ gb261) := ⟨h9_⟩
 have n10_ : zA (gb261 ≠ gb262) := ⟨h10_⟩
 have n11_ : zA (w.heap.size ≤ gb262) := ⟨h11_⟩
 have n12_ : zA (w.heap.size ≤ gb262) := ⟨h12_⟩
 have n13_ : zA (gb247 ≠ gb262) := ⟨h13_⟩
 have n14_ : zA (gb262 ≠ gb247) := ⟨h14_⟩
 have n15_ : zA (Below w.heap.size w w18) := ⟨h15_⟩
 clear BK247 HB h0_ h1_ h2_ h3_ h4_ h5_ h6_ h7_ h8_ h9_ h10_ h11_ h12_ h13_ h14_ h15_; have HO251 := n0_; have HO254 := n1_; have BK247 := n2_; have BK261 := n3_; have BK262 := n4_; have GW261 := n5_; have GE261 := n6_; have NB247_261 := n7_; have NB261_247 := n8_; have NB262_261 := n9_; have NB261_262 := n10_; have GW262 := n11_; have GE262 := n12_; have NB247_262 := n13_; have NB262_247 := n14_; have HB := n15_; clear n0_ n1_ n2_ n3_ n4_ n5_ n6_ n7_ n8_ n9_ n10_ n11_ n12_ n13_ n14_ n15_; have hHeld : w18.cell? ⟨gb247, 0, none⟩ = some (.int .u8 a1_0) ∧ w18.cell? ⟨gb247, 1, none⟩ = some (.int .u8 a1_1) ∧ w18.cell? ⟨gb247, 2, none⟩ = some (.int .u8 a1_2) ∧ w18.cell? ⟨gb247, 3, none⟩ = some (.int .u16 a1_3) ∧ w18.cell? ⟨gb247, 4, none⟩ = some (.int .u16 a1_4) ∧ w18.cell? ⟨gb247, 5, none⟩ = some (.float .f64 a1_5) := hS_
 obtain ⟨Ao19, co19, eo19⟩ := Kd.zP HO251.out; (first | subst eo19 | (injection eo19 with f1_ f2_ f3_; have f4_ := f1_.symm; have f5_ := f3_.symm; clear f1_ f2_ f3_; subst f4_; subst f5_))
 obtain ⟨Ao21, co21, eo21⟩ := Kd.zP HO254.out; (first | subst eo21 | (injection eo21 with f1_ f2_ f3_; have f4_ := f1_.symm; have f5_ := f3_.symm; clear f1_ f2_ f3_; subst f4_; subst f5_))
 refine norm_ (a' := ?_) ?_ ?_
 rotate_left
 ·simp only [putAll, Act.put, sA_, sB_, sC_]
  rfl
 refine one_ (i := 6) (N := none) #[true, true, true, true, true, true, true, false] rfl rfl (one_of HT_.out (by kernel_rfl)) (by decide) (fun K hK => ?_)
 have hs20 : w18.cell? ⟨gb261, 0, none⟩ = some (.slice none 0 0) := (zE BK261.out 0).trans rfl
 have hfs20 := blk_frozen BK261.out 0; have hns20_0 := NB247_261.out; have hns20_2 := NB262_261.out; have hms20_0 := NB261_247.out; have hms20_2 := NB261_262.out; have hs22 : w18.cell? ⟨gb261, 1, none⟩ = some (.slice none 0 0) := (zE BK261.out 1).trans rfl
 have hfs22 := blk_frozen BK261.out 1; have hns22_0 := NB247_261.out; have hns22_2 := NB262_261.out; have hms22_0 := NB261_247.out; have hms22_2 := NB261_262.out; refine skip_ (w1 := ?_) (by rfl) rfl ?_ ?_
 rotate_left
 ·go_simp
  rfl
 refine hK.out _ _ ⟨((cell_far (p := ⟨gb261, _, none⟩) NB247_261.out _).trans (((cell_far (p := ⟨gb261, _, none⟩) NB247_261.out _).trans (hHeld.1)))), ((cell_far (p := ⟨gb261, _, none⟩) NB247_261.out _).trans (((cell_far (p := ⟨gb261, _, none⟩) NB247_261.out _).trans (hHeld.2.1)))), ((cell_far (p := ⟨gb261, _, none⟩) NB247_261.out _).trans (((cell_far (p := ⟨gb261, _, none⟩) NB247_261.out _).trans (hHeld.2.2.1)))), ((cell_far (p := ⟨gb261, _, none⟩) NB247_261.out _).trans (((cell_far (p := ⟨gb261, _, none⟩) NB247_261.out _).trans (hHeld.2.2.2.1)))), ((cell_far (p := ⟨gb261, _, none⟩) NB247_261.out _).trans (((cell_far (p := ⟨gb261, _, none⟩) NB247_261.out _).trans (hHeld.2.2.2.2.1)))), ((cell_far (p := ⟨gb261, _, none⟩) NB247_261.out _).trans (((cell_far (p := ⟨gb261, _, none⟩) NB247_261.out _).trans (hHeld.2.2.2.2.2))))⟩ (fun hHeld => ?_)
 clear hK K; refine one_ (i := 7) (N := none) #[true, true, true, true, true, true, true, true] rfl rfl (one_of HT_.out (by kernel_rfl)) (by decide) (fun K hK => ?_)
 have hs23 : w18.cell? ⟨gb262, 0, none⟩ = some (.int .i64 0) := (zE BK262.out 0).trans rfl
 have hfs23 := blk_frozen BK262.out 0; have hns23_0 := NB247_262.out; have hns23_1 := NB261_262.out; have hms23_0 := NB262_247.out; have hms23_1 := NB262_261.out; have hs24 : w18.cell? ⟨gb262, 1, none⟩ = some (.int .i64 0) := (zE BK262.out 1).trans rfl
 have hfs24 := blk_frozen BK262.out 1; have hns24_0 := NB247_262.out; have hns24_1 := NB261_262.out; have hms24_0 := NB262_247.out; have hms24_1 := NB262_261.out; have hs25 : w18.cell? ⟨gb262, 2, none⟩ = some (.int .u8 0) := (zE BK262.out 2).trans rfl
 have hfs25 := blk_frozen BK262.out 2; have hns25_0 := NB247_262.out; have hns25_1 := NB261_262.out; have hms25_0 := NB262_247.out; have hms25_1 := NB262_261.out; have hs26 : w18.cell? ⟨gb262, 3, none⟩ = some (.int .i64 0) := (zE BK262.out 3).trans rfl
 have hfs26 := blk_frozen BK262.out 3; have hns26_0 := NB247_262.out; have hns26_1 := NB261_262.out; have hms26_0 := NB262_247.out; have hms26_1 := NB262_261.out; have hs27 : w18.cell? ⟨gb262, 4, none⟩ = some (.int .i64 0) := (zE BK262.out 4).trans rfl
 have hfs27 := blk_frozen BK262.out 4; have hns27_0 := NB247_262.out; have hns27_1 := NB261_262.out; have hms27_0 := NB262_247.out; have hms27_1 := NB262_261.out; have hs28 : w18.cell? ⟨gb262, 5, none⟩ = some (.float .f64 0) := (zE BK262.out 5).trans rfl
 have hfs28 := blk_frozen BK262.out 5; have hns28_0 := NB247_262.out; have hns28_1 := NB261_262.out; have hms28_0 := NB262_247.out; have hms28_1 := NB262_261.out; refine skip_ (w1 := ?_) (by rfl) rfl ?_ ?_
 rotate_left
 ·go_simp
  rfl
 refine hK.out _ _ ⟨((cell_far (p := ⟨gb262, _, none⟩) NB247_262.out _).trans (((cell_far (p := ⟨gb262, _, none⟩) NB247_262.out _).trans (((cell_far (p := ⟨gb262, _, none⟩) NB247_262.out _).trans (((cell_far (p := ⟨gb262, _, none⟩) NB247_262.out _).trans (((cell_far (p := ⟨gb262, _, none⟩) NB247_262.out _).trans (((cell_far (p := ⟨gb262, _, none⟩) NB247_262.out _).trans (hHeld.1)))))))))))), ((cell_far (p := ⟨gb262, _, none⟩) NB247_262.out _).trans (((cell_far (p := ⟨gb262, _, none⟩) NB247_262.out _).trans (((cell_far (p := ⟨gb262, _, none⟩) NB247_262.out _).trans (((cell_far (p := ⟨gb262, _, none⟩) NB247_262.out _).trans (((cell_far (p := ⟨gb262, _, none⟩) NB247_262.out _).trans (((cell_far (p := ⟨gb262, _, none⟩) NB247_262.out _).trans (hHeld.2.1)))))))))))), ((cell_far (p := ⟨gb262, _, none⟩) NB247_262.out _).trans (((cell_far (p := ⟨gb262, _, none⟩) NB247_262.out _).trans (((cell_far (p := ⟨gb262, _, none⟩) NB247_262.out _).trans (((cell_far (p := ⟨gb262, _, none⟩) NB247_262.out _).trans (((cell_far (p := ⟨gb262, _, none⟩) NB247_262.out _).trans (((cell_far (p := ⟨gb262, _, none⟩) NB247_262.out _).trans (hHeld.2.2.1)))))))))))), ((cell_far (p := ⟨gb262, _, none⟩) NB247_262.out _).trans (((cell_far (p := ⟨gb262, _, none⟩) NB247_262.out _).trans (((cell_far (p := ⟨gb262, _, none⟩) NB247_262.out _).trans (((cell_far (p := ⟨gb262, _, none⟩) NB247_262.out _).trans (((cell_far (p := ⟨gb262, _, none⟩) NB247_262.out _).trans (((cell_far (p := ⟨gb262, _, none⟩) NB247_262.out _).trans (hHeld.2.2.2.1)))))))))))), ((cell_far (p := ⟨gb262, _, none⟩) NB247_262.out _).trans (((cell_far (p := ⟨gb262, _, none⟩) NB247_262.out _).trans (((cell_far (p := ⟨gb262, _, none⟩) NB247_262.out _).trans (((cell_far (p := ⟨gb262, _, none⟩) NB247_262.out _).trans (((cell_far (p := ⟨gb262, _, none⟩) NB247_262.out _).trans (((cell_far (p := ⟨gb262, _, none⟩) NB247_262.out _).trans (hHeld.2.2.2.2.1)))))))))))), ((cell_far (p := ⟨gb262, _, none⟩) NB247_262.out _).trans (((cell_far (p := ⟨gb262, _, none⟩) NB247_262.out _).trans (((cell_far (p := ⟨gb262, _, none⟩) NB247_262.out _).trans (((cell_far (p := ⟨gb262, _, none⟩) NB247_262.out _).trans (((cell_far (p := ⟨gb262, _, none⟩) NB247_262.out _).trans (((cell_far (p := ⟨gb262, _, none⟩) NB247_262.out _).trans (hHeld.2.2.2.2.2))))))))))))⟩ (fun hHeld => ?_)
 clear hK K; refine done_ (done_of HT_.out (by kernel_rfl)) ?_
 have hnb29 := NB261_247.out; have hnc29 := NB247_261.out; have hnb30 := NB261_262.out; have hnc30 := NB262_261.out; obtain ⟨hcz31_0, hcz31_1, hfz31_0, hfz31_1⟩ := aC2 BK261; try go_wp2_with (first | ((with_reducible refine gate_callee (f := 15) rfl ?_); refine goesL_ (some 25) rfl rfl Try.func15 (by kernel_rfl) rfl #[.agg #[.slice Ao19 t249.length co19, .slice Ao21 t252.length co21]] rfl aT ?_; (with_reducible refine (r0_Parts.calls k _ _ t249 _ _ t252 t263 _ ?side1 ?side2 ?side3 ?side4 A10.out).mono ?_); (case side1 => refine (Kd.zM (e := 61) (base := w.heap.size) (ok := fun k_ => True) (n := t249.length) (c := co19) ?_).2.2; exact (by (with_reducible repeat (first | apply Kd.zF | apply Kd.zG | apply Kd.zH)); exact (Kd.zR (Kd.zR (Kd.zO (p := ⟨gb262, 5, none⟩) (Kd.zO (p := ⟨gb262, 4, none⟩) (Kd.zO (p := ⟨gb262, 3, none⟩) (Kd.zO (p := ⟨gb262, 2, none⟩) (Kd.zO (p := ⟨gb262, 1, none⟩) (Kd.zO (p := ⟨gb262, 0, none⟩) (Kd.zO (p := ⟨gb261, 1, none⟩) (Kd.zO (p := ⟨gb261, 0, none⟩) (Kd.zS (Kd.zS HO251.out BK261.out (by decide)) BK262.out (by decide)) (fun _ hk => hk.1.2) (.slice Ao19 t249.length co19)) (fun _ hk => hk.1.2) (.slice Ao21 t252.length co21)) (fun _ hk => hk.2) (.int .i64 t255)) (fun _ hk => hk.2) (.int .i64 t256)) (fun _ hk => hk.2) (.int .u8 t257)) (fun _ hk => hk.2) (.int .i64 t258)) (fun _ hk => hk.2) (.int .i64 t259)) (fun _ hk => hk.2) (.float .f64 t260)) (fun _ h_ => h_.1)) (fun _ h_ => h_.1)))); (case side2 => exact (Kd.zM HO251.out).2.1); (case side3 => refine (Kd.zM (e := 43) (base := w.heap.size) (ok := fun k_ => True) (n := t252.length) (c := co21) ?_).2.2; exact (by (with_reducible repeat (first | apply Kd.zF | apply Kd.zG | apply Kd.zH)); exact (Kd.zR (Kd.zR (Kd.zO (p := ⟨gb262, 5, none⟩) (Kd.zO (p := ⟨gb262, 4, none⟩) (Kd.zO (p := ⟨gb262, 3, none⟩) (Kd.zO (p := ⟨gb262, 2, none⟩) (Kd.zO (p := ⟨gb262, 1, none⟩) (Kd.zO (p := ⟨gb262, 0, none⟩) (Kd.zO (p := ⟨gb261, 1, none⟩) (Kd.zO (p := ⟨gb261, 0, none⟩) (Kd.zS (Kd.zS HO254.out BK261.out (by decide)) BK262.out (by decide)) (fun _ hk => hk.1.2) (.slice Ao19 t249.length co19)) (fun _ hk => hk.1.2) (.slice Ao21 t252.length co21)) (fun _ hk => hk.2) (.int .i64 t255)) (fun _ hk => hk.2) (.int .i64 t256)) (fun _ hk => hk.2) (.int .u8 t257)) (fun _ hk => hk.2) (.int .i64 t258)) (fun _ hk => hk.2) (.int .i64 t259)) (fun _ hk => hk.2) (.float .f64 t260)) (fun _ h_ => h_.1)) (fun _ h_ => h_.1)))); (case side4 => exact (Kd.zM HO254.out).2.1); rintro e w32 ⟨v264, rfl, ho0, hb⟩; refine ⟨_, rfl, ?_⟩; have n0_ := zA.mk (Kd.zN (by (with_reducible repeat (first | apply Kd.zF | apply Kd.zG | apply Kd.zH)); exact (Kd.zR (Kd.zR (Kd.zO (p := ⟨gb262, 5, none⟩) (Kd.zO (p := ⟨gb262, 4, none⟩) (Kd.zO (p := ⟨gb262, 3, none⟩) (Kd.zO (p := ⟨gb262, 2, none⟩) (Kd.zO (p := ⟨gb262, 1, none⟩) (Kd.zO (p := ⟨gb262, 0, none⟩) (Kd.zO (p := ⟨gb261, 1, none⟩) (Kd.zO (p := ⟨gb261, 0, none⟩) (Kd.zS (Kd.zS HO251.out BK261.out (by decide)) BK262.out (by decide)) (fun _ hk => hk.1.2) (.slice Ao19 t249.length co19)) (fun _ hk => hk.1.2) (.slice Ao21 t252.length co21)) (fun _ hk => hk.2) (.int .i64 t255)) (fun _ hk => hk.2) (.int .i64 t256)) (fun _ hk => hk.2) (.int .u8 t257)) (fun _ hk => hk.2) (.int .i64 t258)) (fun _ hk => hk.2) (.int .i64 t259)) (fun _ hk => hk.2) (.float .f64 t260)) (fun _ h_ => h_.1)) (fun _ h_ => h_.1))) hb); have n1_ := zA.mk (Kd.zN (by (with_reducible repeat (first | apply Kd.zF | apply Kd.zG | apply Kd.zH)); exact (Kd.zR (Kd.zR (Kd.zO (p := ⟨gb262, 5, none⟩) (Kd.zO (p := ⟨gb262, 4, none⟩) (Kd.zO (p := ⟨gb262, 3, none⟩) (Kd.zO (p := ⟨gb262, 2, none⟩) (Kd.zO (p := ⟨gb262, 1, none⟩) (Kd.zO (p := ⟨gb262, 0, none⟩) (Kd.zO (p := ⟨gb261, 1, none⟩) (Kd.zO (p := ⟨gb261, 0, none⟩) (Kd.zS (Kd.zS HO254.out BK261.out (by decide)) BK262.out (by decide)) (fun _ hk => hk.1.2) (.slice Ao19 t249.length co19)) (fun _ hk => hk.1.2) (.slice Ao21 t252.length co21)) (fun _ hk => hk.2) (.int .i64 t255)) (fun _ hk => hk.2) (.int .i64 t256)) (fun _ hk => hk.2) (.int .u8 t257)) (fun _ hk => hk.2) (.int .i64 t258)) (fun _ hk => hk.2) (.int .i64 t259)) (fun _ hk => hk.2) (.float .f64 t260)) (fun _ h_ => h_.1)) (fun _ h_ => h_.1))) hb); have n2_ := zA.mk (Kd.zQ ho0 (below_size (aL HB))); have n3_ := zA.mk (blk_below (g := gb247) (o := .cells #[.int .u8 a1_0, .int .u8 a1_1, .int .u8 a1_2, .int .u16 a1_3, .int .u16 a1_4, .float .f64 a1_5] 26 (0, 0)) (aB BK247) hb); have n4_ := zA.mk (blk_below (g := gb261) (o := .cells #[.slice Ao19 t249.length co19, .slice Ao21 t252.length co21] 31 (0, 0)) (by (with_reducible repeat (first | refine zD ?_ _ | refine zB ?_ | refine zC ?_ _)); refine blk_far ?_ NB261_262.out _; (with_reducible repeat (first | refine zD ?_ _ | refine zB ?_ | refine zC ?_ _)); refine blk_far ?_ NB261_262.out _; (with_reducible repeat (first | refine zD ?_ _ | refine zB ?_ | refine zC ?_ _)); refine blk_far ?_ NB261_262.out _; (with_reducible repeat (first | refine zD ?_ _ | refine zB ?_ | refine zC ?_ _)); refine blk_far ?_ NB261_262.out _; (with_reducible repeat (first | refine zD ?_ _ | refine zB ?_ | refine zC ?_ _)); refine blk_far ?_ NB261_262.out _; (with_reducible repeat (first | refine zD ?_ _ | refine zB ?_ | refine zC ?_ _)); refine blk_far ?_ NB261_262.out _; (with_reducible repeat (first | refine zD ?_ _ | refine zB ?_ | refine zC ?_ _)); refine blk_put (cs := #[.slice Ao19 t249.length co19, .slice none 0 0]) ?_ 1 _ rfl; (with_reducible repeat (first | refine zD ?_ _ | refine zB ?_ | refine zC ?_ _)); refine blk_put (cs := #[.slice none 0 0, .slice none 0 0]) ?_ 0 _ rfl; (with_reducible repeat (first | refine zD ?_ _ | refine zB ?_ | refine zC ?_ _)); exact BK261.out) hb); have n5_ := zA.mk (blk_below (g := gb262) (o := .cells #[.int .i64 t255, .int .i64 t256, .int .u8 t257, .int .i64 t258, .int .i64 t259, .float .f64 t260] 35 (0, 0)) (by (with_reducible repeat (first | refine zD ?_ _ | refine zB ?_ | refine zC ?_ _)); refine blk_put (cs := #[.int .i64 t255, .int .i64 t256, .int .u8 t257, .int .i64 t258, .int .i64 t259, .float .f64 0]) ?_ 5 _ rfl; (with_reducible repeat (first | refine zD ?_ _ | refine zB ?_ | refine zC ?_ _)); refine blk_put (cs := #[.int .i64 t255, .int .i64 t256, .int .u8 t257, .int .i64 t258, .int .i64 0, .float .f64 0]) ?_ 4 _ rfl; (with_reducible repeat (first | refine zD ?_ _ | refine zB ?_ | refine zC ?_ _)); refine blk_put (cs := #[.int .i64 t255, .int .i64 t256, .int .u8 t257, .int .i64 0, .int .i64 0, .float .f64 0]) ?_ 3 _ rfl; (with_reducible repeat (first | refine zD ?_ _ | refine zB ?_ | refine zC ?_ _)); refine blk_put (cs := #[.int .i64 t255, .int .i64 t256, .int .u8 0, .int .i64 0, .int .i64 0, .float .f64 0]) ?_ 2 _ rfl; (with_reducible repeat (first | refine zD ?_ _ | refine zB ?_ | refine zC ?_ _)); refine blk_put (cs := #[.int .i64 t255, .int .i64 0, .int .u8 0, .int .i64 0, .int .i64 0, .float .f64 0]) ?_ 1 _ rfl; (with_reducible repeat (first | refine zD ?_ _ | refine zB ?_ | refine zC ?_ _)); refine blk_put (cs := #[.int .i64 0, .int .i64 0, .int .u8 0, .int .i64 0, .int .i64 0, .float .f64 0]) ?_ 0 _ rfl; (with_reducible repeat (first | refine zD ?_ _ | refine zB ?_ | refine zC ?_ _)); refine blk_far ?_ NB262_261.out _; (with_reducible repeat (first | refine zD ?_ _ | refine zB ?_ | refine zC ?_ _)); refine blk_far ?_ NB262_261.out _; (with_reducible repeat (first | refine zD ?_ _ | refine zB ?_ | refine zC ?_ _)); exact BK262.out) hb); have n6_ := zA.mk (below_step (aL HB) hb); clear HO251; clear HO254; clear BK247; clear BK261; clear BK262; clear HB; have HO251 := n0_; have HO254 := n1_; have HO265 := n2_; have BK247 := n3_; have BK261 := n4_; have BK262 := n5_; have HB := n6_; clear n0_ n1_ n2_ n3_ n4_ n5_ n6_; (try clear hb); (try clear hb2); (try clear hk); (try clear hi); (try clear ho0); obtain ⟨Ao33, co33, eo33⟩ := Kd.zP HO265.out; subst eo33))
 go_loopg [7, 27] k (fun kq v7 v27 w' => ∃ (x7_1 : Int) (x27_1 : Int), v7 = .int .i64 x7_1 ∧ v27 = .int .i64 x27_1 ∧ zA (l4_FirstLines.l0 kq x7_1 t263 (t263.length : Int) x27_1 t249 t252 t255 t256 t257 t258 t259 t260 = some r) ∧ zA (kq ≤ k) ∧ zA (Kd.R (Kd.int .i64) 3 w' w.heap.size (fun _ => True) (.slice Ao33 t263.length co33) t263) ∧ zA (Kd.R k61 61 w' w.heap.size (fun _ => True) (.slice Ao19 t249.length co19) t249) ∧ zA (Kd.R (Kd.int .u8) 43 w' w.heap.size (fun _ => True) (.slice Ao21 t252.length co21) t252) ∧ zA (w'.heap[gb247]? = some (.cells #[.int .u8 a1_0, .int .u8 a1_1, .int .u8 a1_2, .int .u16 a1_3, .int .u16 a1_4, .float .f64 a1_5] 26 (0, 0))) ∧ zA (w'.heap[gb261]? = some (.cells #[(.slice Ao19 t249.length co19), (.slice Ao21 t252.length co21)] 31 (0, 0))) ∧ zA (w'.heap[gb262]? = some (.cells #[.int .i64 t255, .int .i64 t256, .int .u8 t257, .int .i64 t258, .int .i64 t259, .float .f64 t260] 35 (0, 0))) ∧ zA (Below w.heap.size w w'))
 case atStart => exact ⟨(0), (0), aZ, aZ, H', ⟨Nat.le_refl _⟩, ⟨aR HO265⟩, ⟨aR HO251⟩, ⟨aR HO254⟩, ⟨aB BK247⟩, ⟨aB BK261⟩, ⟨aB BK262⟩, ⟨aL HB⟩⟩
 clear H'; try clear c1
 try clear c2
 try clear p2
 try clear c3
 try clear c14
 try clear c15
 try clear c29
 try clear c30
 try clear hcz31_0
 try clear hcz31_1
 try clear hfz31_0
 try clear hfz31_1
 obtain ⟨x7_1, x27_1, rfl, rfl, HA, HK1, HO_25, HO_262000, HO_262001, BK247, BK261, BK262, HB⟩ := hrel; cases gk with
 | zero => exact absurd HA.out (by simp [l4_FirstLines.l0])
 | succ k1 =>
  have H := HA.out; clear HA; simp only [l4_FirstLines.l0] at H; by_cases c34 : x27_1 < (t263.length : Int)
  rotate_left
  ·rw [if_neg c34] at H
   have c34b0 : decide (x27_1 < (t263.length : Int)) = false := decide_eq_false c34
   clear c34; obtain rfl := Option.some.inj H
   go_wp2
   go_ret
   exact ⟨aX, aL HB⟩
  rw [if_pos c34] at H; have c34b0 : decide (x27_1 < (t263.length : Int)) = true := decide_eq_true c34
  clear c34; by_cases c35 : 0 ≤ x27_1
  rotate_left
  ·rw [if_neg c35] at H
   exact absurd H (by simp)
  rw [if_pos c35] at H; have c35b0 : decide (0 ≤ x27_1) = true := decide_eq_true c35
  clear c35; by_cases c36 : x27_1 < (t263.length : Int)
  rotate_left
  ·rw [if_neg c36] at H
   exact absurd H (by simp)
  rw [if_pos c36] at H; have c36b0 : decide (x27_1 < (t263.length : Int)) = true := decide_eq_true c36
  clear c36; replace H := Option.bind_eq_some_iff.mp H; obtain ⟨t267, A370, H⟩ := H; replace H : (l4_FirstLines.l1 k1 (rd t263 x27_1) x7_1 t263 (t263.length : Int) x27_1 t267 (t267.length : Int) 0 t249 t252 t255 t256 t257 t258 t259 t260) = some r := H; have A37 := zA.mk A370; clear A370; have H' := zA.mk H
  clear H; have p266 : 0 ≤ (x27_1 : Int) := aD
  have q266 : x27_1 < (t263.length : Int) := aD
  obtain ⟨ad266, e266, hx266_0⟩ := Kd.at_int (Kd.zM HO_25.out).2.2 x27_1 p266 q266; cases e266
  replace p266 := eq_true p266; replace q266 := eq_true q266; have hnb38 := NB261_247.out; have hnc38 := NB247_261.out; have hnb39 := NB261_262.out; have hnc39 := NB262_261.out; obtain ⟨hcz40_0, hcz40_1, hfz40_0, hfz40_1⟩ := aC2 BK261; have hnb41 := NB262_247.out; have hnc41 := NB247_262.out; obtain ⟨hcz42_0, hcz42_1, hcz42_2, hcz42_3, hcz42_4, hcz42_5, hfz42_0, hfz42_1, hfz42_2, hfz42_3, hfz42_4, hfz42_5⟩ := aC6 BK262; go_wp2_with (first | ((with_reducible refine gate_callee (f := 17) rfl ?_); refine goesL_ (some 36) rfl rfl Try.func17 (by kernel_rfl) rfl #[.agg #[.slice Ao19 t249.length co19, .slice Ao21 t252.length co21], .int .i64 x7_1, .int .i64 (rd t263 x27_1), .agg #[.int .i64 t255, .int .i64 t256, .int .u8 t257, .int .i64 t258, .int .i64 t259, .float .f64 t260]] rfl aT ?_; (with_reducible refine (first_Break.calls k1 _ _ t249 _ _ t252 x7_1 (rd t263 x27_1) t255 t256 t257 t258 t259 t260 t267 _ ?side1 ?side2 ?side3 ?side4 A37.out).mono ?_); (case side1 => exact aF HO_262000); (case side2 => exact (Kd.zM HO_262000.out).2.1); (case side3 => exact aF HO_262001); (case side4 => exact (Kd.zM HO_262001.out).2.1); rintro e w43 ⟨v268, rfl, ho0, hb⟩; refine ⟨_, rfl, ?_⟩; have n0_ := zA.mk (Kd.zN (aR HO_25) hb); have n1_ := zA.mk (Kd.zN (aR HO_262000) hb); have n2_ := zA.mk (Kd.zN (aR HO_262001) hb); have n3_ := zA.mk (Kd.zQ ho0 (below_size (aL HB))); have n4_ := zA.mk (blk_below (g := gb247) (o := .cells #[.int .u8 a1_0, .int .u8 a1_1, .int .u8 a1_2, .int .u16 a1_3, .int .u16 a1_4, .float .f64 a1_5] 26 (0, 0)) (aB BK247) hb); have n5_ := zA.mk (blk_below (g := gb261) (o := .cells #[.slice Ao19 t249.length co19, .slice Ao21 t252.length co21] 31 (0, 0)) (aB BK261) hb); have n6_ := zA.mk (blk_below (g := gb262) (o := .cells #[.int .i64 t255, .int .i64 t256, .int .u8 t257, .int .i64 t258, .int .i64 t259, .float .f64 t260] 35 (0, 0)) (aB BK262) hb); have n7_ := zA.mk (below_step (aL HB) hb); clear HO_25; clear HO_262000; clear HO_262001; clear BK247; clear BK261; clear BK262; clear HB; have HO_25 := n0_; have HO_262000 := n1_; have HO_262001 := n2_; have HO269 := n3_; have BK247 := n4_; have BK261 := n5_; have BK262 := n6_; have HB := n7_; clear n0_ n1_ n2_ n3_ n4_ n5_ n6_ n7_; (try clear hb); (try clear hb2); (try clear hk); (try clear hi); (try clear ho0); obtain ⟨Ao44, co44, eo44⟩ := Kd.zP HO269.out; subst eo44))
  go_loopg [10, 38] k1 (fun kq v10 v38 w' => ∃ (x10_2 : Int) (x38_2 : Int), v10 = .int .i64 x10_2 ∧ v38 = .int .i64 x38_2 ∧ zA (l4_FirstLines.l1 kq (rd t263 x27_1) x10_2 t263 (t263.length : Int) x27_1 t267 (t267.length : Int) x38_2 t249 t252 t255 t256 t257 t258 t259 t260 = some r) ∧ zA (kq ≤ k1) ∧ zA (Kd.R (Kd.int .i64) 3 w' w.heap.size (fun _ => True) (.slice (some ad266) t263.length co33) t263) ∧ zA (Kd.R k45 45 w' w.heap.size (fun _ => True) (.slice Ao44 t267.length co44) t267) ∧ zA (Kd.R k61 61 w' w.heap.size (fun _ => True) (.slice Ao19 t249.length co19) t249) ∧ zA (Kd.R (Kd.int .u8) 43 w' w.heap.size (fun _ => True) (.slice Ao21 t252.length co21) t252) ∧ zA (w'.heap[gb247]? = some (.cells #[.int .u8 a1_0, .int .u8 a1_1, .int .u8 a1_2, .int .u16 a1_3, .int .u16 a1_4, .float .f64 a1_5] 26 (0, 0))) ∧ zA (w'.heap[gb261]? = some (.cells #[(.slice Ao19 t249.length co19), (.slice Ao21 t252.length co21)] 31 (0, 0))) ∧ zA (w'.heap[gb262]? = some (.cells #[.int .i64 t255, .int .i64 t256, .int .u8 t257, .int .i64 t258, .int .i64 t259, .float .f64 t260] 35 (0, 0))) ∧ zA (Below w.heap.size w w'))
  case atStart => exact ⟨(x7_1), (0), aZ, aZ, H', ⟨Nat.le_refl _⟩, ⟨aR HO_25⟩, ⟨aR HO269⟩, ⟨aR HO_262000⟩, ⟨aR HO_262001⟩, ⟨aB BK247⟩, ⟨aB BK261⟩, ⟨aB BK262⟩, ⟨aL HB⟩⟩
  clear H'; try clear c1
  try clear c2
  try clear p2
  try clear q2
  try clear hx2
  try clear c3
  try clear c4
  try clear c14
  try clear c15
  try clear c17
  try clear p26
  try clear q26
  try clear hx26
  try clear c29
  try clear c30
  try clear c34
  try clear c34b0
  try clear c35
  try clear c35b0
  try clear c36
  try clear c36b0
  try clear c38
  try clear c39
  try clear c41
  try clear hcz31_0
  try clear hcz31_1
  try clear hcz40_0
  try clear hcz40_1
  try clear hcz42_0
  try clear hcz42_1
  try clear hcz42_2
  try clear hcz42_3
  try clear hcz42_4
  try clear hcz42_5
  try clear hfz31_0
  try clear hfz31_1
  try clear hfz40_0
  try clear hfz40_1
  try clear hfz42_0
  try clear hfz42_1
  try clear hfz42_2
  try clear hfz42_3
  try clear hfz42_4
  try clear hfz42_5
  try clear hx266_0
  try clear p2
  try clear p266
  try clear q266
  obtain ⟨x10_2, x38_2, rfl, rfl, HA, HK2, HO_25, HO_36, HO_262000, HO_262001, BK247, BK261, BK262, HB⟩ := hrel; cases gk with
  | zero => exact absurd HA.out (by simp [l4_FirstLines.l1])
  | succ k2 =>
   have H := HA.out; clear HA; simp only [l4_FirstLines.l1] at H; by_cases c45 : x38_2 < (t267.length : Int)
   rotate_left
   ·rw [if_neg c45] at H
    have c45b0 : decide (x38_2 < (t267.length : Int)) = false := decide_eq_false c45
    clear c45; by_cases c119 : x10_2 = (rd t263 x27_1)
    rotate_left
    ·rw [if_neg c119] at H
     have c119b0 : (x10_2 == (rd t263 x27_1)) = false := beq_eq_false_iff_ne.mpr c119
     have c119b1 : (x10_2 != (rd t263 x27_1)) = true := bne_iff_ne.mpr c119
     exact absurd ((Option.some.inj H).trans hrt_.out) (by decide)
    rw [if_pos c119] at H; have c119b0 : (x10_2 == (rd t263 x27_1)) = true := beq_iff_eq.mpr c119
    have c119b1 : (x10_2 != (rd t263 x27_1)) = false := bne_eq_false_iff_eq.mpr c119
    clear c119; have H' := zA.mk H
    clear H; go_wp2
    go_roundg k2
    case measure => have := HK1.out; have := HK2.out; omega
    case rel => exact ⟨((rd t263 x27_1)), (wrap64 (x27_1 + 1)), aZ, aZ, H', ⟨by have := HK1.out; have := HK2.out; omega⟩, ⟨aR HO_25⟩, ⟨aR HO_262000⟩, ⟨aR HO_262001⟩, ⟨aB BK247⟩, ⟨aB BK261⟩, ⟨aB BK262⟩, ⟨aL HB⟩⟩
   rw [if_pos c45] at H; have c45b0 : decide (x38_2 < (t267.length : Int)) = true := decide_eq_true c45
   clear c45; by_cases c46 : 0 ≤ x38_2
   rotate_left
   ·rw [if_neg c46] at H
    exact absurd H (by simp)
   rw [if_pos c46] at H; have c46b0 : decide (0 ≤ x38_2) = true := decide_eq_true c46
   clear c46; by_cases c47 : x38_2 < (t267.length : Int)
   rotate_left
   ·rw [if_neg c47] at H
    exact absurd H (by simp)
   rw [if_pos c47] at H; have c47b0 : decide (x38_2 < (t267.length : Int)) = true := decide_eq_true c47
   clear c47; have HC48 := zA.mk H; clear H; have p270 : 0 ≤ (x38_2 : Int) := aD
   have q270 : x38_2 < (t267.length : Int) := aD
   obtain ⟨ad270, e270, hx270_0, hx270_1, hx270_2, hx270_3⟩ := at_T45 (Kd.zM HO_36.out).2.2 x38_2 p270 q270; cases e270
   replace p270 := eq_true p270; replace q270 := eq_true q270; go_upto_region 14 with (first | ((with_reducible refine gate_dst (N := 12) rfl ?_); refine box_event ?hg (N := 12) ?hd (cs := #[.int .i64 0, .int .i64 0, .int .i64 0, .int .u8 0]) (t := 45) ?hr ?_; (case hd => rfl); (case hg => rfl); (case hr => first | (go_simp; done) | (go_simp; rfl)); intro gb271 hg w49 hbox hb; have n0_ := zA.mk (Kd.zN (aR HO_25) hb); have n1_ := zA.mk (Kd.zN (Kd.R_elderB (aR HO_36) gb271 (Nat.le_of_eq hg.symm)) hb); have n2_ := zA.mk (Kd.zN (aR HO_262000) hb); have n3_ := zA.mk (Kd.zN (aR HO_262001) hb); have n4_ := zA.mk (blk_below (g := gb247) (o := .cells #[.int .u8 a1_0, .int .u8 a1_1, .int .u8 a1_2, .int .u16 a1_3, .int .u16 a1_4, .float .f64 a1_5] 26 (0, 0)) (aB BK247) hb); have n5_ := zA.mk (blk_below (g := gb261) (o := .cells #[.slice Ao19 t249.length co19, .slice Ao21 t252.length co21] 31 (0, 0)) (aB BK261) hb); have n6_ := zA.mk (blk_below (g := gb262) (o := .cells #[.int .i64 t255, .int .i64 t256, .int .u8 t257, .int .i64 t258, .int .i64 t259, .float .f64 t260] 35 (0, 0)) (aB BK262) hb); have n7_ := zA.mk (below_step (aL HB) hb); have n8_ := zA.mk (hbox); have n9_ := zA.mk ((by rw [hg]; exact (below_size (aL HB)) : w.heap.size ≤ gb271)); have n10_ := zA.mk ((by rw [hg]; exact (below_size (aL HB)) : w.heap.size ≤ gb271)); have n11_ := zA.mk ((by rw [hg]; exact Nat.ne_of_lt (blk_lt (g := gb247) (o := .cells #[.int .u8 a1_0, .int .u8 a1_1, .int .u8 a1_2, .int .u16 a1_3, .int .u16 a1_4, .float .f64 a1_5] 26 (0, 0)) (aB BK247)) : gb247 ≠ gb271)); have n12_ := zA.mk ((by rw [hg]; exact Nat.ne_of_gt (blk_lt (g := gb247) (o := .cells #[.int .u8 a1_0, .int .u8 a1_1, .int .u8 a1_2, .int .u16 a1_3, .int .u16 a1_4, .float .f64 a1_5] 26 (0, 0)) (aB BK247)) : gb271 ≠ gb247)); have n13_ := zA.mk ((by rw [hg]; exact Nat.ne_of_lt (blk_lt (g := gb261) (o := .cells #[.slice Ao19 t249.length co19, .slice Ao21 t252.length co21] 31 (0, 0)) (aB BK261)) : gb261 ≠ gb271)); have n14_ := zA.mk ((by rw [hg]; exact Nat.ne_of_gt (blk_lt (g := gb261) (o := .cells #[.slice Ao19 t249.length co19, .slice Ao21 t252.length co21] 31 (0, 0)) (aB BK261)) : gb271 ≠ gb261)); have n15_ := zA.mk ((by rw [hg]; exact Nat.ne_of_lt (blk_lt (g := gb262) (o := .cells #[.int .i64 t255, .int .i64 t256, .int .u8 t257, .int .i64 t258, .int .i64 t259, .float .f64 t260] 35 (0, 0)) (aB BK262)) : gb262 ≠ gb271)); have n16_ := zA.mk ((by rw [hg]; exact Nat.ne_of_gt (blk_lt (g := gb262) (o := .cells #[.int .i64 t255, .int .i64 t256, .int .u8 t257, .int .i64 t258, .int .i64 t259, .float .f64 t260] 35 (0, 0)) (aB BK262)) : gb271 ≠ gb262)); clear HO_25; clear HO_36; clear HO_262000; clear HO_262001; clear BK247; clear BK261; clear BK262; clear HB; have HO_25 := n0_; have HO_36 := n1_; have HO_262000 := n2_; have HO_262001 := n3_; have BK247 := n4_; have BK261 := n5_; have BK262 := n6_; have HB := n7_; have BK271 := n8_; have GW271 := n9_; have GE271 := n10_; have NB247_271 := n11_; have NB271_247 := n12_; have NB261_271 := n13_; have NB271_261 := n14_; have NB262_271 := n15_; have NB271_262 := n16_; clear n0_ n1_ n2_ n3_ n4_ n5_ n6_ n7_ n8_ n9_ n10_ n11_ n12_ n13_ n14_ n15_ n16_; clear hb hbox hg; have hnb50 := NB271_247.out; have hnc50 := NB247_271.out; have hnb51 := NB271_261.out; have hnc51 := NB261_271.out; have hnb52 := NB271_262.out; have hnc52 := NB262_271.out; obtain ⟨hcz53_0, hcz53_1, hcz53_2, hcz53_3, hfz53_0, hfz53_1, hfz53_2, hfz53_3⟩ := aC4 BK271) | ((with_reducible refine gate_store (t := 45) (p := 12) rfl ?_); refine store_event (t := 45) (p := 12) (v := ?vo_w54) (w1 := ((((w49.setCell ⟨gb271, 0, none⟩ (.int .i64 ((rd_T45 t267 x38_2).f0))).setCell ⟨gb271, 1, none⟩ (.int .i64 ((rd_T45 t267 x38_2).f1))).setCell ⟨gb271, 2, none⟩ (.int .i64 ((rd_T45 t267 x38_2).f2))).setCell ⟨gb271, 3, none⟩ (.int .u8 ((rd_T45 t267 x38_2).f3)))) ?hg ?ho ?hn ?hr ?_; (case ho => rfl); (case hg => rfl); (case hn => rfl); (case hr => first | (go_simp; done) | (go_simp; rfl)); intro w54 hw; have n0_ : zA (Kd.R (Kd.int .i64) 3 w54 w.heap.size (fun _ => True) (.slice (some ad266) t263.length co33) t263) := ⟨(by rw [hw]; exact (by (with_reducible repeat (first | apply Kd.zF | apply Kd.zG | apply Kd.zH)); exact Kd.zR (Kd.zO (p := ⟨gb271, 3, none⟩) (Kd.zO (p := ⟨gb271, 2, none⟩) (Kd.zO (p := ⟨gb271, 1, none⟩) (Kd.zO (p := ⟨gb271, 0, none⟩) (Kd.zS HO_25.out BK271.out (by decide)) (fun _ hk => hk.2) (.int .i64 ((rd_T45 t267 x38_2).f0))) (fun _ hk => hk.2) (.int .i64 ((rd_T45 t267 x38_2).f1))) (fun _ hk => hk.2) (.int .i64 ((rd_T45 t267 x38_2).f2))) (fun _ hk => hk.2) (.int .u8 ((rd_T45 t267 x38_2).f3))) (fun _ hk => trivial)))⟩; have n1_ : zA (Kd.R k45 45 w54 w.heap.size (fun k_ => k_ ≠ gb271) (.slice (some ad270) t267.length co44) t267) := ⟨(by rw [hw]; exact (by (with_reducible repeat (first | apply Kd.zF | apply Kd.zG | apply Kd.zH)); exact Kd.zR (Kd.zO (p := ⟨gb271, 3, none⟩) (Kd.zO (p := ⟨gb271, 2, none⟩) (Kd.zO (p := ⟨gb271, 1, none⟩) (Kd.zO (p := ⟨gb271, 0, none⟩) (Kd.zR HO_36.out (fun k_ hk => (⟨hk, hk.2⟩ : _ ∧ k_ ≠ gb271))) (fun _ hk => hk.2) (.int .i64 ((rd_T45 t267 x38_2).f0))) (fun _ hk => hk.2) (.int .i64 ((rd_T45 t267 x38_2).f1))) (fun _ hk => hk.2) (.int .i64 ((rd_T45 t267 x38_2).f2))) (fun _ hk => hk.2) (.int .u8 ((rd_T45 t267 x38_2).f3))) (fun _ hk => hk.1.2)))⟩; have n2_ : zA (Kd.R k61 61 w54 w.heap.size (fun _ => True) (.slice Ao19 t249.length co19) t249) := ⟨(by rw [hw]; exact (by (with_reducible repeat (first | apply Kd.zF | apply Kd.zG | apply Kd.zH)); exact Kd.zR (Kd.zO (p := ⟨gb271, 3, none⟩) (Kd.zO (p := ⟨gb271, 2, none⟩) (Kd.zO (p := ⟨gb271, 1, none⟩) (Kd.zO (p := ⟨gb271, 0, none⟩) (Kd.zS HO_262000.out BK271.out (by decide)) (fun _ hk => hk.2) (.int .i64 ((rd_T45 t267 x38_2).f0))) (fun _ hk => hk.2) (.int .i64 ((rd_T45 t267 x38_2).f1))) (fun _ hk => hk.2) (.int .i64 ((rd_T45 t267 x38_2).f2))) (fun _ hk => hk.2) (.int .u8 ((rd_T45 t267 x38_2).f3))) (fun _ hk => trivial)))⟩; have n3_ : zA (Kd.R (Kd.int .u8) 43 w54 w.heap.size (fun _ => True) (.slice Ao21 t252.length co21) t252) := ⟨(by rw [hw]; exact (by (with_reducible repeat (first | apply Kd.zF | apply Kd.zG | apply Kd.zH)); exact Kd.zR (Kd.zO (p := ⟨gb271, 3, none⟩) (Kd.zO (p := ⟨gb271, 2, none⟩) (Kd.zO (p := ⟨gb271, 1, none⟩) (Kd.zO (p := ⟨gb271, 0, none⟩) (Kd.zS HO_262001.out BK271.out (by decide)) (fun _ hk => hk.2) (.int .i64 ((rd_T45 t267 x38_2).f0))) (fun _ hk => hk.2) (.int .i64 ((rd_T45 t267 x38_2).f1))) (fun _ hk => hk.2) (.int .i64 ((rd_T45 t267 x38_2).f2))) (fun _ hk => hk.2) (.int .u8 ((rd_T45 t267 x38_2).f3))) (fun _ hk => trivial)))⟩; have n4_ : zA (w54.heap[gb247]? = some (.cells #[.int .u8 a1_0, .int .u8 a1_1, .int .u8 a1_2, .int .u16 a1_3, .int .u16 a1_4, .float .f64 a1_5] 26 (0, 0))) := ⟨(by rw [hw]; exact (aB BK247))⟩; have n5_ : zA (w54.heap[gb261]? = some (.cells #[.slice Ao19 t249.length co19, .slice Ao21 t252.length co21] 31 (0, 0))) := ⟨(by rw [hw]; exact (aB BK261))⟩; have n6_ : zA (w54.heap[gb262]? = some (.cells #[.int .i64 t255, .int .i64 t256, .int .u8 t257, .int .i64 t258, .int .i64 t259, .float .f64 t260] 35 (0, 0))) := ⟨(by rw [hw]; exact (aB BK262))⟩; have n7_ : zA (w54.heap[gb271]? = some (.cells #[.int .i64 ((rd_T45 t267 x38_2).f0), .int .i64 ((rd_T45 t267 x38_2).f1), .int .i64 ((rd_T45 t267 x38_2).f2), .int .u8 ((rd_T45 t267 x38_2).f3)] 45 (0, 0))) := ⟨(by rw [hw]; exact (by (with_reducible repeat (first | refine zD ?_ _ | refine zB ?_ | refine zC ?_ _)); refine blk_put (cs := #[.int .i64 ((rd_T45 t267 x38_2).f0), .int .i64 ((rd_T45 t267 x38_2).f1), .int .i64 ((rd_T45 t267 x38_2).f2), .int .u8 0]) ?_ 3 _ rfl; (with_reducible repeat (first | refine zD ?_ _ | refine zB ?_ | refine zC ?_ _)); refine blk_put (cs := #[.int .i64 ((rd_T45 t267 x38_2).f0), .int .i64 ((rd_T45 t267 x38_2).f1), .int .i64 0, .int .u8 0]) ?_ 2 _ rfl; (with_reducible repeat (first | refine zD ?_ _ | refine zB ?_ | refine zC ?_ _)); refine blk_put (cs := #[.int .i64 ((rd_T45 t267 x38_2).f0), .int .i64 0, .int .i64 0, .int .u8 0]) ?_ 1 _ rfl; (with_reducible repeat (first | refine zD ?_ _ | refine zB ?_ | refine zC ?_ _)); refine blk_put (cs := #[.int .i64 0, .int .i64 0, .int .i64 0, .int .u8 0]) ?_ 0 _ rfl; (with_reducible repeat (first | refine zD ?_ _ | refine zB ?_ | refine zC ?_ _)); exact BK271.out))⟩; have n8_ : zA (Below w.heap.size w w54) := ⟨(by rw [hw]; exact (aL HB))⟩; clear hw; clear HO_25; clear HO_36; clear HO_262000; clear HO_262001; clear BK247; clear BK261; clear BK262; clear BK271; clear HB; have HO_25 := n0_; have HO_36 := n1_; have HO_262000 := n2_; have HO_262001 := n3_; have BK247 := n4_; have BK261 := n5_; have BK262 := n6_; have BK271 := n7_; have HB := n8_; clear n0_ n1_ n2_ n3_ n4_ n5_ n6_ n7_ n8_))
   (try simp only [Act.put, sA_, sB_, sC_])
   go_cut [78] (fun v78 wc => ∃ (kq : Nat) (x78_47 : Bool), v78 = .bool x78_47 ∧ zA (l4_FirstLines.j2 kq (rd t263 x27_1) x10_2 t263 (t263.length : Int) x27_1 t267 (t267.length : Int) x38_2 x78_47 t249 t252 t255 t256 t257 t258 t259 t260 ((rd_T45 t267 x38_2).f0) ((rd_T45 t267 x38_2).f1) ((rd_T45 t267 x38_2).f2) ((rd_T45 t267 x38_2).f3) = some r) ∧ zA (kq ≤ k2) ∧ zA (Kd.R (Kd.int .i64) 3 wc w.heap.size (fun _ => True) (.slice (some ad266) t263.length co33) t263) ∧ zA (Kd.R k45 45 wc w.heap.size (fun k_ => k_ ≠ gb271) (.slice (some ad270) t267.length co44) t267) ∧ zA (Kd.R k61 61 wc w.heap.size (fun _ => True) (.slice Ao19 t249.length co19) t249) ∧ zA (Kd.R (Kd.int .u8) 43 wc w.heap.size (fun _ => True) (.slice Ao21 t252.length co21) t252) ∧ zA (wc.heap[gb247]? = some (.cells #[.int .u8 a1_0, .int .u8 a1_1, .int .u8 a1_2, .int .u16 a1_3, .int .u16 a1_4, .float .f64 a1_5] 26 (0, 0))) ∧ zA (wc.heap[gb261]? = some (.cells #[(.slice Ao19 t249.length co19), (.slice Ao21 t252.length co21)] 31 (0, 0))) ∧ zA (wc.heap[gb262]? = some (.cells #[.int .i64 t255, .int .i64 t256, .int .u8 t257, .int .i64 t258, .int .i64 t259, .float .f64 t260] 35 (0, 0))) ∧ zA (wc.heap[gb271]? = some (.cells #[.int .i64 ((rd_T45 t267 x38_2).f0), .int .i64 ((rd_T45 t267 x38_2).f1), .int .i64 ((rd_T45 t267 x38_2).f2), .int .u8 ((rd_T45 t267 x38_2).f3)] 45 (0, 0))) ∧ zA (Below w.heap.size w wc))
   case first =>
    have H := HC48.out; clear HC48; by_cases c55 : ((rd_T45 t267 x38_2).f0) = x10_2
    rotate_left
    ·rw [if_neg c55] at H
     have c55b0 : (((rd_T45 t267 x38_2).f0) == x10_2) = false := beq_eq_false_iff_ne.mpr c55
     have c55b1 : (((rd_T45 t267 x38_2).f0) != x10_2) = true := bne_iff_ne.mpr c55
     (first | rw [c55b0] | (simp only [i64_w, i32_w]; rw [c55b0]) | skip)
     have H' := zA.mk H
     clear H; try go_wp2
     have n0_ := zA.mk (Kd.zH HO_25.out); have n1_ := zA.mk (Kd.zH HO_36.out); have n2_ := zA.mk (Kd.zH HO_262000.out); have n3_ := zA.mk (Kd.zH HO_262001.out); have n4_ := zA.mk (zB BK247.out); have n5_ := zA.mk (zB BK261.out); have n6_ := zA.mk (zB BK262.out); have n7_ := zA.mk (zB BK271.out); have n8_ := zA.mk (below_drew1 HB.out); clear HO_25; clear HO_36; clear HO_262000; clear HO_262001; clear BK247; clear BK261; clear BK262; clear BK271; clear HB; have HO_25 := n0_; have HO_36 := n1_; have HO_262000 := n2_; have HO_262001 := n3_; have BK247 := n4_; have BK261 := n5_; have BK262 := n6_; have BK271 := n7_; have HB := n8_; clear n0_ n1_ n2_ n3_ n4_ n5_ n6_ n7_ n8_; refine start_ (n := 37) (S := fun w' => w'.cell? ⟨gb271, 0, none⟩ = some (.int .i64 ((rd_T45 t267 x38_2).f0)) ∧ w'.cell? ⟨gb271, 1, none⟩ = some (.int .i64 ((rd_T45 t267 x38_2).f1)) ∧ w'.cell? ⟨gb271, 2, none⟩ = some (.int .i64 ((rd_T45 t267 x38_2).f2)) ∧ w'.cell? ⟨gb271, 3, none⟩ = some (.int .u8 ((rd_T45 t267 x38_2).f3))) (ds := []) #[false, false, false, false, false, false, false, false, false, false, false, false, false, false, false, false, false, false, false, false, false, false, false, false, false, false, false, false, false, false, false, false, false, false, false, false, false] (by kernel_rfl) rfl rfl ⟨(zE BK271.out 0).trans rfl, (zE BK271.out 1).trans rfl, (zE BK271.out 2).trans rfl, (zE BK271.out 3).trans rfl⟩ (fun hHeld => ?_); refine with_tabW l4_FirstLines.tab14 l4_FirstLines.bits14 (fun HT_ HW_ => ?_)
     generalize w54.drew = w67 at HO_25 HO_36 HO_262000 HO_262001 BK247 BK261 BK262 BK271 HB hHeld ⊢
     refine aP 0 (some 42) (tf_ 1 37) HT_ ?_
     refine aP 2 (some 44) #[true, false, true, false, false, false, false, false, false, false, false, false, false, false, false, false, false, false, false, false, false, false, false, false, false, false, false, false, false, false, false, false, false, false, false, false, false] HT_ ?_
     refine take_ (i := 1) (N := some 43) (v := ?_) (a' := ?_) (tf_ 3 37) rfl rfl (take_ofW HT_.out HW_.out (by kernel_rfl)) (fun _ _ _ h => h) (Or.inl ⟨by rfl, ?_⟩) hHeld ?_ ?_
     rotate_left
     ·rintro w' ⟨s0, s1, s2, s3⟩
      go_simp
      with_reducible rfl
     rotate_left
     ·simp only [Act.put, sA_, sB_, sC_, i64_w, i32_w]
      rfl
     refine aP 3 (some 45) (tf_ 4 37) HT_ ?_
     refine aP 4 (some 46) (tf_ 5 37) HT_ ?_
     refine pure_ (i := 5) (N := some 47) (v := undef) (a' := ?_) (tf_ 6 37) rfl rfl (any_of HT_.out (by kernel_rfl)) (fun _ _ _ h => h) (Or.inr ⟨by rfl, rfl⟩) ?_ ?_
     rotate_left
     ·simp only [Act.put, sA_, sB_, sC_, i64_w, i32_w]
      rfl
     refine pure_ (i := 6) (N := some 48) (v := undef) (a' := ?_) (tf_ 7 37) rfl rfl (any_of HT_.out (by kernel_rfl)) (fun _ _ _ h => h) (Or.inr ⟨by rfl, rfl⟩) ?_ ?_
     rotate_left
     ·simp only [Act.put, sA_, sB_, sC_, i64_w, i32_w]
      rfl
     refine pure_ (i := 7) (N := some 49) (v := undef) (a' := ?_) (tf_ 8 37) rfl rfl (any_of HT_.out (by kernel_rfl)) (fun _ _ _ h => h) (Or.inr ⟨by rfl, rfl⟩) ?_ ?_
     rotate_left
     ·simp only [Act.put, sA_, sB_, sC_, i64_w, i32_w]
      rfl
     refine pure_ (i := 8) (N := some 50) (v := undef) (a' := ?_) (tf_ 9 37) rfl rfl (any_of HT_.out (by kernel_rfl)) (fun _ _ _ h => h) (Or.inr ⟨by rfl, rfl⟩) ?_ ?_
     rotate_left
     ·simp only [Act.put, sA_, sB_, sC_, i64_w, i32_w]
      rfl
     refine aP 9 (some 51) (tf_ 10 37) HT_ ?_
     refine aP 10 (some 52) (tf_ 11 37) HT_ ?_
     refine pure_ (i := 11) (N := some 53) (v := undef) (a' := ?_) (tf_ 12 37) rfl rfl (any_of HT_.out (by kernel_rfl)) (fun _ _ _ h => h) (Or.inr ⟨by rfl, rfl⟩) ?_ ?_
     rotate_left
     ·simp only [Act.put, sA_, sB_, sC_, i64_w, i32_w]
      rfl
     refine pure_ (i := 12) (N := some 54) (v := undef) (a' := ?_) (tf_ 13 37) rfl rfl (any_of HT_.out (by kernel_rfl)) (fun _ _ _ h => h) (Or.inr ⟨by rfl, rfl⟩) ?_ ?_
     rotate_left
     ·simp only [Act.put, sA_, sB_, sC_, i64_w, i32_w]
      rfl
     refine pure_ (i := 13) (N := some 55) (v := undef) (a' := ?_) (tf_ 14 37) rfl rfl (any_of HT_.out (by kernel_rfl)) (fun _ _ _ h => h) (Or.inr ⟨by rfl, rfl⟩) ?_ ?_
     rotate_left
     ·simp only [Act.put, sA_, sB_, sC_, i64_w, i32_w]
      rfl
     refine pure_ (i := 14) (N := some 56) (v := undef) (a' := ?_) (tf_ 15 37) rfl rfl (any_of HT_.out (by kernel_rfl)) (fun _ _ _ h => h) (Or.inr ⟨by rfl, rfl⟩) ?_ ?_
     rotate_left
     ·simp only [Act.put, sA_, sB_, sC_, i64_w, i32_w]
      rfl
     refine aP 15 (some 57) (tf_ 16 37) HT_ ?_
     refine aP 16 (some 58) (tf_ 17 37) HT_ ?_
     refine pure_ (i := 17) (N := some 59) (v := undef) (a' := ?_) (tf_ 18 37) rfl rfl (any_of HT_.out (by kernel_rfl)) (fun _ _ _ h => h) (Or.inr ⟨by rfl, rfl⟩) ?_ ?_
     rotate_left
     ·simp only [Act.put, sA_, sB_, sC_, i64_w, i32_w]
      rfl
     refine pure_ (i := 18) (N := some 60) (v := undef) (a' := ?_) (tf_ 19 37) rfl rfl (any_of HT_.out (by kernel_rfl)) (fun _ _ _ h => h) (Or.inr ⟨by rfl, rfl⟩) ?_ ?_
     rotate_left
     ·simp only [Act.put, sA_, sB_, sC_, i64_w, i32_w]
      rfl
     refine pure_ (i := 19) (N := some 61) (v := undef) (a' := ?_) (tf_ 20 37) rfl rfl (any_of HT_.out (by kernel_rfl)) (fun _ _ _ h => h) (Or.inr ⟨by rfl, rfl⟩) ?_ ?_
     rotate_left
     ·simp only [Act.put, sA_, sB_, sC_, i64_w, i32_w]
      rfl
     refine pure_ (i := 20) (N := some 62) (v := undef) (a' := ?_) (tf_ 21 37) rfl rfl (any_of HT_.out (by kernel_rfl)) (fun _ _ _ h => h) (Or.inr ⟨by rfl, rfl⟩) ?_ ?_
     rotate_left
     ·simp only [Act.put, sA_, sB_, sC_, i64_w, i32_w]
      rfl
     refine pure_ (i := 21) (N := some 63) (v := undef) (a' := ?_) (tf_ 22 37) rfl rfl (any_of HT_.out (by kernel_rfl)) (fun _ _ _ h => h) (Or.inr ⟨by rfl, rfl⟩) ?_ ?_
     rotate_left
     ·simp only [Act.put, sA_, sB_, sC_, i64_w, i32_w]
      rfl
     refine pure_ (i := 22) (N := some 64) (v := undef) (a' := ?_) (tf_ 23 37) rfl rfl (any_of HT_.out (by kernel_rfl)) (fun _ _ _ h => h) (Or.inr ⟨by rfl, rfl⟩) ?_ ?_
     rotate_left
     ·simp only [Act.put, sA_, sB_, sC_, i64_w, i32_w]
      rfl
     refine pure_ (i := 23) (N := some 65) (v := undef) (a' := ?_) (tf_ 24 37) rfl rfl (any_of HT_.out (by kernel_rfl)) (fun _ _ _ h => h) (Or.inr ⟨by rfl, rfl⟩) ?_ ?_
     rotate_left
     ·simp only [Act.put, sA_, sB_, sC_, i64_w, i32_w]
      rfl
     refine pure_ (i := 24) (N := some 66) (v := undef) (a' := ?_) (tf_ 25 37) rfl rfl (any_of HT_.out (by kernel_rfl)) (fun _ _ _ h => h) (Or.inr ⟨by rfl, rfl⟩) ?_ ?_
     rotate_left
     ·simp only [Act.put, sA_, sB_, sC_, i64_w, i32_w]
      rfl
     refine pure_ (i := 25) (N := some 67) (v := undef) (a' := ?_) (tf_ 26 37) rfl rfl (any_of HT_.out (by kernel_rfl)) (fun _ _ _ h => h) (Or.inr ⟨by rfl, rfl⟩) ?_ ?_
     rotate_left
     ·simp only [Act.put, sA_, sB_, sC_, i64_w, i32_w]
      rfl
     refine pure_ (i := 26) (N := some 68) (v := undef) (a' := ?_) (tf_ 27 37) rfl rfl (any_of HT_.out (by kernel_rfl)) (fun _ _ _ h => h) (Or.inr ⟨by rfl, rfl⟩) ?_ ?_
     rotate_left
     ·simp only [Act.put, sA_, sB_, sC_, i64_w, i32_w]
      rfl
     refine pure_ (i := 27) (N := some 69) (v := undef) (a' := ?_) (tf_ 28 37) rfl rfl (any_of HT_.out (by kernel_rfl)) (fun _ _ _ h => h) (Or.inr ⟨by rfl, rfl⟩) ?_ ?_
     rotate_left
     ·simp only [Act.put, sA_, sB_, sC_, i64_w, i32_w]
      rfl
     refine pure_ (i := 28) (N := some 70) (v := undef) (a' := ?_) (tf_ 29 37) rfl rfl (any_of HT_.out (by kernel_rfl)) (fun _ _ _ h => h) (Or.inr ⟨by rfl, rfl⟩) ?_ ?_
     rotate_left
     ·simp only [Act.put, sA_, sB_, sC_, i64_w, i32_w]
      rfl
     refine pure_ (i := 29) (N := some 71) (v := undef) (a' := ?_) (tf_ 30 37) rfl rfl (any_of HT_.out (by kernel_rfl)) (fun _ _ _ h => h) (Or.inr ⟨by rfl, rfl⟩) ?_ ?_
     rotate_left
     ·simp only [Act.put, sA_, sB_, sC_, i64_w, i32_w]
      rfl
     refine pure_ (i := 30) (N := some 72) (v := undef) (a' := ?_) (tf_ 31 37) rfl rfl (any_of HT_.out (by kernel_rfl)) (fun _ _ _ h => h) (Or.inr ⟨by rfl, rfl⟩) ?_ ?_
     rotate_left
     ·simp only [Act.put, sA_, sB_, sC_, i64_w, i32_w]
      rfl
     refine aP 31 (some 73) (tf_ 32 37) HT_ ?_
     refine aP 32 (some 74) (tf_ 33 37) HT_ ?_
     refine pure_ (i := 33) (N := some 75) (v := undef) (a' := ?_) (tf_ 34 37) rfl rfl (any_of HT_.out (by kernel_rfl)) (fun _ _ _ h => h) (Or.inr ⟨by rfl, rfl⟩) ?_ ?_
     rotate_left
     ·simp only [Act.put, sA_, sB_, sC_, i64_w, i32_w]
      rfl
     refine pure_ (i := 34) (N := some 76) (v := undef) (a' := ?_) (tf_ 35 37) rfl rfl (any_of HT_.out (by kernel_rfl)) (fun _ _ _ h => h) (Or.inr ⟨by rfl, rfl⟩) ?_ ?_
     rotate_left
     ·simp only [Act.put, sA_, sB_, sC_, i64_w, i32_w]
      rfl
     refine pure_ (i := 35) (N := some 77) (v := undef) (a' := ?_) (tf_ 36 37) rfl rfl (any_of HT_.out (by kernel_rfl)) (fun _ _ _ h => h) (Or.inr ⟨by rfl, rfl⟩) ?_ ?_
     rotate_left
     ·simp only [Act.put, sA_, sB_, sC_, i64_w, i32_w]
      rfl
     refine aP 36 (some 78) #[true, true, true, true, true, true, true, true, true, true, true, true, true, true, true, true, true, true, true, true, true, true, true, true, true, true, true, true, true, true, true, true, true, true, true, true, true] HT_ ?_
     refine done_ (done_of HT_.out (by kernel_rfl)) ?_
     try go_wp2
     go_meet
     case rel => exact ⟨_, (true), aZ, H', ⟨by have := HK1.out; have := HK2.out; first | omega | exact Nat.le_refl _⟩, ⟨aR HO_25⟩, ⟨aR HO_36⟩, ⟨aR HO_262000⟩, ⟨aR HO_262001⟩, ⟨aB BK247⟩, ⟨aB BK261⟩, ⟨aB BK262⟩, ⟨aB BK271⟩, ⟨aL HB⟩⟩
    rw [if_pos c55] at H; have c55b0 : (((rd_T45 t267 x38_2).f0) == x10_2) = true := beq_iff_eq.mpr c55
    have c55b1 : (((rd_T45 t267 x38_2).f0) != x10_2) = false := bne_eq_false_iff_eq.mpr c55
    clear c55; (first | rw [c55b0] | (simp only [i64_w, i32_w]; rw [c55b0]) | skip)
    by_cases c56 : ((rd_T45 t267 x38_2).f1) ≤ x10_2
    ·rw [if_pos c56] at H
     have c56b0 : decide (((rd_T45 t267 x38_2).f1) ≤ x10_2) = true := decide_eq_true c56
     clear c56; have H' := zA.mk H
     clear H; try go_wp2
     have n0_ := zA.mk (Kd.zH HO_25.out); have n1_ := zA.mk (Kd.zH HO_36.out); have n2_ := zA.mk (Kd.zH HO_262000.out); have n3_ := zA.mk (Kd.zH HO_262001.out); have n4_ := zA.mk (zB BK247.out); have n5_ := zA.mk (zB BK261.out); have n6_ := zA.mk (zB BK262.out); have n7_ := zA.mk (zB BK271.out); have n8_ := zA.mk (below_drew1 HB.out); clear HO_25; clear HO_36; clear HO_262000; clear HO_262001; clear BK247; clear BK261; clear BK262; clear BK271; clear HB; have HO_25 := n0_; have HO_36 := n1_; have HO_262000 := n2_; have HO_262001 := n3_; have BK247 := n4_; have BK261 := n5_; have BK262 := n6_; have BK271 := n7_; have HB := n8_; clear n0_ n1_ n2_ n3_ n4_ n5_ n6_ n7_ n8_; refine start_ (n := 37) (S := fun w' => w'.cell? ⟨gb271, 0, none⟩ = some (.int .i64 ((rd_T45 t267 x38_2).f0)) ∧ w'.cell? ⟨gb271, 1, none⟩ = some (.int .i64 ((rd_T45 t267 x38_2).f1)) ∧ w'.cell? ⟨gb271, 2, none⟩ = some (.int .i64 ((rd_T45 t267 x38_2).f2)) ∧ w'.cell? ⟨gb271, 3, none⟩ = some (.int .u8 ((rd_T45 t267 x38_2).f3))) (ds := []) #[false, false, false, false, false, false, false, false, false, false, false, false, false, false, false, false, false, false, false, false, false, false, false, false, false, false, false, false, false, false, false, false, false, false, false, false, false] (by kernel_rfl) rfl rfl ⟨(zE BK271.out 0).trans rfl, (zE BK271.out 1).trans rfl, (zE BK271.out 2).trans rfl, (zE BK271.out 3).trans rfl⟩ (fun hHeld => ?_); refine with_tabW l4_FirstLines.tab14 l4_FirstLines.bits14 (fun HT_ HW_ => ?_)
     generalize w54.drew = w57 at HO_25 HO_36 HO_262000 HO_262001 BK247 BK261 BK262 BK271 HB hHeld ⊢
     refine aP 0 (some 42) (tf_ 1 37) HT_ ?_
     refine aP 2 (some 44) #[true, false, true, false, false, false, false, false, false, false, false, false, false, false, false, false, false, false, false, false, false, false, false, false, false, false, false, false, false, false, false, false, false, false, false, false, false] HT_ ?_
     refine take_ (i := 1) (N := some 43) (v := ?_) (a' := ?_) (tf_ 3 37) rfl rfl (take_ofW HT_.out HW_.out (by kernel_rfl)) (fun _ _ _ h => h) (Or.inl ⟨by rfl, ?_⟩) hHeld ?_ ?_
     rotate_left
     ·rintro w' ⟨s0, s1, s2, s3⟩
      go_simp
      with_reducible rfl
     rotate_left
     ·simp only [Act.put, sA_, sB_, sC_, i64_w, i32_w]
      rfl
     refine aP 3 (some 45) (tf_ 4 37) HT_ ?_
     refine aP 4 (some 46) (tf_ 5 37) HT_ ?_
     refine aP 5 (some 47) (tf_ 6 37) HT_ ?_
     refine aP 7 (some 49) #[true, true, true, true, true, true, false, true, false, false, false, false, false, false, false, false, false, false, false, false, false, false, false, false, false, false, false, false, false, false, false, false, false, false, false, false, false] HT_ ?_
     refine take_ (i := 6) (N := some 48) (v := ?_) (a' := ?_) (tf_ 8 37) rfl rfl (take_ofW HT_.out HW_.out (by kernel_rfl)) (fun _ _ _ h => h) (Or.inl ⟨by rfl, ?_⟩) hHeld ?_ ?_
     rotate_left
     ·rintro w' ⟨s0, s1, s2, s3⟩
      go_simp
      with_reducible rfl
     rotate_left
     ·simp only [Act.put, sA_, sB_, sC_, i64_w, i32_w]
      rfl
     refine aP 8 (some 50) (tf_ 9 37) HT_ ?_
     refine aP 9 (some 51) (tf_ 10 37) HT_ ?_
     refine aP 10 (some 52) (tf_ 11 37) HT_ ?_
     refine pure_ (i := 11) (N := some 53) (v := undef) (a' := ?_) (tf_ 12 37) rfl rfl (any_of HT_.out (by kernel_rfl)) (fun _ _ _ h => h) (Or.inr ⟨by rfl, rfl⟩) ?_ ?_
     rotate_left
     ·simp only [Act.put, sA_, sB_, sC_, i64_w, i32_w]
      rfl
     refine pure_ (i := 12) (N := some 54) (v := undef) (a' := ?_) (tf_ 13 37) rfl rfl (any_of HT_.out (by kernel_rfl)) (fun _ _ _ h => h) (Or.inr ⟨by rfl, rfl⟩) ?_ ?_
     rotate_left
     ·simp only [Act.put, sA_, sB_, sC_, i64_w, i32_w]
      rfl
     refine pure_ (i := 13) (N := some 55) (v := undef) (a' := ?_) (tf_ 14 37) rfl rfl (any_of HT_.out (by kernel_rfl)) (fun _ _ _ h => h) (Or.inr ⟨by rfl, rfl⟩) ?_ ?_
     rotate_left
     ·simp only [Act.put, sA_, sB_, sC_, i64_w, i32_w]
      rfl
     refine pure_ (i := 14) (N := some 56) (v := undef) (a' := ?_) (tf_ 15 37) rfl rfl (any_of HT_.out (by kernel_rfl)) (fun _ _ _ h => h) (Or.inr ⟨by rfl, rfl⟩) ?_ ?_
     rotate_left
     ·simp only [Act.put, sA_, sB_, sC_, i64_w, i32_w]
      rfl
     refine aP 15 (some 57) (tf_ 16 37) HT_ ?_
     refine aP 16 (some 58) (tf_ 17 37) HT_ ?_
     refine pure_ (i := 17) (N := some 59) (v := undef) (a' := ?_) (tf_ 18 37) rfl rfl (any_of HT_.out (by kernel_rfl)) (fun _ _ _ h => h) (Or.inr ⟨by rfl, rfl⟩) ?_ ?_
     rotate_left
     ·simp only [Act.put, sA_, sB_, sC_, i64_w, i32_w]
      rfl
     refine pure_ (i := 18) (N := some 60) (v := undef) (a' := ?_) (tf_ 19 37) rfl rfl (any_of HT_.out (by kernel_rfl)) (fun _ _ _ h => h) (Or.inr ⟨by rfl, rfl⟩) ?_ ?_
     rotate_left
     ·simp only [Act.put, sA_, sB_, sC_, i64_w, i32_w]
      rfl
     refine pure_ (i := 19) (N := some 61) (v := undef) (a' := ?_) (tf_ 20 37) rfl rfl (any_of HT_.out (by kernel_rfl)) (fun _ _ _ h => h) (Or.inr ⟨by rfl, rfl⟩) ?_ ?_
     rotate_left
     ·simp only [Act.put, sA_, sB_, sC_, i64_w, i32_w]
      rfl
     refine pure_ (i := 20) (N := some 62) (v := undef) (a' := ?_) (tf_ 21 37) rfl rfl (any_of HT_.out (by kernel_rfl)) (fun _ _ _ h => h) (Or.inr ⟨by rfl, rfl⟩) ?_ ?_
     rotate_left
     ·simp only [Act.put, sA_, sB_, sC_, i64_w, i32_w]
      rfl
     refine pure_ (i := 21) (N := some 63) (v := undef) (a' := ?_) (tf_ 22 37) rfl rfl (any_of HT_.out (by kernel_rfl)) (fun _ _ _ h => h) (Or.inr ⟨by rfl, rfl⟩) ?_ ?_
     rotate_left
     ·simp only [Act.put, sA_, sB_, sC_, i64_w, i32_w]
      rfl
     refine pure_ (i := 22) (N := some 64) (v := undef) (a' := ?_) (tf_ 23 37) rfl rfl (any_of HT_.out (by kernel_rfl)) (fun _ _ _ h => h) (Or.inr ⟨by rfl, rfl⟩) ?_ ?_
     rotate_left
     ·simp only [Act.put, sA_, sB_, sC_, i64_w, i32_w]
      rfl
     refine pure_ (i := 23) (N := some 65) (v := undef) (a' := ?_) (tf_ 24 37) rfl rfl (any_of HT_.out (by kernel_rfl)) (fun _ _ _ h => h) (Or.inr ⟨by rfl, rfl⟩) ?_ ?_
     rotate_left
     ·simp only [Act.put, sA_, sB_, sC_, i64_w, i32_w]
      rfl
     refine pure_ (i := 24) (N := some 66) (v := undef) (a' := ?_) (tf_ 25 37) rfl rfl (any_of HT_.out (by kernel_rfl)) (fun _ _ _ h => h) (Or.inr ⟨by rfl, rfl⟩) ?_ ?_
     rotate_left
     ·simp only [Act.put, sA_, sB_, sC_, i64_w, i32_w]
      rfl
     refine pure_ (i := 25) (N := some 67) (v := undef) (a' := ?_) (tf_ 26 37) rfl rfl (any_of HT_.out (by kernel_rfl)) (fun _ _ _ h => h) (Or.inr ⟨by rfl, rfl⟩) ?_ ?_
     rotate_left
     ·simp only [Act.put, sA_, sB_, sC_, i64_w, i32_w]
      rfl
     refine pure_ (i := 26) (N := some 68) (v := undef) (a' := ?_) (tf_ 27 37) rfl rfl (any_of HT_.out (by kernel_rfl)) (fun _ _ _ h => h) (Or.inr ⟨by rfl, rfl⟩) ?_ ?_
     rotate_left
     ·simp only [Act.put, sA_, sB_, sC_, i64_w, i32_w]
      rfl
     refine pure_ (i := 27) (N := some 69) (v := undef) (a' := ?_) (tf_ 28 37) rfl rfl (any_of HT_.out (by kernel_rfl)) (fun _ _ _ h => h) (Or.inr ⟨by rfl, rfl⟩) ?_ ?_
     rotate_left
     ·simp only [Act.put, sA_, sB_, sC_, i64_w, i32_w]
      rfl
     refine pure_ (i := 28) (N := some 70) (v := undef) (a' := ?_) (tf_ 29 37) rfl rfl (any_of HT_.out (by kernel_rfl)) (fun _ _ _ h => h) (Or.inr ⟨by rfl, rfl⟩) ?_ ?_
     rotate_left
     ·simp only [Act.put, sA_, sB_, sC_, i64_w, i32_w]
      rfl
     refine pure_ (i := 29) (N := some 71) (v := undef) (a' := ?_) (tf_ 30 37) rfl rfl (any_of HT_.out (by kernel_rfl)) (fun _ _ _ h => h) (Or.inr ⟨by rfl, rfl⟩) ?_ ?_
     rotate_left
     ·simp only [Act.put, sA_, sB_, sC_, i64_w, i32_w]
      rfl
     refine pure_ (i := 30) (N := some 72) (v := undef) (a' := ?_) (tf_ 31 37) rfl rfl (any_of HT_.out (by kernel_rfl)) (fun _ _ _ h => h) (Or.inr ⟨by rfl, rfl⟩) ?_ ?_
     rotate_left
     ·simp only [Act.put, sA_, sB_, sC_, i64_w, i32_w]
      rfl
     refine aP 31 (some 73) (tf_ 32 37) HT_ ?_
     refine aP 32 (some 74) (tf_ 33 37) HT_ ?_
     refine pure_ (i := 33) (N := some 75) (v := undef) (a' := ?_) (tf_ 34 37) rfl rfl (any_of HT_.out (by kernel_rfl)) (fun _ _ _ h => h) (Or.inr ⟨by rfl, rfl⟩) ?_ ?_
     rotate_left
     ·simp only [Act.put, sA_, sB_, sC_, i64_w, i32_w]
      rfl
     refine pure_ (i := 34) (N := some 76) (v := undef) (a' := ?_) (tf_ 35 37) rfl rfl (any_of HT_.out (by kernel_rfl)) (fun _ _ _ h => h) (Or.inr ⟨by rfl, rfl⟩) ?_ ?_
     rotate_left
     ·simp only [Act.put, sA_, sB_, sC_, i64_w, i32_w]
      rfl
     refine pure_ (i := 35) (N := some 77) (v := undef) (a' := ?_) (tf_ 36 37) rfl rfl (any_of HT_.out (by kernel_rfl)) (fun _ _ _ h => h) (Or.inr ⟨by rfl, rfl⟩) ?_ ?_
     rotate_left
     ·simp only [Act.put, sA_, sB_, sC_, i64_w, i32_w]
      rfl
     refine aP 36 (some 78) #[true, true, true, true, true, true, true, true, true, true, true, true, true, true, true, true, true, true, true, true, true, true, true, true, true, true, true, true, true, true, true, true, true, true, true, true, true] HT_ ?_
     refine done_ (done_of HT_.out (by kernel_rfl)) ?_
     try go_wp2
     go_meet
     case rel => exact ⟨_, (true), aZ, H', ⟨by have := HK1.out; have := HK2.out; first | omega | exact Nat.le_refl _⟩, ⟨aR HO_25⟩, ⟨aR HO_36⟩, ⟨aR HO_262000⟩, ⟨aR HO_262001⟩, ⟨aB BK247⟩, ⟨aB BK261⟩, ⟨aB BK262⟩, ⟨aB BK271⟩, ⟨aL HB⟩⟩
    rw [if_neg c56] at H; have c56b0 : decide (((rd_T45 t267 x38_2).f1) ≤ x10_2) = false := decide_eq_false c56
    clear c56; by_cases c58 : ((rd_T45 t267 x38_2).f1) > (rd t263 x27_1)
    ·rw [if_pos c58] at H
     have c58b0 : decide ((rd t263 x27_1) < ((rd_T45 t267 x38_2).f1)) = true := decide_eq_true c58
     clear c58; have H' := zA.mk H
     clear H; try go_wp2
     have n0_ := zA.mk (Kd.zH HO_25.out); have n1_ := zA.mk (Kd.zH HO_36.out); have n2_ := zA.mk (Kd.zH HO_262000.out); have n3_ := zA.mk (Kd.zH HO_262001.out); have n4_ := zA.mk (zB BK247.out); have n5_ := zA.mk (zB BK261.out); have n6_ := zA.mk (zB BK262.out); have n7_ := zA.mk (zB BK271.out); have n8_ := zA.mk (below_drew1 HB.out); clear HO_25; clear HO_36; clear HO_262000; clear HO_262001; clear BK247; clear BK261; clear BK262; clear BK271; clear HB; have HO_25 := n0_; have HO_36 := n1_; have HO_262000 := n2_; have HO_262001 := n3_; have BK247 := n4_; have BK261 := n5_; have BK262 := n6_; have BK271 := n7_; have HB := n8_; clear n0_ n1_ n2_ n3_ n4_ n5_ n6_ n7_ n8_; refine start_ (n := 37) (S := fun w' => w'.cell? ⟨gb271, 0, none⟩ = some (.int .i64 ((rd_T45 t267 x38_2).f0)) ∧ w'.cell? ⟨gb271, 1, none⟩ = some (.int .i64 ((rd_T45 t267 x38_2).f1)) ∧ w'.cell? ⟨gb271, 2, none⟩ = some (.int .i64 ((rd_T45 t267 x38_2).f2)) ∧ w'.cell? ⟨gb271, 3, none⟩ = some (.int .u8 ((rd_T45 t267 x38_2).f3))) (ds := []) #[false, false, false, false, false, false, false, false, false, false, false, false, false, false, false, false, false, false, false, false, false, false, false, false, false, false, false, false, false, false, false, false, false, false, false, false, false] (by kernel_rfl) rfl rfl ⟨(zE BK271.out 0).trans rfl, (zE BK271.out 1).trans rfl, (zE BK271.out 2).trans rfl, (zE BK271.out 3).trans rfl⟩ (fun hHeld => ?_); refine with_tabW l4_FirstLines.tab14 l4_FirstLines.bits14 (fun HT_ HW_ => ?_)
     generalize w54.drew = w59 at HO_25 HO_36 HO_262000 HO_262001 BK247 BK261 BK262 BK271 HB hHeld ⊢
     refine aP 0 (some 42) (tf_ 1 37) HT_ ?_
     refine aP 2 (some 44) #[true, false, true, false, false, false, false, false, false, false, false, false, false, false, false, false, false, false, false, false, false, false, false, false, false, false, false, false, false, false, false, false, false, false, false, false, false] HT_ ?_
     refine take_ (i := 1) (N := some 43) (v := ?_) (a' := ?_) (tf_ 3 37) rfl rfl (take_ofW HT_.out HW_.out (by kernel_rfl)) (fun _ _ _ h => h) (Or.inl ⟨by rfl, ?_⟩) hHeld ?_ ?_
     rotate_left
     ·rintro w' ⟨s0, s1, s2, s3⟩
      go_simp
      with_reducible rfl
     rotate_left
     ·simp only [Act.put, sA_, sB_, sC_, i64_w, i32_w]
      rfl
     refine aP 3 (some 45) (tf_ 4 37) HT_ ?_
     refine aP 4 (some 46) (tf_ 5 37) HT_ ?_
     refine aP 5 (some 47) (tf_ 6 37) HT_ ?_
     refine aP 7 (some 49) #[true, true, true, true, true, true, false, true, false, false, false, false, false, false, false, false, false, false, false, false, false, false, false, false, false, false, false, false, false, false, false, false, false, false, false, false, false] HT_ ?_
     refine take_ (i := 6) (N := some 48) (v := ?_) (a' := ?_) (tf_ 8 37) rfl rfl (take_ofW HT_.out HW_.out (by kernel_rfl)) (fun _ _ _ h => h) (Or.inl ⟨by rfl, ?_⟩) hHeld ?_ ?_
     rotate_left
     ·rintro w' ⟨s0, s1, s2, s3⟩
      go_simp
      with_reducible rfl
     rotate_left
     ·simp only [Act.put, sA_, sB_, sC_, i64_w, i32_w]
      rfl
     refine aP 8 (some 50) (tf_ 9 37) HT_ ?_
     refine aP 9 (some 51) (tf_ 10 37) HT_ ?_
     refine aP 10 (some 52) (tf_ 11 37) HT_ ?_
     refine aP 11 (some 53) (tf_ 12 37) HT_ ?_
     refine aP 13 (some 55) #[true, true, true, true, true, true, true, true, true, true, true, true, false, true, false, false, false, false, false, false, false, false, false, false, false, false, false, false, false, false, false, false, false, false, false, false, false] HT_ ?_
     refine take_ (i := 12) (N := some 54) (v := ?_) (a' := ?_) (tf_ 14 37) rfl rfl (take_ofW HT_.out HW_.out (by kernel_rfl)) (fun _ _ _ h => h) (Or.inl ⟨by rfl, ?_⟩) hHeld ?_ ?_
     rotate_left
     ·rintro w' ⟨s0, s1, s2, s3⟩
      go_simp
      with_reducible rfl
     rotate_left
     ·simp only [Act.put, sA_, sB_, sC_, i64_w, i32_w]
      rfl
     refine aP 14 (some 56) (tf_ 15 37) HT_ ?_
     refine aP 15 (some 57) (tf_ 16 37) HT_ ?_
     refine aP 16 (some 58) (tf_ 17 37) HT_ ?_
     refine pure_ (i := 17) (N := some 59) (v := undef) (a' := ?_) (tf_ 18 37) rfl rfl (any_of HT_.out (by kernel_rfl)) (fun _ _ _ h => h) (Or.inr ⟨by rfl, rfl⟩) ?_ ?_
     rotate_left
     ·simp only [Act.put, sA_, sB_, sC_, i64_w, i32_w]
      rfl
     refine pure_ (i := 18) (N := some 60) (v := undef) (a' := ?_) (tf_ 19 37) rfl rfl (any_of HT_.out (by kernel_rfl)) (fun _ _ _ h => h) (Or.inr ⟨by rfl, rfl⟩) ?_ ?_
     rotate_left
     ·simp only [Act.put, sA_, sB_, sC_, i64_w, i32_w]
      rfl
     refine pure_ (i := 19) (N := some 61) (v := undef) (a' := ?_) (tf_ 20 37) rfl rfl (any_of HT_.out (by kernel_rfl)) (fun _ _ _ h => h) (Or.inr ⟨by rfl, rfl⟩) ?_ ?_
     rotate_left
     ·simp only [Act.put, sA_, sB_, sC_, i64_w, i32_w]
      rfl
     refine pure_ (i := 20) (N := some 62) (v := undef) (a' := ?_) (tf_ 21 37) rfl rfl (any_of HT_.out (by kernel_rfl)) (fun _ _ _ h => h) (Or.inr ⟨by rfl, rfl⟩) ?_ ?_
     rotate_left
     ·simp only [Act.put, sA_, sB_, sC_, i64_w, i32_w]
      rfl
     refine pure_ (i := 21) (N := some 63) (v := undef) (a' := ?_) (tf_ 22 37) rfl rfl (any_of HT_.out (by kernel_rfl)) (fun _ _ _ h => h) (Or.inr ⟨by rfl, rfl⟩) ?_ ?_
     rotate_left
     ·simp only [Act.put, sA_, sB_, sC_, i64_w, i32_w]
      rfl
     refine pure_ (i := 22) (N := some 64) (v := undef) (a' := ?_) (tf_ 23 37) rfl rfl (any_of HT_.out (by kernel_rfl)) (fun _ _ _ h => h) (Or.inr ⟨by rfl, rfl⟩) ?_ ?_
     rotate_left
     ·simp only [Act.put, sA_, sB_, sC_, i64_w, i32_w]
      rfl
     refine pure_ (i := 23) (N := some 65) (v := undef) (a' := ?_) (tf_ 24 37) rfl rfl (any_of HT_.out (by kernel_rfl)) (fun _ _ _ h => h) (Or.inr ⟨by rfl, rfl⟩) ?_ ?_
     rotate_left
     ·simp only [Act.put, sA_, sB_, sC_, i64_w, i32_w]
      rfl
     refine pure_ (i := 24) (N := some 66) (v := undef) (a' := ?_) (tf_ 25 37) rfl rfl (any_of HT_.out (by kernel_rfl)) (fun _ _ _ h => h) (Or.inr ⟨by rfl, rfl⟩) ?_ ?_
     rotate_left
     ·simp only [Act.put, sA_, sB_, sC_, i64_w, i32_w]
      rfl
     refine pure_ (i := 25) (N := some 67) (v := undef) (a' := ?_) (tf_ 26 37) rfl rfl (any_of HT_.out (by kernel_rfl)) (fun _ _ _ h => h) (Or.inr ⟨by rfl, rfl⟩) ?_ ?_
     rotate_left
     ·simp only [Act.put, sA_, sB_, sC_, i64_w, i32_w]
      rfl
     refine pure_ (i := 26) (N := some 68) (v := undef) (a' := ?_) (tf_ 27 37) rfl rfl (any_of HT_.out (by kernel_rfl)) (fun _ _ _ h => h) (Or.inr ⟨by rfl, rfl⟩) ?_ ?_
     rotate_left
     ·simp only [Act.put, sA_, sB_, sC_, i64_w, i32_w]
      rfl
     refine pure_ (i := 27) (N := some 69) (v := undef) (a' := ?_) (tf_ 28 37) rfl rfl (any_of HT_.out (by kernel_rfl)) (fun _ _ _ h => h) (Or.inr ⟨by rfl, rfl⟩) ?_ ?_
     rotate_left
     ·simp only [Act.put, sA_, sB_, sC_, i64_w, i32_w]
      rfl
     refine pure_ (i := 28) (N := some 70) (v := undef) (a' := ?_) (tf_ 29 37) rfl rfl (any_of HT_.out (by kernel_rfl)) (fun _ _ _ h => h) (Or.inr ⟨by rfl, rfl⟩) ?_ ?_
     rotate_left
     ·simp only [Act.put, sA_, sB_, sC_, i64_w, i32_w]
      rfl
     refine pure_ (i := 29) (N := some 71) (v := undef) (a' := ?_) (tf_ 30 37) rfl rfl (any_of HT_.out (by kernel_rfl)) (fun _ _ _ h => h) (Or.inr ⟨by rfl, rfl⟩) ?_ ?_
     rotate_left
     ·simp only [Act.put, sA_, sB_, sC_, i64_w, i32_w]
      rfl
     refine pure_ (i := 30) (N := some 72) (v := undef) (a' := ?_) (tf_ 31 37) rfl rfl (any_of HT_.out (by kernel_rfl)) (fun _ _ _ h => h) (Or.inr ⟨by rfl, rfl⟩) ?_ ?_
     rotate_left
     ·simp only [Act.put, sA_, sB_, sC_, i64_w, i32_w]
      rfl
     refine aP 31 (some 73) (tf_ 32 37) HT_ ?_
     refine aP 32 (some 74) (tf_ 33 37) HT_ ?_
     refine pure_ (i := 33) (N := some 75) (v := undef) (a' := ?_) (tf_ 34 37) rfl rfl (any_of HT_.out (by kernel_rfl)) (fun _ _ _ h => h) (Or.inr ⟨by rfl, rfl⟩) ?_ ?_
     rotate_left
     ·simp only [Act.put, sA_, sB_, sC_, i64_w, i32_w]
      rfl
     refine pure_ (i := 34) (N := some 76) (v := undef) (a' := ?_) (tf_ 35 37) rfl rfl (any_of HT_.out (by kernel_rfl)) (fun _ _ _ h => h) (Or.inr ⟨by rfl, rfl⟩) ?_ ?_
     rotate_left
     ·simp only [Act.put, sA_, sB_, sC_, i64_w, i32_w]
      rfl
     refine pure_ (i := 35) (N := some 77) (v := undef) (a' := ?_) (tf_ 36 37) rfl rfl (any_of HT_.out (by kernel_rfl)) (fun _ _ _ h => h) (Or.inr ⟨by rfl, rfl⟩) ?_ ?_
     rotate_left
     ·simp only [Act.put, sA_, sB_, sC_, i64_w, i32_w]
      rfl
     refine aP 36 (some 78) #[true, true, true, true, true, true, true, true, true, true, true, true, true, true, true, true, true, true, true, true, true, true, true, true, true, true, true, true, true, true, true, true, true, true, true, true, true] HT_ ?_
     refine done_ (done_of HT_.out (by kernel_rfl)) ?_
     try go_wp2
     go_meet
     case rel => exact ⟨_, (true), aZ, H', ⟨by have := HK1.out; have := HK2.out; first | omega | exact Nat.le_refl _⟩, ⟨aR HO_25⟩, ⟨aR HO_36⟩, ⟨aR HO_262000⟩, ⟨aR HO_262001⟩, ⟨aB BK247⟩, ⟨aB BK261⟩, ⟨aB BK262⟩, ⟨aB BK271⟩, ⟨aL HB⟩⟩
    rw [if_neg c58] at H; have c58b0 : decide ((rd t263 x27_1) < ((rd_T45 t267 x38_2).f1)) = false := decide_eq_false c58
    clear c58; by_cases c60 : ((rd_T45 t267 x38_2).f3) = 4
    ·rw [if_pos c60] at H
     have c60b0 : (((rd_T45 t267 x38_2).f3) == 4) = true := beq_iff_eq.mpr c60
     have c60b1 : (((rd_T45 t267 x38_2).f3) != 4) = false := bne_eq_false_iff_eq.mpr c60
     clear c60; have H' := zA.mk H
     clear H; try go_wp2
     have n0_ := zA.mk (Kd.zH HO_25.out); have n1_ := zA.mk (Kd.zH HO_36.out); have n2_ := zA.mk (Kd.zH HO_262000.out); have n3_ := zA.mk (Kd.zH HO_262001.out); have n4_ := zA.mk (zB BK247.out); have n5_ := zA.mk (zB BK261.out); have n6_ := zA.mk (zB BK262.out); have n7_ := zA.mk (zB BK271.out); have n8_ := zA.mk (below_drew1 HB.out); clear HO_25; clear HO_36; clear HO_262000; clear HO_262001; clear BK247; clear BK261; clear BK262; clear BK271; clear HB; have HO_25 := n0_; have HO_36 := n1_; have HO_262000 := n2_; have HO_262001 := n3_; have BK247 := n4_; have BK261 := n5_; have BK262 := n6_; have BK271 := n7_; have HB := n8_; clear n0_ n1_ n2_ n3_ n4_ n5_ n6_ n7_ n8_; refine start_ (n := 37) (S := fun w' => w'.cell? ⟨gb271, 0, none⟩ = some (.int .i64 ((rd_T45 t267 x38_2).f0)) ∧ w'.cell? ⟨gb271, 1, none⟩ = some (.int .i64 ((rd_T45 t267 x38_2).f1)) ∧ w'.cell? ⟨gb271, 2, none⟩ = some (.int .i64 ((rd_T45 t267 x38_2).f2)) ∧ w'.cell? ⟨gb271, 3, none⟩ = some (.int .u8 ((rd_T45 t267 x38_2).f3))) (ds := []) #[false, false, false, false, false, false, false, false, false, false, false, false, false, false, false, false, false, false, false, false, false, false, false, false, false, false, false, false, false, false, false, false, false, false, false, false, false] (by kernel_rfl) rfl rfl ⟨(zE BK271.out 0).trans rfl, (zE BK271.out 1).trans rfl, (zE BK271.out 2).trans rfl, (zE BK271.out 3).trans rfl⟩ (fun hHeld => ?_); refine with_tabW l4_FirstLines.tab14 l4_FirstLines.bits14 (fun HT_ HW_ => ?_)
     generalize w54.drew = w61 at HO_25 HO_36 HO_262000 HO_262001 BK247 BK261 BK262 BK271 HB hHeld ⊢
     refine aP 0 (some 42) (tf_ 1 37) HT_ ?_
     refine aP 2 (some 44) #[true, false, true, false, false, false, false, false, false, false, false, false, false, false, false, false, false, false, false, false, false, false, false, false, false, false, false, false, false, false, false, false, false, false, false, false, false] HT_ ?_
     refine take_ (i := 1) (N := some 43) (v := ?_) (a' := ?_) (tf_ 3 37) rfl rfl (take_ofW HT_.out HW_.out (by kernel_rfl)) (fun _ _ _ h => h) (Or.inl ⟨by rfl, ?_⟩) hHeld ?_ ?_
     rotate_left
     ·rintro w' ⟨s0, s1, s2, s3⟩
      go_simp
      with_reducible rfl
     rotate_left
     ·simp only [Act.put, sA_, sB_, sC_, i64_w, i32_w]
      rfl
     refine aP 3 (some 45) (tf_ 4 37) HT_ ?_
     refine aP 4 (some 46) (tf_ 5 37) HT_ ?_
     refine aP 5 (some 47) (tf_ 6 37) HT_ ?_
     refine aP 7 (some 49) #[true, true, true, true, true, true, false, true, false, false, false, false, false, false, false, false, false, false, false, false, false, false, false, false, false, false, false, false, false, false, false, false, false, false, false, false, false] HT_ ?_
     refine take_ (i := 6) (N := some 48) (v := ?_) (a' := ?_) (tf_ 8 37) rfl rfl (take_ofW HT_.out HW_.out (by kernel_rfl)) (fun _ _ _ h => h) (Or.inl ⟨by rfl, ?_⟩) hHeld ?_ ?_
     rotate_left
     ·rintro w' ⟨s0, s1, s2, s3⟩
      go_simp
      with_reducible rfl
     rotate_left
     ·simp only [Act.put, sA_, sB_, sC_, i64_w, i32_w]
      rfl
     refine aP 8 (some 50) (tf_ 9 37) HT_ ?_
     refine aP 9 (some 51) (tf_ 10 37) HT_ ?_
     refine aP 10 (some 52) (tf_ 11 37) HT_ ?_
     refine aP 11 (some 53) (tf_ 12 37) HT_ ?_
     refine aP 13 (some 55) #[true, true, true, true, true, true, true, true, true, true, true, true, false, true, false, false, false, false, false, false, false, false, false, false, false, false, false, false, false, false, false, false, false, false, false, false, false] HT_ ?_
     refine take_ (i := 12) (N := some 54) (v := ?_) (a' := ?_) (tf_ 14 37) rfl rfl (take_ofW HT_.out HW_.out (by kernel_rfl)) (fun _ _ _ h => h) (Or.inl ⟨by rfl, ?_⟩) hHeld ?_ ?_
     rotate_left
     ·rintro w' ⟨s0, s1, s2, s3⟩
      go_simp
      with_reducible rfl
     rotate_left
     ·simp only [Act.put, sA_, sB_, sC_, i64_w, i32_w]
      rfl
     refine aP 14 (some 56) (tf_ 15 37) HT_ ?_
     refine aP 15 (some 57) (tf_ 16 37) HT_ ?_
     refine aP 16 (some 58) (tf_ 17 37) HT_ ?_
     refine aP 17 (some 59) (tf_ 18 37) HT_ ?_
     refine take_ (i := 18) (N := some 60) (v := ?_) (a' := ?_) (tf_ 19 37) rfl rfl (take_ofW HT_.out HW_.out (by kernel_rfl)) (fun _ _ _ h => h) (Or.inl ⟨by rfl, ?_⟩) hHeld ?_ ?_
     rotate_left
     ·rintro w' ⟨s0, s1, s2, s3⟩
      go_simp
      with_reducible rfl
     rotate_left
     ·simp only [Act.put, sA_, sB_, sC_, i64_w, i32_w]
      rfl
     refine aP 19 (some 61) (tf_ 20 37) HT_ ?_
     refine aP 20 (some 62) (tf_ 21 37) HT_ ?_
     refine pure_ (i := 21) (N := some 63) (v := undef) (a' := ?_) (tf_ 22 37) rfl rfl (any_of HT_.out (by kernel_rfl)) (fun _ _ _ h => h) (Or.inr ⟨by rfl, rfl⟩) ?_ ?_
     rotate_left
     ·simp only [Act.put, sA_, sB_, sC_, i64_w, i32_w]
      rfl
     refine pure_ (i := 22) (N := some 64) (v := undef) (a' := ?_) (tf_ 23 37) rfl rfl (any_of HT_.out (by kernel_rfl)) (fun _ _ _ h => h) (Or.inr ⟨by rfl, rfl⟩) ?_ ?_
     rotate_left
     ·simp only [Act.put, sA_, sB_, sC_, i64_w, i32_w]
      rfl
     refine pure_ (i := 23) (N := some 65) (v := undef) (a' := ?_) (tf_ 24 37) rfl rfl (any_of HT_.out (by kernel_rfl)) (fun _ _ _ h => h) (Or.inr ⟨by rfl, rfl⟩) ?_ ?_
     rotate_left
     ·simp only [Act.put, sA_, sB_, sC_, i64_w, i32_w]
      rfl
     refine pure_ (i := 24) (N := some 66) (v := undef) (a' := ?_) (tf_ 25 37) rfl rfl (any_of HT_.out (by kernel_rfl)) (fun _ _ _ h => h) (Or.inr ⟨by rfl, rfl⟩) ?_ ?_
     rotate_left
     ·simp only [Act.put, sA_, sB_, sC_, i64_w, i32_w]
      rfl
     refine pure_ (i := 25) (N := some 67) (v := undef) (a' := ?_) (tf_ 26 37) rfl rfl (any_of HT_.out (by kernel_rfl)) (fun _ _ _ h => h) (Or.inr ⟨by rfl, rfl⟩) ?_ ?_
     rotate_left
     ·simp only [Act.put, sA_, sB_, sC_, i64_w, i32_w]
      rfl
     refine pure_ (i := 26) (N := some 68) (v := undef) (a' := ?_) (tf_ 27 37) rfl rfl (any_of HT_.out (by kernel_rfl)) (fun _ _ _ h => h) (Or.inr ⟨by rfl, rfl⟩) ?_ ?_
     rotate_left
     ·simp only [Act.put, sA_, sB_, sC_, i64_w, i32_w]
      rfl
     refine pure_ (i := 27) (N := some 69) (v := undef) (a' := ?_) (tf_ 28 37) rfl rfl (any_of HT_.out (by kernel_rfl)) (fun _ _ _ h => h) (Or.inr ⟨by rfl, rfl⟩) ?_ ?_
     rotate_left
     ·simp only [Act.put, sA_, sB_, sC_, i64_w, i32_w]
      rfl
     refine pure_ (i := 28) (N := some 70) (v := undef) (a' := ?_) (tf_ 29 37) rfl rfl (any_of HT_.out (by kernel_rfl)) (fun _ _ _ h => h) (Or.inr ⟨by rfl, rfl⟩) ?_ ?_
     rotate_left
     ·simp only [Act.put, sA_, sB_, sC_, i64_w, i32_w]
      rfl
     refine pure_ (i := 29) (N := some 71) (v := undef) (a' := ?_) (tf_ 30 37) rfl rfl (any_of HT_.out (by kernel_rfl)) (fun _ _ _ h => h) (Or.inr ⟨by rfl, rfl⟩) ?_ ?_
     rotate_left
     ·simp only [Act.put, sA_, sB_, sC_, i64_w, i32_w]
      rfl
     refine aP 30 (some 72) (tf_ 31 37) HT_ ?_
     refine aP 31 (some 73) (tf_ 32 37) HT_ ?_
     refine aP 32 (some 74) (tf_ 33 37) HT_ ?_
     refine aP 33 (some 75) (tf_ 34 37) HT_ ?_
     refine take_ (i := 34) (N := some 76) (v := ?_) (a' := ?_) (tf_ 35 37) rfl rfl (take_ofW HT_.out HW_.out (by kernel_rfl)) (fun _ _ _ h => h) (Or.inl ⟨by rfl, ?_⟩) hHeld ?_ ?_
     rotate_left
     ·rintro w' ⟨s0, s1, s2, s3⟩
      go_simp
      with_reducible rfl
     rotate_left
     ·simp only [Act.put, sA_, sB_, sC_, i64_w, i32_w]
      rfl
     refine aP 35 (some 77) (tf_ 36 37) HT_ ?_
     refine aP 36 (some 78) #[true, true, true, true, true, true, true, true, true, true, true, true, true, true, true, true, true, true, true, true, true, true, true, true, true, true, true, true, true, true, true, true, true, true, true, true, true] HT_ ?_
     refine done_ (done_of HT_.out (by kernel_rfl)) ?_
     try go_wp2
     go_meet
     case rel => exact ⟨_, ((((rd_T45 t267 x38_2).f3) == 0)), aZ, H', ⟨by have := HK1.out; have := HK2.out; first | omega | exact Nat.le_refl _⟩, ⟨aR HO_25⟩, ⟨aR HO_36⟩, ⟨aR HO_262000⟩, ⟨aR HO_262001⟩, ⟨aB BK247⟩, ⟨aB BK261⟩, ⟨aB BK262⟩, ⟨aB BK271⟩, ⟨aL HB⟩⟩
    rw [if_neg c60] at H; have c60b0 : (((rd_T45 t267 x38_2).f3) == 4) = false := beq_eq_false_iff_ne.mpr c60
    have c60b1 : (((rd_T45 t267 x38_2).f3) != 4) = true := bne_iff_ne.mpr c60
    by_cases c62 : 0 ≤ ((rd_T45 t267 x38_2).f1)
    rotate_left
    ·rw [if_neg c62] at H
     exact absurd H (by simp)
    rw [if_pos c62] at H; have c62b0 : decide (0 ≤ ((rd_T45 t267 x38_2).f1)) = true := decide_eq_true c62
    clear c62; by_cases c63 : ((rd_T45 t267 x38_2).f1) < (t252.length : Int)
    rotate_left
    ·rw [if_neg c63] at H
     exact absurd H (by simp)
    rw [if_pos c63] at H; have c63b0 : decide (((rd_T45 t267 x38_2).f1) < (t252.length : Int)) = true := decide_eq_true c63
    clear c63; by_cases c64 : ((rd_T45 t267 x38_2).f3) = (rd t252 ((rd_T45 t267 x38_2).f1))
    rotate_left
    ·rw [if_neg c64] at H
     have c64b0 : (((rd_T45 t267 x38_2).f3) == (rd t252 ((rd_T45 t267 x38_2).f1))) = false := beq_eq_false_iff_ne.mpr c64
     have c64b1 : (((rd_T45 t267 x38_2).f3) != (rd t252 ((rd_T45 t267 x38_2).f1))) = true := bne_iff_ne.mpr c64
     have H' := zA.mk H
     clear H; try go_wp2
     have n0_ := zA.mk (Kd.zH HO_25.out); have n1_ := zA.mk (Kd.zH HO_36.out); have n2_ := zA.mk (Kd.zH HO_262000.out); have n3_ := zA.mk (Kd.zH HO_262001.out); have n4_ := zA.mk (zB BK247.out); have n5_ := zA.mk (zB BK261.out); have n6_ := zA.mk (zB BK262.out); have n7_ := zA.mk (zB BK271.out); have n8_ := zA.mk (below_drew1 HB.out); clear HO_25; clear HO_36; clear HO_262000; clear HO_262001; clear BK247; clear BK261; clear BK262; clear BK271; clear HB; have HO_25 := n0_; have HO_36 := n1_; have HO_262000 := n2_; have HO_262001 := n3_; have BK247 := n4_; have BK261 := n5_; have BK262 := n6_; have BK271 := n7_; have HB := n8_; clear n0_ n1_ n2_ n3_ n4_ n5_ n6_ n7_ n8_; have p272 : 0 ≤ (((rd_T45 t267 x38_2).f1) : Int) := aD
     have q272 : ((rd_T45 t267 x38_2).f1) < (t252.length : Int) := aD
     obtain ⟨ad272, e272, hx272_0⟩ := Kd.at_int (Kd.zM HO_262001.out).2.2 ((rd_T45 t267 x38_2).f1) p272 q272; cases e272
     replace p272 := eq_true p272; replace q272 := eq_true q272; refine start_ (n := 37) (S := fun w' => w'.cell? ⟨gb271, 0, none⟩ = some (.int .i64 ((rd_T45 t267 x38_2).f0)) ∧ w'.cell? ⟨gb271, 1, none⟩ = some (.int .i64 ((rd_T45 t267 x38_2).f1)) ∧ w'.cell? ⟨gb271, 2, none⟩ = some (.int .i64 ((rd_T45 t267 x38_2).f2)) ∧ w'.cell? ⟨gb271, 3, none⟩ = some (.int .u8 ((rd_T45 t267 x38_2).f3)) ∧ w'.cell? ⟨gb261, 0, none⟩ = some (.slice Ao19 t249.length co19) ∧ w'.cell? ⟨gb261, 1, none⟩ = some (.slice (some ad272) t252.length co21) ∧ w'.cell? (ad272.add (((rd_T45 t267 x38_2).f1)).toNat) = some (.int .u8 (rd t252 ((rd_T45 t267 x38_2).f1)))) (ds := []) #[false, false, false, false, false, false, false, false, false, false, false, false, false, false, false, false, false, false, false, false, false, false, false, false, false, false, false, false, false, false, false, false, false, false, false, false, false] (by kernel_rfl) rfl rfl ⟨(zE BK271.out 0).trans rfl, (zE BK271.out 1).trans rfl, (zE BK271.out 2).trans rfl, (zE BK271.out 3).trans rfl, (zE BK261.out 0).trans rfl, (zE BK261.out 1).trans rfl, hx272_0⟩ (fun hHeld => ?_); refine with_tabW l4_FirstLines.tab14 l4_FirstLines.bits14 (fun HT_ HW_ => ?_)
     generalize w54.drew = w66 at HO_25 HO_36 HO_262000 HO_262001 BK247 BK261 BK262 BK271 HB hx272_0 hHeld ⊢
     refine aP 0 (some 42) (tf_ 1 37) HT_ ?_
     refine aP 2 (some 44) #[true, false, true, false, false, false, false, false, false, false, false, false, false, false, false, false, false, false, false, false, false, false, false, false, false, false, false, false, false, false, false, false, false, false, false, false, false] HT_ ?_
     refine take_ (i := 1) (N := some 43) (v := ?_) (a' := ?_) (tf_ 3 37) rfl rfl (take_ofW HT_.out HW_.out (by kernel_rfl)) (fun _ _ _ h => h) (Or.inl ⟨by rfl, ?_⟩) hHeld ?_ ?_
     rotate_left
     ·rintro w' ⟨s0, s1, s2, s3, s4, s5, s6⟩
      go_simp
      with_reducible rfl
     rotate_left
     ·simp only [Act.put, sA_, sB_, sC_, i64_w, i32_w]
      rfl
     refine aP 3 (some 45) (tf_ 4 37) HT_ ?_
     refine aP 4 (some 46) (tf_ 5 37) HT_ ?_
     refine aP 5 (some 47) (tf_ 6 37) HT_ ?_
     refine aP 7 (some 49) #[true, true, true, true, true, true, false, true, false, false, false, false, false, false, false, false, false, false, false, false, false, false, false, false, false, false, false, false, false, false, false, false, false, false, false, false, false] HT_ ?_
     refine take_ (i := 6) (N := some 48) (v := ?_) (a' := ?_) (tf_ 8 37) rfl rfl (take_ofW HT_.out HW_.out (by kernel_rfl)) (fun _ _ _ h => h) (Or.inl ⟨by rfl, ?_⟩) hHeld ?_ ?_
     rotate_left
     ·rintro w' ⟨s0, s1, s2, s3, s4, s5, s6⟩
      go_simp
      with_reducible rfl
     rotate_left
     ·simp only [Act.put, sA_, sB_, sC_, i64_w, i32_w]
      rfl
     refine aP 8 (some 50) (tf_ 9 37) HT_ ?_
     refine aP 9 (some 51) (tf_ 10 37) HT_ ?_
     refine aP 10 (some 52) (tf_ 11 37) HT_ ?_
     refine aP 11 (some 53) (tf_ 12 37) HT_ ?_
     refine aP 13 (some 55) #[true, true, true, true, true, true, true, true, true, true, true, true, false, true, false, false, false, false, false, false, false, false, false, false, false, false, false, false, false, false, false, false, false, false, false, false, false] HT_ ?_
     refine take_ (i := 12) (N := some 54) (v := ?_) (a' := ?_) (tf_ 14 37) rfl rfl (take_ofW HT_.out HW_.out (by kernel_rfl)) (fun _ _ _ h => h) (Or.inl ⟨by rfl, ?_⟩) hHeld ?_ ?_
     rotate_left
     ·rintro w' ⟨s0, s1, s2, s3, s4, s5, s6⟩
      go_simp
      with_reducible rfl
     rotate_left
     ·simp only [Act.put, sA_, sB_, sC_, i64_w, i32_w]
      rfl
     refine aP 14 (some 56) (tf_ 15 37) HT_ ?_
     refine aP 15 (some 57) (tf_ 16 37) HT_ ?_
     refine aP 16 (some 58) (tf_ 17 37) HT_ ?_
     refine aP 17 (some 59) (tf_ 18 37) HT_ ?_
     refine take_ (i := 18) (N := some 60) (v := ?_) (a' := ?_) (tf_ 19 37) rfl rfl (take_ofW HT_.out HW_.out (by kernel_rfl)) (fun _ _ _ h => h) (Or.inl ⟨by rfl, ?_⟩) hHeld ?_ ?_
     rotate_left
     ·rintro w' ⟨s0, s1, s2, s3, s4, s5, s6⟩
      go_simp
      with_reducible rfl
     rotate_left
     ·simp only [Act.put, sA_, sB_, sC_, i64_w, i32_w]
      rfl
     refine aP 19 (some 61) (tf_ 20 37) HT_ ?_
     refine aP 20 (some 62) (tf_ 21 37) HT_ ?_
     refine aP 21 (some 63) (tf_ 22 37) HT_ ?_
     refine aP 23 (some 65) #[true, true, true, true, true, true, true, true, true, true, true, true, true, true, true, true, true, true, true, true, true, true, false, true, false, false, false, false, false, false, false, false, false, false, false, false, false] HT_ ?_
     refine aP 25 (some 67) #[true, true, true, true, true, true, true, true, true, true, true, true, true, true, true, true, true, true, true, true, true, true, false, true, false, true, false, false, false, false, false, false, false, false, false, false, false] HT_ ?_
     refine take_ (i := 22) (N := some 64) (v := ?_) (a' := ?_) #[true, true, true, true, true, true, true, true, true, true, true, true, true, true, true, true, true, true, true, true, true, true, true, true, false, true, false, false, false, false, false, false, false, false, false, false, false] rfl rfl (take_ofW HT_.out HW_.out (by kernel_rfl)) (fun _ _ _ h => h) (Or.inl ⟨by rfl, ?_⟩) hHeld ?_ ?_
     rotate_left
     ·rintro w' ⟨s0, s1, s2, s3, s4, s5, s6⟩
      go_simp
      with_reducible rfl
     rotate_left
     ·simp only [Act.put, sA_, sB_, sC_, i64_w, i32_w]
      rfl
     refine take_ (i := 24) (N := some 66) (v := ?_) (a' := ?_) (tf_ 26 37) rfl rfl (take_ofW HT_.out HW_.out (by kernel_rfl)) (fun _ _ _ h => h) (Or.inl ⟨by rfl, ?_⟩) hHeld ?_ ?_
     rotate_left
     ·rintro w' ⟨s0, s1, s2, s3, s4, s5, s6⟩
      go_simp
      with_reducible rfl
     rotate_left
     ·simp only [Act.put, sA_, sB_, sC_, i64_w, i32_w]
      rfl
     refine take_ (i := 26) (N := some 68) (v := ?_) (a' := ?_) (tf_ 27 37) rfl rfl (take_ofW HT_.out HW_.out (by kernel_rfl)) (fun _ _ _ h => h) (Or.inl ⟨by rfl, ?_⟩) hHeld ?_ ?_
     rotate_left
     ·rintro w' ⟨s0, s1, s2, s3, s4, s5, s6⟩
      go_simp
      with_reducible rfl
     rotate_left
     ·simp only [Act.put, sA_, sB_, sC_, i64_w, i32_w]
      rfl
     refine aP 27 (some 69) (tf_ 28 37) HT_ ?_
     refine take_ (i := 28) (N := some 70) (v := ?_) (a' := ?_) (tf_ 29 37) rfl rfl (take_ofW HT_.out HW_.out (by kernel_rfl)) (fun _ _ _ h => h) (Or.inl ⟨by rfl, ?_⟩) hHeld ?_ ?_
     rotate_left
     ·rintro w' ⟨s0, s1, s2, s3, s4, s5, s6⟩
      go_simp
      with_reducible rfl
     rotate_left
     ·simp only [Act.put, sA_, sB_, sC_, i64_w, i32_w]
      rfl
     refine aP 29 (some 71) (tf_ 30 37) HT_ ?_
     refine aP 30 (some 72) (tf_ 31 37) HT_ ?_
     refine aP 31 (some 73) (tf_ 32 37) HT_ ?_
     refine aP 32 (some 74) (tf_ 33 37) HT_ ?_
     refine pure_ (i := 33) (N := some 75) (v := undef) (a' := ?_) (tf_ 34 37) rfl rfl (any_of HT_.out (by kernel_rfl)) (fun _ _ _ h => h) (Or.inr ⟨by rfl, rfl⟩) ?_ ?_
     rotate_left
     ·simp only [Act.put, sA_, sB_, sC_, i64_w, i32_w]
      rfl
     refine pure_ (i := 34) (N := some 76) (v := undef) (a' := ?_) (tf_ 35 37) rfl rfl (any_of HT_.out (by kernel_rfl)) (fun _ _ _ h => h) (Or.inr ⟨by rfl, rfl⟩) ?_ ?_
     rotate_left
     ·simp only [Act.put, sA_, sB_, sC_, i64_w, i32_w]
      rfl
     refine pure_ (i := 35) (N := some 77) (v := undef) (a' := ?_) (tf_ 36 37) rfl rfl (any_of HT_.out (by kernel_rfl)) (fun _ _ _ h => h) (Or.inr ⟨by rfl, rfl⟩) ?_ ?_
     rotate_left
     ·simp only [Act.put, sA_, sB_, sC_, i64_w, i32_w]
      rfl
     refine aP 36 (some 78) #[true, true, true, true, true, true, true, true, true, true, true, true, true, true, true, true, true, true, true, true, true, true, true, true, true, true, true, true, true, true, true, true, true, true, true, true, true] HT_ ?_
     refine done_ (done_of HT_.out (by kernel_rfl)) ?_
     try go_wp2
     go_meet
     case rel => exact ⟨_, (true), aZ, H', ⟨by have := HK1.out; have := HK2.out; first | omega | exact Nat.le_refl _⟩, ⟨aR HO_25⟩, ⟨aR HO_36⟩, ⟨aR HO_262000⟩, ⟨aR HO_262001⟩, ⟨aB BK247⟩, ⟨aB BK261⟩, ⟨aB BK262⟩, ⟨aB BK271⟩, ⟨aL HB⟩⟩
    rw [if_pos c64] at H; have c64b0 : (((rd_T45 t267 x38_2).f3) == (rd t252 ((rd_T45 t267 x38_2).f1))) = true := beq_iff_eq.mpr c64
    have c64b1 : (((rd_T45 t267 x38_2).f3) != (rd t252 ((rd_T45 t267 x38_2).f1))) = false := bne_eq_false_iff_eq.mpr c64
    clear c64; have H' := zA.mk H
    clear H; try go_wp2
    have n0_ := zA.mk (Kd.zH HO_25.out); have n1_ := zA.mk (Kd.zH HO_36.out); have n2_ := zA.mk (Kd.zH HO_262000.out); have n3_ := zA.mk (Kd.zH HO_262001.out); have n4_ := zA.mk (zB BK247.out); have n5_ := zA.mk (zB BK261.out); have n6_ := zA.mk (zB BK262.out); have n7_ := zA.mk (zB BK271.out); have n8_ := zA.mk (below_drew1 HB.out); clear HO_25; clear HO_36; clear HO_262000; clear HO_262001; clear BK247; clear BK261; clear BK262; clear BK271; clear HB; have HO_25 := n0_; have HO_36 := n1_; have HO_262000 := n2_; have HO_262001 := n3_; have BK247 := n4_; have BK261 := n5_; have BK262 := n6_; have BK271 := n7_; have HB := n8_; clear n0_ n1_ n2_ n3_ n4_ n5_ n6_ n7_ n8_; have p272 : 0 ≤ (((rd_T45 t267 x38_2).f1) : Int) := aD
    have q272 : ((rd_T45 t267 x38_2).f1) < (t252.length : Int) := aD
    obtain ⟨ad272, e272, hx272_0⟩ := Kd.at_int (Kd.zM HO_262001.out).2.2 ((rd_T45 t267 x38_2).f1) p272 q272; cases e272
    replace p272 := eq_true p272; replace q272 := eq_true q272; refine start_ (n := 37) (S := fun w' => w'.cell? ⟨gb271, 0, none⟩ = some (.int .i64 ((rd_T45 t267 x38_2).f0)) ∧ w'.cell? ⟨gb271, 1, none⟩ = some (.int .i64 ((rd_T45 t267 x38_2).f1)) ∧ w'.cell? ⟨gb271, 2, none⟩ = some (.int .i64 ((rd_T45 t267 x38_2).f2)) ∧ w'.cell? ⟨gb271, 3, none⟩ = some (.int .u8 ((rd_T45 t267 x38_2).f3)) ∧ w'.cell? ⟨gb261, 0, none⟩ = some (.slice Ao19 t249.length co19) ∧ w'.cell? ⟨gb261, 1, none⟩ = some (.slice (some ad272) t252.length co21) ∧ w'.cell? (ad272.add (((rd_T45 t267 x38_2).f1)).toNat) = some (.int .u8 (rd t252 ((rd_T45 t267 x38_2).f1)))) (ds := []) #[false, false, false, false, false, false, false, false, false, false, false, false, false, false, false, false, false, false, false, false, false, false, false, false, false, false, false, false, false, false, false, false, false, false, false, false, false] (by kernel_rfl) rfl rfl ⟨(zE BK271.out 0).trans rfl, (zE BK271.out 1).trans rfl, (zE BK271.out 2).trans rfl, (zE BK271.out 3).trans rfl, (zE BK261.out 0).trans rfl, (zE BK261.out 1).trans rfl, hx272_0⟩ (fun hHeld => ?_); refine with_tabW l4_FirstLines.tab14 l4_FirstLines.bits14 (fun HT_ HW_ => ?_)
    generalize w54.drew = w65 at HO_25 HO_36 HO_262000 HO_262001 BK247 BK261 BK262 BK271 HB hx272_0 hHeld ⊢
    refine aP 0 (some 42) (tf_ 1 37) HT_ ?_
    refine aP 2 (some 44) #[true, false, true, false, false, false, false, false, false, false, false, false, false, false, false, false, false, false, false, false, false, false, false, false, false, false, false, false, false, false, false, false, false, false, false, false, false] HT_ ?_
    refine take_ (i := 1) (N := some 43) (v := ?_) (a' := ?_) (tf_ 3 37) rfl rfl (take_ofW HT_.out HW_.out (by kernel_rfl)) (fun _ _ _ h => h) (Or.inl ⟨by rfl, ?_⟩) hHeld ?_ ?_
    rotate_left
    ·rintro w' ⟨s0, s1, s2, s3, s4, s5, s6⟩
     go_simp
     with_reducible rfl
    rotate_left
    ·simp only [Act.put, sA_, sB_, sC_, i64_w, i32_w]
     rfl
    refine aP 3 (some 45) (tf_ 4 37) HT_ ?_
    refine aP 4 (some 46) (tf_ 5 37) HT_ ?_
    refine aP 5 (some 47) (tf_ 6 37) HT_ ?_
    refine aP 7 (some 49) #[true, true, true, true, true, true, false, true, false, false, false, false, false, false, false, false, false, false, false, false, false, false, false, false, false, false, false, false, false, false, false, false, false, false, false, false, false] HT_ ?_
    refine take_ (i := 6) (N := some 48) (v := ?_) (a' := ?_) (tf_ 8 37) rfl rfl (take_ofW HT_.out HW_.out (by kernel_rfl)) (fun _ _ _ h => h) (Or.inl ⟨by rfl, ?_⟩) hHeld ?_ ?_
    rotate_left
    ·rintro w' ⟨s0, s1, s2, s3, s4, s5, s6⟩
     go_simp
     with_reducible rfl
    rotate_left
    ·simp only [Act.put, sA_, sB_, sC_, i64_w, i32_w]
     rfl
    refine aP 8 (some 50) (tf_ 9 37) HT_ ?_
    refine aP 9 (some 51) (tf_ 10 37) HT_ ?_
    refine aP 10 (some 52) (tf_ 11 37) HT_ ?_
    refine aP 11 (some 53) (tf_ 12 37) HT_ ?_
    refine aP 13 (some 55) #[true, true, true, true, true, true, true, true, true, true, true, true, false, true, false, false, false, false, false, false, false, false, false, false, false, false, false, false, false, false, false, false, false, false, false, false, false] HT_ ?_
    refine take_ (i := 12) (N := some 54) (v := ?_) (a' := ?_) (tf_ 14 37) rfl rfl (take_ofW HT_.out HW_.out (by kernel_rfl)) (fun _ _ _ h => h) (Or.inl ⟨by rfl, ?_⟩) hHeld ?_ ?_
    rotate_left
    ·rintro w' ⟨s0, s1, s2, s3, s4, s5, s6⟩
     go_simp
     with_reducible rfl
    rotate_left
    ·simp only [Act.put, sA_, sB_, sC_, i64_w, i32_w]
     rfl
    refine aP 14 (some 56) (tf_ 15 37) HT_ ?_
    refine aP 15 (some 57) (tf_ 16 37) HT_ ?_
    refine aP 16 (some 58) (tf_ 17 37) HT_ ?_
    refine aP 17 (some 59) (tf_ 18 37) HT_ ?_
    refine take_ (i := 18) (N := some 60) (v := ?_) (a' := ?_) (tf_ 19 37) rfl rfl (take_ofW HT_.out HW_.out (by kernel_rfl)) (fun _ _ _ h => h) (Or.inl ⟨by rfl, ?_⟩) hHeld ?_ ?_
    rotate_left
    ·rintro w' ⟨s0, s1, s2, s3, s4, s5, s6⟩
     go_simp
     with_reducible rfl
    rotate_left
    ·simp only [Act.put, sA_, sB_, sC_, i64_w, i32_w]
     rfl
    refine aP 19 (some 61) (tf_ 20 37) HT_ ?_
    refine aP 20 (some 62) (tf_ 21 37) HT_ ?_
    refine aP 21 (some 63) (tf_ 22 37) HT_ ?_
    refine aP 23 (some 65) #[true, true, true, true, true, true, true, true, true, true, true, true, true, true, true, true, true, true, true, true, true, true, false, true, false, false, false, false, false, false, false, false, false, false, false, false, false] HT_ ?_
    refine aP 25 (some 67) #[true, true, true, true, true, true, true, true, true, true, true, true, true, true, true, true, true, true, true, true, true, true, false, true, false, true, false, false, false, false, false, false, false, false, false, false, false] HT_ ?_
    refine take_ (i := 22) (N := some 64) (v := ?_) (a' := ?_) #[true, true, true, true, true, true, true, true, true, true, true, true, true, true, true, true, true, true, true, true, true, true, true, true, false, true, false, false, false, false, false, false, false, false, false, false, false] rfl rfl (take_ofW HT_.out HW_.out (by kernel_rfl)) (fun _ _ _ h => h) (Or.inl ⟨by rfl, ?_⟩) hHeld ?_ ?_
    rotate_left
    ·rintro w' ⟨s0, s1, s2, s3, s4, s5, s6⟩
     go_simp
     with_reducible rfl
    rotate_left
    ·simp only [Act.put, sA_, sB_, sC_, i64_w, i32_w]
     rfl
    refine take_ (i := 24) (N := some 66) (v := ?_) (a' := ?_) (tf_ 26 37) rfl rfl (take_ofW HT_.out HW_.out (by kernel_rfl)) (fun _ _ _ h => h) (Or.inl ⟨by rfl, ?_⟩) hHeld ?_ ?_
    rotate_left
    ·rintro w' ⟨s0, s1, s2, s3, s4, s5, s6⟩
     go_simp
     with_reducible rfl
    rotate_left
    ·simp only [Act.put, sA_, sB_, sC_, i64_w, i32_w]
     rfl
    refine take_ (i := 26) (N := some 68) (v := ?_) (a' := ?_) (tf_ 27 37) rfl rfl (take_ofW HT_.out HW_.out (by kernel_rfl)) (fun _ _ _ h => h) (Or.inl ⟨by rfl, ?_⟩) hHeld ?_ ?_
    rotate_left
    ·rintro w' ⟨s0, s1, s2, s3, s4, s5, s6⟩
     go_simp
     with_reducible rfl
    rotate_left
    ·simp only [Act.put, sA_, sB_, sC_, i64_w, i32_w]
     rfl
    refine aP 27 (some 69) (tf_ 28 37) HT_ ?_
    refine take_ (i := 28) (N := some 70) (v := ?_) (a' := ?_) (tf_ 29 37) rfl rfl (take_ofW HT_.out HW_.out (by kernel_rfl)) (fun _ _ _ h => h) (Or.inl ⟨by rfl, ?_⟩) hHeld ?_ ?_
    rotate_left
    ·rintro w' ⟨s0, s1, s2, s3, s4, s5, s6⟩
     go_simp
     with_reducible rfl
    rotate_left
    ·simp only [Act.put, sA_, sB_, sC_, i64_w, i32_w]
     rfl
    refine aP 29 (some 71) (tf_ 30 37) HT_ ?_
    refine aP 30 (some 72) (tf_ 31 37) HT_ ?_
    refine aP 31 (some 73) (tf_ 32 37) HT_ ?_
    refine aP 32 (some 74) (tf_ 33 37) HT_ ?_
    refine aP 33 (some 75) (tf_ 34 37) HT_ ?_
    refine take_ (i := 34) (N := some 76) (v := ?_) (a' := ?_) (tf_ 35 37) rfl rfl (take_ofW HT_.out HW_.out (by kernel_rfl)) (fun _ _ _ h => h) (Or.inl ⟨by rfl, ?_⟩) hHeld ?_ ?_
    rotate_left
    ·rintro w' ⟨s0, s1, s2, s3, s4, s5, s6⟩
     go_simp
     with_reducible rfl
    rotate_left
    ·simp only [Act.put, sA_, sB_, sC_, i64_w, i32_w]
     rfl
    refine aP 35 (some 77) (tf_ 36 37) HT_ ?_
    refine aP 36 (some 78) #[true, true, true, true, true, true, true, true, true, true, true, true, true, true, true, true, true, true, true, true, true, true, true, true, true, true, true, true, true, true, true, true, true, true, true, true, true] HT_ ?_
    refine done_ (done_of HT_.out (by kernel_rfl)) ?_
    try go_wp2
    go_meet
    case rel => exact ⟨_, ((((rd_T45 t267 x38_2).f3) == 0)), aZ, H', ⟨by have := HK1.out; have := HK2.out; first | omega | exact Nat.le_refl _⟩, ⟨aR HO_25⟩, ⟨aR HO_36⟩, ⟨aR HO_262000⟩, ⟨aR HO_262001⟩, ⟨aB BK247⟩, ⟨aB BK261⟩, ⟨aB BK262⟩, ⟨aB BK271⟩, ⟨aL HB⟩⟩
   clear HC48; try clear p2
   try clear q2
   try clear hx2
   try clear c5
   try clear c6
   try clear p27
   try clear q27
   try clear hx27
   try clear c55
   try clear c55b0
   try clear c55b1
   try clear c62
   try clear c63
   try clear c64
   try clear c64b0
   try clear c64b1
   try clear hx272_0
   try clear p272
   try clear q272
   obtain ⟨kq, x78_47, rfl, HA, HJ47, HO_25, HO_36, HO_262000, HO_262001, BK247, BK261, BK262, BK271, HB⟩ := hcut; cases kq with
   | zero => exact absurd HA.out (by simp [l4_FirstLines.j2])
   | succ kj47 =>
    have H := HA.out; clear HA; simp only [l4_FirstLines.j2] at H; by_cases c68 : x78_47 = true
    ·subst c68
     have H1 : (some false) = some r := by rw [if_pos rfl] at H; exact H
     clear H; have H := H1; clear H1; exact absurd ((Option.some.inj H).trans hrt_.out) (by decide)
    replace c68 := Bool.eq_false_iff.mpr c68; subst c68; have H1 : (if ((rd_T45 t267 x38_2).f2) > t255 then (if ((rd_T45 t267 x38_2).f1) = (wrap64 (x10_2 + 1)) then ((span_Trim.f kj47 t249 t252 x10_2 ((rd_T45 t267 x38_2).f1)).bind fun t273 => (l4_FirstLines.j3 kj47 (rd t263 x27_1) x10_2 t263 (t263.length : Int) x27_1 t267 (t267.length : Int) x38_2 (t273 != (wrap64 (x10_2 + 1))) t249 t252 t255 t256 t257 t258 t259 t260 ((rd_T45 t267 x38_2).f0) ((rd_T45 t267 x38_2).f1) ((rd_T45 t267 x38_2).f2) ((rd_T45 t267 x38_2).f3))) else (l4_FirstLines.j3 kj47 (rd t263 x27_1) x10_2 t263 (t263.length : Int) x27_1 t267 (t267.length : Int) x38_2 true t249 t252 t255 t256 t257 t258 t259 t260 ((rd_T45 t267 x38_2).f0) ((rd_T45 t267 x38_2).f1) ((rd_T45 t267 x38_2).f2) ((rd_T45 t267 x38_2).f3))) else (l4_FirstLines.j3 kj47 (rd t263 x27_1) x10_2 t263 (t263.length : Int) x27_1 t267 (t267.length : Int) x38_2 false t249 t252 t255 t256 t257 t258 t259 t260 ((rd_T45 t267 x38_2).f0) ((rd_T45 t267 x38_2).f1) ((rd_T45 t267 x38_2).f2) ((rd_T45 t267 x38_2).f3))) = some r := by rw [if_neg (show ¬ (false = true) by decide)] at H; exact H
    clear H; have H := H1; clear H1; have HC69 := zA.mk H; clear H; go_upto_region 16 with (fail)
    go_cut [100] (fun v100 wc => ∃ (kq : Nat) (x100_68 : Bool), v100 = .bool x100_68 ∧ zA (l4_FirstLines.j3 kq (rd t263 x27_1) x10_2 t263 (t263.length : Int) x27_1 t267 (t267.length : Int) x38_2 x100_68 t249 t252 t255 t256 t257 t258 t259 t260 ((rd_T45 t267 x38_2).f0) ((rd_T45 t267 x38_2).f1) ((rd_T45 t267 x38_2).f2) ((rd_T45 t267 x38_2).f3) = some r) ∧ zA (kq ≤ kj47) ∧ zA (Kd.R (Kd.int .i64) 3 wc w.heap.size (fun _ => True) (.slice (some ad266) t263.length co33) t263) ∧ zA (Kd.R k45 45 wc w.heap.size (fun k_ => k_ ≠ gb271) (.slice (some ad270) t267.length co44) t267) ∧ zA (Kd.R k61 61 wc w.heap.size (fun _ => True) (.slice Ao19 t249.length co19) t249) ∧ zA (Kd.R (Kd.int .u8) 43 wc w.heap.size (fun _ => True) (.slice Ao21 t252.length co21) t252) ∧ zA (wc.heap[gb247]? = some (.cells #[.int .u8 a1_0, .int .u8 a1_1, .int .u8 a1_2, .int .u16 a1_3, .int .u16 a1_4, .float .f64 a1_5] 26 (0, 0))) ∧ zA (wc.heap[gb261]? = some (.cells #[(.slice Ao19 t249.length co19), (.slice Ao21 t252.length co21)] 31 (0, 0))) ∧ zA (wc.heap[gb262]? = some (.cells #[.int .i64 t255, .int .i64 t256, .int .u8 t257, .int .i64 t258, .int .i64 t259, .float .f64 t260] 35 (0, 0))) ∧ zA (wc.heap[gb271]? = some (.cells #[.int .i64 ((rd_T45 t267 x38_2).f0), .int .i64 ((rd_T45 t267 x38_2).f1), .int .i64 ((rd_T45 t267 x38_2).f2), .int .u8 ((rd_T45 t267 x38_2).f3)] 45 (0, 0))) ∧ zA (Below w.heap.size w wc))
    case first =>
     have H := HC69.out; clear HC69; by_cases c70 : ((rd_T45 t267 x38_2).f2) > t255
     rotate_left
     ·rw [if_neg c70] at H
      have c70b0 : decide (t255 < ((rd_T45 t267 x38_2).f2)) = false := decide_eq_false c70
      clear c70; (first | rw [c70b0] | (simp only [i64_w, i32_w]; rw [c70b0]) | skip)
      have H' := zA.mk H
      clear H; have hnb90 := NB271_247.out; have hnc90 := NB247_271.out; have hnb91 := NB271_261.out; have hnc91 := NB261_271.out; have hnb92 := NB271_262.out; have hnc92 := NB262_271.out; obtain ⟨hcz93_0, hcz93_1, hcz93_2, hcz93_3, hfz93_0, hfz93_1, hfz93_2, hfz93_3⟩ := aC4 BK271; have hnb94 := NB262_247.out; have hnc94 := NB247_262.out; have hnb95 := NB262_261.out; have hnc95 := NB261_262.out; obtain ⟨hcz96_0, hcz96_1, hcz96_2, hcz96_3, hcz96_4, hcz96_5, hfz96_0, hfz96_1, hfz96_2, hfz96_3, hfz96_4, hfz96_5⟩ := aC6 BK262; go_wp2
      go_meet
      case rel => exact ⟨_, (false), aZ, H', ⟨by have := HK1.out; have := HK2.out; have := HJ47.out; first | omega | exact Nat.le_refl _⟩, ⟨aR HO_25⟩, ⟨aR HO_36⟩, ⟨aR HO_262000⟩, ⟨aR HO_262001⟩, ⟨aB BK247⟩, ⟨aB BK261⟩, ⟨aB BK262⟩, ⟨aB BK271⟩, ⟨aL HB⟩⟩
     rw [if_pos c70] at H; have c70b0 : decide (t255 < ((rd_T45 t267 x38_2).f2)) = true := decide_eq_true c70
     clear c70; (first | rw [c70b0] | (simp only [i64_w, i32_w]; rw [c70b0]) | skip)
     by_cases c71 : ((rd_T45 t267 x38_2).f1) = (wrap64 (x10_2 + 1))
     rotate_left
     ·rw [if_neg c71] at H
      have c71b0 : (((rd_T45 t267 x38_2).f1) == (wrap64 (x10_2 + 1))) = false := beq_eq_false_iff_ne.mpr c71
      have c71b1 : (((rd_T45 t267 x38_2).f1) != (wrap64 (x10_2 + 1))) = true := bne_iff_ne.mpr c71
      have H' := zA.mk H
      clear H; have hnb83 := NB271_247.out; have hnc83 := NB247_271.out; have hnb84 := NB271_261.out; have hnc84 := NB261_271.out; have hnb85 := NB271_262.out; have hnc85 := NB262_271.out; obtain ⟨hcz86_0, hcz86_1, hcz86_2, hcz86_3, hfz86_0, hfz86_1, hfz86_2, hfz86_3⟩ := aC4 BK271; have hnb87 := NB262_247.out; have hnc87 := NB247_262.out; have hnb88 := NB262_261.out; have hnc88 := NB261_262.out; obtain ⟨hcz89_0, hcz89_1, hcz89_2, hcz89_3, hcz89_4, hcz89_5, hfz89_0, hfz89_1, hfz89_2, hfz89_3, hfz89_4, hfz89_5⟩ := aC6 BK262; go_wp2
      go_meet
      case rel => exact ⟨_, (true), aZ, H', ⟨by have := HK1.out; have := HK2.out; have := HJ47.out; first | omega | exact Nat.le_refl _⟩, ⟨aR HO_25⟩, ⟨aR HO_36⟩, ⟨aR HO_262000⟩, ⟨aR HO_262001⟩, ⟨aB BK247⟩, ⟨aB BK261⟩, ⟨aB BK262⟩, ⟨aB BK271⟩, ⟨aL HB⟩⟩
     rw [if_pos c71] at H; have c71b0 : (((rd_T45 t267 x38_2).f1) == (wrap64 (x10_2 + 1))) = true := beq_iff_eq.mpr c71
     have c71b1 : (((rd_T45 t267 x38_2).f1) != (wrap64 (x10_2 + 1))) = false := bne_eq_false_iff_eq.mpr c71
     clear c71; replace H := Option.bind_eq_some_iff.mp H; obtain ⟨t273, A720, H⟩ := H; replace H : (l4_FirstLines.j3 kj47 (rd t263 x27_1) x10_2 t263 (t263.length : Int) x27_1 t267 (t267.length : Int) x38_2 (t273 != (wrap64 (x10_2 + 1))) t249 t252 t255 t256 t257 t258 t259 t260 ((rd_T45 t267 x38_2).f0) ((rd_T45 t267 x38_2).f1) ((rd_T45 t267 x38_2).f2) ((rd_T45 t267 x38_2).f3)) = some r := H; have A72 := zA.mk A720; clear A720; have H' := zA.mk H
     clear H; have hnb73 := NB271_247.out; have hnc73 := NB247_271.out; have hnb74 := NB271_261.out; have hnc74 := NB261_271.out; have hnb75 := NB271_262.out; have hnc75 := NB262_271.out; obtain ⟨hcz76_0, hcz76_1, hcz76_2, hcz76_3, hfz76_0, hfz76_1, hfz76_2, hfz76_3⟩ := aC4 BK271; have hnb77 := NB262_247.out; have hnc77 := NB247_262.out; have hnb78 := NB262_261.out; have hnc78 := NB261_262.out; obtain ⟨hcz79_0, hcz79_1, hcz79_2, hcz79_3, hcz79_4, hcz79_5, hfz79_0, hfz79_1, hfz79_2, hfz79_3, hfz79_4, hfz79_5⟩ := aC6 BK262; have hnb80 := NB261_247.out; have hnc80 := NB247_261.out; obtain ⟨hcz81_0, hcz81_1, hfz81_0, hfz81_1⟩ := aC2 BK261; go_wp2_with (first | (go_at_call 19; (with_reducible refine (span_Trim.calls kj47 _ _ t249 _ _ t252 x10_2 ((rd_T45 t267 x38_2).f1) t273 _ ?side1 ?side2 ?side3 ?side4 A72.out).mono ?_); (case side1 => exact aF HO_262000); (case side2 => exact (Kd.zM HO_262000.out).2.1); (case side3 => exact aF HO_262001); (case side4 => exact (Kd.zM HO_262001.out).2.1); rintro e w82 ⟨rfl, hb⟩; have n0_ := zA.mk (Kd.zN (aR HO_25) hb); have n1_ := zA.mk (Kd.zN (aR HO_36) hb); have n2_ := zA.mk (Kd.zN (aR HO_262000) hb); have n3_ := zA.mk (Kd.zN (aR HO_262001) hb); have n4_ := zA.mk (blk_below (g := gb247) (o := .cells #[.int .u8 a1_0, .int .u8 a1_1, .int .u8 a1_2, .int .u16 a1_3, .int .u16 a1_4, .float .f64 a1_5] 26 (0, 0)) (aB BK247) hb); have n5_ := zA.mk (blk_below (g := gb261) (o := .cells #[.slice Ao19 t249.length co19, .slice Ao21 t252.length co21] 31 (0, 0)) (aB BK261) hb); have n6_ := zA.mk (blk_below (g := gb262) (o := .cells #[.int .i64 t255, .int .i64 t256, .int .u8 t257, .int .i64 t258, .int .i64 t259, .float .f64 t260] 35 (0, 0)) (aB BK262) hb); have n7_ := zA.mk (blk_below (g := gb271) (o := .cells #[.int .i64 ((rd_T45 t267 x38_2).f0), .int .i64 ((rd_T45 t267 x38_2).f1), .int .i64 ((rd_T45 t267 x38_2).f2), .int .u8 ((rd_T45 t267 x38_2).f3)] 45 (0, 0)) (aB BK271) hb); have n8_ := zA.mk (below_step (aL HB) hb); clear HO_25; clear HO_36; clear HO_262000; clear HO_262001; clear BK247; clear BK261; clear BK262; clear BK271; clear HB; have HO_25 := n0_; have HO_36 := n1_; have HO_262000 := n2_; have HO_262001 := n3_; have BK247 := n4_; have BK261 := n5_; have BK262 := n6_; have BK271 := n7_; have HB := n8_; clear n0_ n1_ n2_ n3_ n4_ n5_ n6_ n7_ n8_; (try clear hb); (try clear hb2); (try clear hk); (try clear hi)))
     go_meet
     case rel => exact ⟨_, ((t273 != (wrap64 (x10_2 + 1)))), aZ, H', ⟨by have := HK1.out; have := HK2.out; have := HJ47.out; first | omega | exact Nat.le_refl _⟩, ⟨aR HO_25⟩, ⟨aR HO_36⟩, ⟨aR HO_262000⟩, ⟨aR HO_262001⟩, ⟨aB BK247⟩, ⟨aB BK261⟩, ⟨aB BK262⟩, ⟨aB BK271⟩, ⟨aL HB⟩⟩
    clear HC69; try clear p2
    try clear q2
    try clear hx2
    try clear c5
    try clear c6
    try clear p6
    try clear c7
    try clear c8
    try clear c9
    try clear p27
    try clear q27
    try clear hx27
    try clear c55
    try clear c55b0
    try clear c55b1
    try clear c62
    try clear c63
    try clear c64
    try clear c64b0
    try clear c64b1
    try clear p64
    try clear c68
    try clear c70
    try clear c70b0
    try clear c71
    try clear c71b0
    try clear c71b1
    try clear c73
    try clear c74
    try clear c75
    try clear c77
    try clear c78
    try clear c80
    try clear c83
    try clear c84
    try clear c85
    try clear c87
    try clear c88
    try clear c90
    try clear c91
    try clear c92
    try clear c94
    try clear c95
    try clear hcz76_0
    try clear hcz76_1
    try clear hcz76_2
    try clear hcz76_3
    try clear hcz79_0
    try clear hcz79_1
    try clear hcz79_2
    try clear hcz79_3
    try clear hcz79_4
    try clear hcz79_5
    try clear hcz81_0
    try clear hcz81_1
    try clear hcz86_0
    try clear hcz86_1
    try clear hcz86_2
    try clear hcz86_3
    try clear hcz89_0
    try clear hcz89_1
    try clear hcz89_2
    try clear hcz89_3
    try clear hcz89_4
    try clear hcz89_5
    try clear hcz93_0
    try clear hcz93_1
    try clear hcz93_2
    try clear hcz93_3
    try clear hcz96_0
    try clear hcz96_1
    try clear hcz96_2
    try clear hcz96_3
    try clear hcz96_4
    try clear hcz96_5
    try clear hfz76_0
    try clear hfz76_1
    try clear hfz76_2
    try clear hfz76_3
    try clear hfz79_0
    try clear hfz79_1
    try clear hfz79_2
    try clear hfz79_3
    try clear hfz79_4
    try clear hfz79_5
    try clear hfz81_0
    try clear hfz81_1
    try clear hfz86_0
    try clear hfz86_1
    try clear hfz86_2
    try clear hfz86_3
    try clear hfz89_0
    try clear hfz89_1
    try clear hfz89_2
    try clear hfz89_3
    try clear hfz89_4
    try clear hfz89_5
    try clear hfz93_0
    try clear hfz93_1
    try clear hfz93_2
    try clear hfz93_3
    try clear hfz96_0
    try clear hfz96_1
    try clear hfz96_2
    try clear hfz96_3
    try clear hfz96_4
    try clear hfz96_5
    try clear hx272_0
    try clear p2
    try clear p27
    try clear p272
    try clear q2
    try clear q27
    try clear q272
    obtain ⟨kq, x100_68, rfl, HA, HJ68, HO_25, HO_36, HO_262000, HO_262001, BK247, BK261, BK262, BK271, HB⟩ := hcut; cases kq with
    | zero => exact absurd HA.out (by simp [l4_FirstLines.j3])
    | succ kj68 =>
     have H := HA.out; clear HA; simp only [l4_FirstLines.j3] at H; by_cases c97 : x100_68 = true
     ·subst c97
      have H1 : (some false) = some r := by rw [if_pos rfl] at H; exact H
      clear H; have H := H1; clear H1; exact absurd ((Option.some.inj H).trans hrt_.out) (by decide)
     replace c97 := Bool.eq_false_iff.mpr c97; subst c97; have H1 : (l4_FirstLines.l2 kj68 (rd t263 x27_1) x10_2 (wrap64 (x10_2 + 1)) t263 (t263.length : Int) x27_1 t267 (t267.length : Int) x38_2 t249 t252 t255 t256 t257 t258 t259 t260 ((rd_T45 t267 x38_2).f0) ((rd_T45 t267 x38_2).f1) ((rd_T45 t267 x38_2).f2) ((rd_T45 t267 x38_2).f3)) = some r := by rw [if_neg (show ¬ (false = true) by decide)] at H; exact H
     clear H; have H := H1; clear H1; have H' := zA.mk H
     clear H; go_wp2
     go_loopg [13] kj68 (fun kq v13 w' => ∃ (x13_5 : Int), v13 = .int .i64 x13_5 ∧ zA (l4_FirstLines.l2 kq (rd t263 x27_1) x10_2 x13_5 t263 (t263.length : Int) x27_1 t267 (t267.length : Int) x38_2 t249 t252 t255 t256 t257 t258 t259 t260 ((rd_T45 t267 x38_2).f0) ((rd_T45 t267 x38_2).f1) ((rd_T45 t267 x38_2).f2) ((rd_T45 t267 x38_2).f3) = some r) ∧ zA (kq ≤ kj68) ∧ zA (Kd.R (Kd.int .i64) 3 w' w.heap.size (fun _ => True) (.slice (some ad266) t263.length co33) t263) ∧ zA (Kd.R k45 45 w' w.heap.size (fun k_ => k_ ≠ gb271) (.slice (some ad270) t267.length co44) t267) ∧ zA (Kd.R k61 61 w' w.heap.size (fun _ => True) (.slice Ao19 t249.length co19) t249) ∧ zA (Kd.R (Kd.int .u8) 43 w' w.heap.size (fun _ => True) (.slice Ao21 t252.length co21) t252) ∧ zA (w'.heap[gb247]? = some (.cells #[.int .u8 a1_0, .int .u8 a1_1, .int .u8 a1_2, .int .u16 a1_3, .int .u16 a1_4, .float .f64 a1_5] 26 (0, 0))) ∧ zA (w'.heap[gb261]? = some (.cells #[(.slice Ao19 t249.length co19), (.slice Ao21 t252.length co21)] 31 (0, 0))) ∧ zA (w'.heap[gb262]? = some (.cells #[.int .i64 t255, .int .i64 t256, .int .u8 t257, .int .i64 t258, .int .i64 t259, .float .f64 t260] 35 (0, 0))) ∧ zA (w'.heap[gb271]? = some (.cells #[.int .i64 ((rd_T45 t267 x38_2).f0), .int .i64 ((rd_T45 t267 x38_2).f1), .int .i64 ((rd_T45 t267 x38_2).f2), .int .u8 ((rd_T45 t267 x38_2).f3)] 45 (0, 0))) ∧ zA (Below w.heap.size w w'))
     case atStart => exact ⟨(wrap64 (x10_2 + 1)), aZ, H', ⟨Nat.le_refl _⟩, ⟨aR HO_25⟩, ⟨aR HO_36⟩, ⟨aR HO_262000⟩, ⟨aR HO_262001⟩, ⟨aB BK247⟩, ⟨aB BK261⟩, ⟨aB BK262⟩, ⟨aB BK271⟩, ⟨aL HB⟩⟩
     clear H'; try clear p2
     try clear q2
     try clear hx2
     try clear c5
     try clear c6
     try clear p6
     try clear c7
     try clear c8
     try clear c9
     try clear p27
     try clear q27
     try clear hx27
     try clear c55
     try clear c55b0
     try clear c55b1
     try clear c62
     try clear c63
     try clear c64
     try clear c64b0
     try clear c64b1
     try clear p64
     try clear c68
     try clear c70
     try clear c70b0
     try clear c71
     try clear c71b0
     try clear c71b1
     try clear c73
     try clear c74
     try clear c75
     try clear c77
     try clear c78
     try clear c80
     try clear c83
     try clear c84
     try clear c85
     try clear c87
     try clear c88
     try clear c90
     try clear c91
     try clear c92
     try clear c94
     try clear c95
     try clear c97
     try clear hcz76_0
     try clear hcz76_1
     try clear hcz76_2
     try clear hcz76_3
     try clear hcz79_0
     try clear hcz79_1
     try clear hcz79_2
     try clear hcz79_3
     try clear hcz79_4
     try clear hcz79_5
     try clear hcz81_0
     try clear hcz81_1
     try clear hcz86_0
     try clear hcz86_1
     try clear hcz86_2
     try clear hcz86_3
     try clear hcz89_0
     try clear hcz89_1
     try clear hcz89_2
     try clear hcz89_3
     try clear hcz89_4
     try clear hcz89_5
     try clear hcz93_0
     try clear hcz93_1
     try clear hcz93_2
     try clear hcz93_3
     try clear hcz96_0
     try clear hcz96_1
     try clear hcz96_2
     try clear hcz96_3
     try clear hcz96_4
     try clear hcz96_5
     try clear hfz76_0
     try clear hfz76_1
     try clear hfz76_2
     try clear hfz76_3
     try clear hfz79_0
     try clear hfz79_1
     try clear hfz79_2
     try clear hfz79_3
     try clear hfz79_4
     try clear hfz79_5
     try clear hfz81_0
     try clear hfz81_1
     try clear hfz86_0
     try clear hfz86_1
     try clear hfz86_2
     try clear hfz86_3
     try clear hfz89_0
     try clear hfz89_1
     try clear hfz89_2
     try clear hfz89_3
     try clear hfz89_4
     try clear hfz89_5
     try clear hfz93_0
     try clear hfz93_1
     try clear hfz93_2
     try clear hfz93_3
     try clear hfz96_0
     try clear hfz96_1
     try clear hfz96_2
     try clear hfz96_3
     try clear hfz96_4
     try clear hfz96_5
     try clear hx272_0
     try clear p2
     try clear p27
     try clear p272
     try clear p6
     try clear p64
     try clear q2
     try clear q27
     try clear q272
     obtain ⟨x13_5, rfl, HA, HK5, HO_25, HO_36, HO_262000, HO_262001, BK247, BK261, BK262, BK271, HB⟩ := hrel; cases gk with
     | zero => exact absurd HA.out (by simp [l4_FirstLines.l2])
     | succ k5 =>
      have H := HA.out; clear HA; simp only [l4_FirstLines.l2] at H; by_cases c98 : x13_5 ≤ (rd t263 x27_1)
      rotate_left
      ·rw [if_neg c98] at H
       have c98b0 : decide (x13_5 ≤ (rd t263 x27_1)) = false := decide_eq_false c98
       clear c98; have H' := zA.mk H
       clear H; have hnb115 := NB271_247.out; have hnc115 := NB247_271.out; have hnb116 := NB271_261.out; have hnc116 := NB261_271.out; have hnb117 := NB271_262.out; have hnc117 := NB262_271.out; obtain ⟨hcz118_0, hcz118_1, hcz118_2, hcz118_3, hfz118_0, hfz118_1, hfz118_2, hfz118_3⟩ := aC4 BK271; go_wp2
       go_roundg k5
       case measure => have := HK1.out; have := HK2.out; have := HJ47.out; have := HJ68.out; have := HK5.out; omega
       case rel => exact ⟨(((rd_T45 t267 x38_2).f1)), (wrap64 (x38_2 + 1)), aZ, aZ, H', ⟨by have := HK1.out; have := HK2.out; have := HJ47.out; have := HJ68.out; have := HK5.out; omega⟩, ⟨aR HO_25⟩, ⟨by (with_reducible repeat (first | apply Kd.zF | apply Kd.zG | apply Kd.zH)); exact Kd.zR HO_36.out (fun _ hk => trivial)⟩, ⟨aR HO_262000⟩, ⟨aR HO_262001⟩, ⟨aB BK247⟩, ⟨aB BK261⟩, ⟨aB BK262⟩, ⟨aL HB⟩⟩
      rw [if_pos c98] at H; have c98b0 : decide (x13_5 ≤ (rd t263 x27_1)) = true := decide_eq_true c98
      clear c98; by_cases c99 : 0 ≤ x13_5
      rotate_left
      ·rw [if_neg c99] at H
       exact absurd H (by simp)
      rw [if_pos c99] at H; have c99b0 : decide (0 ≤ x13_5) = true := decide_eq_true c99
      clear c99; by_cases c100 : x13_5 < (t252.length : Int)
      rotate_left
      ·rw [if_neg c100] at H
       exact absurd H (by simp)
      rw [if_pos c100] at H; have c100b0 : decide (x13_5 < (t252.length : Int)) = true := decide_eq_true c100
      clear c100; by_cases c101 : (rd t252 x13_5) = 0
      ·rw [if_pos c101] at H
       have c101b0 : ((rd t252 x13_5) == 0) = true := beq_iff_eq.mpr c101
       have c101b1 : ((rd t252 x13_5) != 0) = false := bne_eq_false_iff_eq.mpr c101
       clear c101; have H' := zA.mk H
       clear H; try go_wp2
       have n0_ := zA.mk (Kd.zH HO_25.out); have n1_ := zA.mk (Kd.zH HO_36.out); have n2_ := zA.mk (Kd.zH HO_262000.out); have n3_ := zA.mk (Kd.zH HO_262001.out); have n4_ := zA.mk (zB BK247.out); have n5_ := zA.mk (zB BK261.out); have n6_ := zA.mk (zB BK262.out); have n7_ := zA.mk (zB BK271.out); have n8_ := zA.mk (below_drew1 HB.out); clear HO_25; clear HO_36; clear HO_262000; clear HO_262001; clear BK247; clear BK261; clear BK262; clear BK271; clear HB; have HO_25 := n0_; have HO_36 := n1_; have HO_262000 := n2_; have HO_262001 := n3_; have BK247 := n4_; have BK261 := n5_; have BK262 := n6_; have BK271 := n7_; have HB := n8_; clear n0_ n1_ n2_ n3_ n4_ n5_ n6_ n7_ n8_; have p274 : 0 ≤ (x13_5 : Int) := aD
       have q274 : x13_5 < (t252.length : Int) := aD
       obtain ⟨ad274, e274, hx274_0⟩ := Kd.at_int (Kd.zM HO_262001.out).2.2 x13_5 p274 q274; cases e274
       replace p274 := eq_true p274; replace q274 := eq_true q274; refine start_ (n := 23) (S := fun w' => w'.cell? ⟨gb261, 0, none⟩ = some (.slice Ao19 t249.length co19) ∧ w'.cell? ⟨gb261, 1, none⟩ = some (.slice (some ad274) t252.length co21) ∧ w'.cell? (ad274.add (x13_5).toNat) = some (.int .u8 (rd t252 x13_5))) (ds := []) #[false, false, false, false, false, false, false, false, false, false, false, false, false, false, false, false, false, false, false, false, false, false, false] (by kernel_rfl) rfl rfl ⟨(zE BK261.out 0).trans rfl, (zE BK261.out 1).trans rfl, hx274_0⟩ (fun hHeld => ?_); refine with_tabW l4_FirstLines.tab21 l4_FirstLines.bits21 (fun HT_ HW_ => ?_)
       generalize wr.drew = w102 at HO_25 HO_36 HO_262000 HO_262001 BK247 BK261 BK262 BK271 HB hx274_0 hHeld ⊢
       refine aP 0 (some 108) (tf_ 1 23) HT_ ?_
       refine aP 2 (some 110) #[true, false, true, false, false, false, false, false, false, false, false, false, false, false, false, false, false, false, false, false, false, false, false] HT_ ?_
       refine take_ (i := 1) (N := some 109) (v := ?_) (a' := ?_) (tf_ 3 23) rfl rfl (take_ofW HT_.out HW_.out (by kernel_rfl)) (fun _ _ _ h => h) (Or.inl ⟨by rfl, ?_⟩) hHeld ?_ ?_
       rotate_left
       ·rintro w' ⟨s0, s1, s2⟩
        go_simp
        with_reducible rfl
       rotate_left
       ·simp only [Act.put, sA_, sB_, sC_, i64_w, i32_w]
        rfl
       refine aP 3 (some 111) (tf_ 4 23) HT_ ?_
       refine take_ (i := 4) (N := some 112) (v := ?_) (a' := ?_) (tf_ 5 23) rfl rfl (take_ofW HT_.out HW_.out (by kernel_rfl)) (fun _ _ _ h => h) (Or.inl ⟨by rfl, ?_⟩) hHeld ?_ ?_
       rotate_left
       ·rintro w' ⟨s0, s1, s2⟩
        go_simp
        with_reducible rfl
       rotate_left
       ·simp only [Act.put, sA_, sB_, sC_, i64_w, i32_w]
        rfl
       refine aP 5 (some 113) (tf_ 6 23) HT_ ?_
       refine aP 6 (some 114) (tf_ 7 23) HT_ ?_
       refine pure_ (i := 7) (N := some 115) (v := undef) (a' := ?_) (tf_ 8 23) rfl rfl (any_of HT_.out (by kernel_rfl)) (fun _ _ _ h => h) (Or.inr ⟨by rfl, rfl⟩) ?_ ?_
       rotate_left
       ·simp only [Act.put, sA_, sB_, sC_, i64_w, i32_w]
        rfl
       refine pure_ (i := 8) (N := some 116) (v := undef) (a' := ?_) (tf_ 9 23) rfl rfl (any_of HT_.out (by kernel_rfl)) (fun _ _ _ h => h) (Or.inr ⟨by rfl, rfl⟩) ?_ ?_
       rotate_left
       ·simp only [Act.put, sA_, sB_, sC_, i64_w, i32_w]
        rfl
       refine pure_ (i := 9) (N := some 117) (v := undef) (a' := ?_) (tf_ 10 23) rfl rfl (any_of HT_.out (by kernel_rfl)) (fun _ _ _ h => h) (Or.inr ⟨by rfl, rfl⟩) ?_ ?_
       rotate_left
       ·simp only [Act.put, sA_, sB_, sC_, i64_w, i32_w]
        rfl
       refine pure_ (i := 10) (N := some 118) (v := undef) (a' := ?_) (tf_ 11 23) rfl rfl (any_of HT_.out (by kernel_rfl)) (fun _ _ _ h => h) (Or.inr ⟨by rfl, rfl⟩) ?_ ?_
       rotate_left
       ·simp only [Act.put, sA_, sB_, sC_, i64_w, i32_w]
        rfl
       refine pure_ (i := 11) (N := some 119) (v := undef) (a' := ?_) (tf_ 12 23) rfl rfl (any_of HT_.out (by kernel_rfl)) (fun _ _ _ h => h) (Or.inr ⟨by rfl, rfl⟩) ?_ ?_
       rotate_left
       ·simp only [Act.put, sA_, sB_, sC_, i64_w, i32_w]
        rfl
       refine pure_ (i := 12) (N := some 120) (v := undef) (a' := ?_) (tf_ 13 23) rfl rfl (any_of HT_.out (by kernel_rfl)) (fun _ _ _ h => h) (Or.inr ⟨by rfl, rfl⟩) ?_ ?_
       rotate_left
       ·simp only [Act.put, sA_, sB_, sC_, i64_w, i32_w]
        rfl
       refine pure_ (i := 13) (N := some 121) (v := undef) (a' := ?_) (tf_ 14 23) rfl rfl (any_of HT_.out (by kernel_rfl)) (fun _ _ _ h => h) (Or.inr ⟨by rfl, rfl⟩) ?_ ?_
       rotate_left
       ·simp only [Act.put, sA_, sB_, sC_, i64_w, i32_w]
        rfl
       refine pure_ (i := 14) (N := some 122) (v := undef) (a' := ?_) (tf_ 15 23) rfl rfl (any_of HT_.out (by kernel_rfl)) (fun _ _ _ h => h) (Or.inr ⟨by rfl, rfl⟩) ?_ ?_
       rotate_left
       ·simp only [Act.put, sA_, sB_, sC_, i64_w, i32_w]
        rfl
       refine pure_ (i := 15) (N := some 123) (v := undef) (a' := ?_) (tf_ 16 23) rfl rfl (any_of HT_.out (by kernel_rfl)) (fun _ _ _ h => h) (Or.inr ⟨by rfl, rfl⟩) ?_ ?_
       rotate_left
       ·simp only [Act.put, sA_, sB_, sC_, i64_w, i32_w]
        rfl
       refine pure_ (i := 16) (N := some 124) (v := undef) (a' := ?_) (tf_ 17 23) rfl rfl (any_of HT_.out (by kernel_rfl)) (fun _ _ _ h => h) (Or.inr ⟨by rfl, rfl⟩) ?_ ?_
       rotate_left
       ·simp only [Act.put, sA_, sB_, sC_, i64_w, i32_w]
        rfl
       refine pure_ (i := 17) (N := some 125) (v := undef) (a' := ?_) (tf_ 18 23) rfl rfl (any_of HT_.out (by kernel_rfl)) (fun _ _ _ h => h) (Or.inr ⟨by rfl, rfl⟩) ?_ ?_
       rotate_left
       ·simp only [Act.put, sA_, sB_, sC_, i64_w, i32_w]
        rfl
       refine pure_ (i := 18) (N := some 126) (v := undef) (a' := ?_) (tf_ 19 23) rfl rfl (any_of HT_.out (by kernel_rfl)) (fun _ _ _ h => h) (Or.inr ⟨by rfl, rfl⟩) ?_ ?_
       rotate_left
       ·simp only [Act.put, sA_, sB_, sC_, i64_w, i32_w]
        rfl
       refine pure_ (i := 19) (N := some 127) (v := undef) (a' := ?_) (tf_ 20 23) rfl rfl (any_of HT_.out (by kernel_rfl)) (fun _ _ _ h => h) (Or.inr ⟨by rfl, rfl⟩) ?_ ?_
       rotate_left
       ·simp only [Act.put, sA_, sB_, sC_, i64_w, i32_w]
        rfl
       refine pure_ (i := 20) (N := some 128) (v := undef) (a' := ?_) (tf_ 21 23) rfl rfl (any_of HT_.out (by kernel_rfl)) (fun _ _ _ h => h) (Or.inr ⟨by rfl, rfl⟩) ?_ ?_
       rotate_left
       ·simp only [Act.put, sA_, sB_, sC_, i64_w, i32_w]
        rfl
       refine aP 21 (some 129) (tf_ 22 23) HT_ ?_
       refine aP 22 (some 14) #[true, true, true, true, true, true, true, true, true, true, true, true, true, true, true, true, true, true, true, true, true, true, true] HT_ ?_
       refine done_ (done_of HT_.out (by kernel_rfl)) ?_
       try go_wp2
       go_roundg k5
       case measure => have := HK1.out; have := HK2.out; have := HJ47.out; have := HJ68.out; have := HK5.out; omega
       case rel => exact ⟨(wrap64 (x13_5 + 1)), aZ, H', ⟨by have := HK1.out; have := HK2.out; have := HJ47.out; have := HJ68.out; have := HK5.out; omega⟩, ⟨aR HO_25⟩, ⟨aR HO_36⟩, ⟨aR HO_262000⟩, ⟨aR HO_262001⟩, ⟨aB BK247⟩, ⟨aB BK261⟩, ⟨aB BK262⟩, ⟨aB BK271⟩, ⟨aL HB⟩⟩
      rw [if_neg c101] at H; have c101b0 : ((rd t252 x13_5) == 0) = false := beq_eq_false_iff_ne.mpr c101
      have c101b1 : ((rd t252 x13_5) != 0) = true := bne_iff_ne.mpr c101
      replace H := Option.bind_eq_some_iff.mp H; obtain ⟨t276, A1030, H⟩ := H; replace H : (if t276 ≤ t255 then (if ((rd_T45 t267 x38_2).f3) = 4 then (some false) else (if x13_5 > ((rd_T45 t267 x38_2).f1) then (some false) else (l4_FirstLines.l2 k5 (rd t263 x27_1) x10_2 (wrap64 (x13_5 + 1)) t263 (t263.length : Int) x27_1 t267 (t267.length : Int) x38_2 t249 t252 t255 t256 t257 t258 t259 t260 ((rd_T45 t267 x38_2).f0) ((rd_T45 t267 x38_2).f1) ((rd_T45 t267 x38_2).f2) ((rd_T45 t267 x38_2).f3)))) else (l4_FirstLines.l2 k5 (rd t263 x27_1) x10_2 (wrap64 (x13_5 + 1)) t263 (t263.length : Int) x27_1 t267 (t267.length : Int) x38_2 t249 t252 t255 t256 t257 t258 t259 t260 ((rd_T45 t267 x38_2).f0) ((rd_T45 t267 x38_2).f1) ((rd_T45 t267 x38_2).f2) ((rd_T45 t267 x38_2).f3))) = some r := H; have A103 := zA.mk A1030; clear A1030; by_cases c104 : t276 ≤ t255
      rotate_left
      ·rw [if_neg c104] at H
       have c104b0 : decide (t276 ≤ t255) = false := decide_eq_false c104
       clear c104; have H' := zA.mk H
       clear H; try go_wp2
       have n0_ := zA.mk (Kd.zH HO_25.out); have n1_ := zA.mk (Kd.zH HO_36.out); have n2_ := zA.mk (Kd.zH HO_262000.out); have n3_ := zA.mk (Kd.zH HO_262001.out); have n4_ := zA.mk (zB BK247.out); have n5_ := zA.mk (zB BK261.out); have n6_ := zA.mk (zB BK262.out); have n7_ := zA.mk (zB BK271.out); have n8_ := zA.mk (below_drew1 HB.out); clear HO_25; clear HO_36; clear HO_262000; clear HO_262001; clear BK247; clear BK261; clear BK262; clear BK271; clear HB; have HO_25 := n0_; have HO_36 := n1_; have HO_262000 := n2_; have HO_262001 := n3_; have BK247 := n4_; have BK261 := n5_; have BK262 := n6_; have BK271 := n7_; have HB := n8_; clear n0_ n1_ n2_ n3_ n4_ n5_ n6_ n7_ n8_; have p274 : 0 ≤ (x13_5 : Int) := aD
       have q274 : x13_5 < (t252.length : Int) := aD
       obtain ⟨ad274, e274, hx274_0⟩ := Kd.at_int (Kd.zM HO_262001.out).2.2 x13_5 p274 q274; cases e274
       replace p274 := eq_true p274; replace q274 := eq_true q274; have p275 : 0 ≤ (x13_5 : Int) := aD
       have q275 : x13_5 < (t252.length : Int) := aD
       obtain ⟨ad275, e275, hx275_0⟩ := Kd.at_int (Kd.zM HO_262001.out).2.2 x13_5 p275 q275; obtain rfl : ad274 = ad275 := (by injection e275)
       replace p275 := eq_true p275; replace q275 := eq_true q275; refine start_ (n := 23) (S := fun w' => w'.cell? ⟨gb261, 0, none⟩ = some (.slice Ao19 t249.length co19) ∧ w'.cell? ⟨gb261, 1, none⟩ = some (.slice (some ad274) t252.length co21) ∧ w'.cell? ⟨gb262, 0, none⟩ = some (.int .i64 t255) ∧ w'.cell? ⟨gb262, 1, none⟩ = some (.int .i64 t256) ∧ w'.cell? ⟨gb262, 2, none⟩ = some (.int .u8 t257) ∧ w'.cell? ⟨gb262, 3, none⟩ = some (.int .i64 t258) ∧ w'.cell? ⟨gb262, 4, none⟩ = some (.int .i64 t259) ∧ w'.cell? ⟨gb262, 5, none⟩ = some (.float .f64 t260) ∧ w'.cell? (ad274.add (x13_5).toNat) = some (.int .u8 (rd t252 x13_5)) ∧ w'.cell? (ad274.add (x13_5).toNat) = some (.int .u8 (rd t252 x13_5))) (ds := []) #[false, false, false, false, false, false, false, false, false, false, false, false, false, false, false, false, false, false, false, false, false, false, false] (by kernel_rfl) rfl rfl ⟨(zE BK261.out 0).trans rfl, (zE BK261.out 1).trans rfl, (zE BK262.out 0).trans rfl, (zE BK262.out 1).trans rfl, (zE BK262.out 2).trans rfl, (zE BK262.out 3).trans rfl, (zE BK262.out 4).trans rfl, (zE BK262.out 5).trans rfl, hx274_0, hx275_0⟩ (fun hHeld => ?_); refine with_tabW l4_FirstLines.tab21 l4_FirstLines.bits21 (fun HT_ HW_ => ?_)
       generalize wr.drew = w113 at HO_25 HO_36 HO_262000 HO_262001 BK247 BK261 BK262 BK271 HB hx274_0 hx275_0 hHeld ⊢
       refine aP 0 (some 108) (tf_ 1 23) HT_ ?_
       refine aP 2 (some 110) #[true, false, true, false, false, false, false, false, false, false, false, false, false, false, false, false, false, false, false, false, false, false, false] HT_ ?_
       refine take_ (i := 1) (N := some 109) (v := ?_) (a' := ?_) (tf_ 3 23) rfl rfl (take_ofW HT_.out HW_.out (by kernel_rfl)) (fun _ _ _ h => h) (Or.inl ⟨by rfl, ?_⟩) hHeld ?_ ?_
       rotate_left
       ·rintro w' ⟨s0, s1, s2, s3, s4, s5, s6, s7, s8, s9⟩
        go_simp
        with_reducible rfl
       rotate_left
       ·simp only [Act.put, sA_, sB_, sC_, i64_w, i32_w]
        rfl
       refine aP 3 (some 111) (tf_ 4 23) HT_ ?_
       refine take_ (i := 4) (N := some 112) (v := ?_) (a' := ?_) (tf_ 5 23) rfl rfl (take_ofW HT_.out HW_.out (by kernel_rfl)) (fun _ _ _ h => h) (Or.inl ⟨by rfl, ?_⟩) hHeld ?_ ?_
       rotate_left
       ·rintro w' ⟨s0, s1, s2, s3, s4, s5, s6, s7, s8, s9⟩
        go_simp
        with_reducible rfl
       rotate_left
       ·simp only [Act.put, sA_, sB_, sC_, i64_w, i32_w]
        rfl
       refine aP 5 (some 113) (tf_ 6 23) HT_ ?_
       refine aP 6 (some 114) (tf_ 7 23) HT_ ?_
       refine aP 8 (some 116) #[true, true, true, true, true, true, true, false, true, false, false, false, false, false, false, false, false, false, false, false, false, false, false] HT_ ?_
       refine aP 9 (some 117) #[true, true, true, true, true, true, true, false, true, true, false, false, false, false, false, false, false, false, false, false, false, false, false] HT_ ?_
       refine aP 10 (some 118) #[true, true, true, true, true, true, true, false, true, true, true, false, false, false, false, false, false, false, false, false, false, false, false] HT_ ?_
       refine aP 12 (some 120) #[true, true, true, true, true, true, true, false, true, true, true, false, true, false, false, false, false, false, false, false, false, false, false] HT_ ?_
       refine aP 15 (some 123) #[true, true, true, true, true, true, true, false, true, true, true, false, true, false, false, true, false, false, false, false, false, false, false] HT_ ?_
       refine aP 18 (some 126) #[true, true, true, true, true, true, true, false, true, true, true, false, true, false, false, true, false, false, true, false, false, false, false] HT_ ?_
       refine take_ (i := 7) (N := some 115) (v := ?_) (a' := ?_) #[true, true, true, true, true, true, true, true, true, true, true, false, true, false, false, true, false, false, true, false, false, false, false] rfl rfl (take_ofW HT_.out HW_.out (by kernel_rfl)) (fun _ _ _ h => h) (Or.inl ⟨by rfl, ?_⟩) hHeld ?_ ?_
       rotate_left
       ·rintro w' ⟨s0, s1, s2, s3, s4, s5, s6, s7, s8, s9⟩
        go_simp
        with_reducible rfl
       rotate_left
       ·simp only [Act.put, sA_, sB_, sC_, i64_w, i32_w]
        rfl
       refine take_ (i := 11) (N := some 119) (v := ?_) (a' := ?_) #[true, true, true, true, true, true, true, true, true, true, true, true, true, false, false, true, false, false, true, false, false, false, false] rfl rfl (take_ofW HT_.out HW_.out (by kernel_rfl)) (fun _ _ _ h => h) (Or.inl ⟨by rfl, ?_⟩) hHeld ?_ ?_
       rotate_left
       ·rintro w' ⟨s0, s1, s2, s3, s4, s5, s6, s7, s8, s9⟩
        go_simp
        with_reducible rfl
       rotate_left
       ·simp only [Act.put, sA_, sB_, sC_, i64_w, i32_w]
        rfl
       refine aP 13 (some 121) #[true, true, true, true, true, true, true, true, true, true, true, true, true, true, false, true, false, false, true, false, false, false, false] HT_ ?_
       refine take_ (i := 14) (N := some 122) (v := ?_) (a' := ?_) #[true, true, true, true, true, true, true, true, true, true, true, true, true, true, true, true, false, false, true, false, false, false, false] rfl rfl (take_ofW HT_.out HW_.out (by kernel_rfl)) (fun _ _ _ h => h) (Or.inl ⟨by rfl, ?_⟩) hHeld ?_ ?_
       rotate_left
       ·rintro w' ⟨s0, s1, s2, s3, s4, s5, s6, s7, s8, s9⟩
        go_simp
        with_reducible rfl
       rotate_left
       ·simp only [Act.put, sA_, sB_, sC_, i64_w, i32_w]
        rfl
       refine take_ (i := 16) (N := some 124) (v := ?_) (a' := ?_) #[true, true, true, true, true, true, true, true, true, true, true, true, true, true, true, true, true, false, true, false, false, false, false] rfl rfl (take_ofW HT_.out HW_.out (by kernel_rfl)) (fun _ _ _ h => h) (Or.inl ⟨by rfl, ?_⟩) hHeld ?_ ?_
       rotate_left
       ·rintro w' ⟨s0, s1, s2, s3, s4, s5, s6, s7, s8, s9⟩
        go_simp
        with_reducible rfl
       rotate_left
       ·simp only [Act.put, sA_, sB_, sC_, i64_w, i32_w]
        rfl
       refine take_ (i := 19) (N := some 127) (v := ?_) (a' := ?_) #[true, true, true, true, true, true, true, true, true, true, true, true, true, true, true, true, true, false, true, true, false, false, false] rfl rfl (take_ofW HT_.out HW_.out (by kernel_rfl)) (fun _ _ _ h => h) (Or.inl ⟨by rfl, ?_⟩) hHeld ?_ ?_
       rotate_left
       ·rintro w' ⟨s0, s1, s2, s3, s4, s5, s6, s7, s8, s9⟩
        go_simp
        with_reducible rfl
       rotate_left
       ·simp only [Act.put, sA_, sB_, sC_, i64_w, i32_w]
        rfl
       refine one_ (i := 17) (N := some 125) #[true, true, true, true, true, true, true, true, true, true, true, true, true, true, true, true, true, true, true, true, false, false, false] rfl rfl (one_of HT_.out (by kernel_rfl)) (by decide) (fun K hK => ?_)
       refine goes_ Try.func20 (by kernel_rfl) rfl #[.agg #[.slice Ao19 t249.length co19, .slice (some ad274) t252.length co21], .int .i64 x10_2, .int .i64 x13_5, .int .u8 (rd t252 x13_5), .int .i64 t256] (by rfl) rfl rfl aT ?_
       with_reducible refine (span_Cells.calls k5 _ _ t249 _ _ t252 x10_2 x13_5 (rd t252 x13_5) t256 t276 _ ?side1 ?side2 ?side3 ?side4 A103.out).mono ?_
       (case side1 => exact aF HO_262000)
       (case side2 => exact (Kd.zM HO_262000.out).2.1)
       (case side3 => exact aF HO_262001)
       (case side4 => exact (Kd.zM HO_262001.out).2.1)
       rintro e w114 ⟨rfl, hb⟩
       have HS8_ := (hb.cell (World.block_lt_of_cell? _ _ (hHeld.2.2.2.2.2.2.2.2.1))).trans (hHeld.2.2.2.2.2.2.2.2.1); have HS9_ := (hb.cell (World.block_lt_of_cell? _ _ (hHeld.2.2.2.2.2.2.2.2.2))).trans (hHeld.2.2.2.2.2.2.2.2.2); refine ⟨_, rfl, ?_⟩
       have n0_ := zA.mk (Kd.zN (aR HO_25) hb); have n1_ := zA.mk (Kd.zN (aR HO_36) hb); have n2_ := zA.mk (Kd.zN (aR HO_262000) hb); have n3_ := zA.mk (Kd.zN (aR HO_262001) hb); have n4_ := zA.mk (blk_below (g := gb247) (o := .cells #[.int .u8 a1_0, .int .u8 a1_1, .int .u8 a1_2, .int .u16 a1_3, .int .u16 a1_4, .float .f64 a1_5] 26 (0, 0)) (aB BK247) hb); have n5_ := zA.mk (blk_below (g := gb261) (o := .cells #[.slice Ao19 t249.length co19, .slice (some ad274) t252.length co21] 31 (0, 0)) (aB BK261) hb); have n6_ := zA.mk (blk_below (g := gb262) (o := .cells #[.int .i64 t255, .int .i64 t256, .int .u8 t257, .int .i64 t258, .int .i64 t259, .float .f64 t260] 35 (0, 0)) (aB BK262) hb); have n7_ := zA.mk (blk_below (g := gb271) (o := .cells #[.int .i64 ((rd_T45 t267 x38_2).f0), .int .i64 ((rd_T45 t267 x38_2).f1), .int .i64 ((rd_T45 t267 x38_2).f2), .int .u8 ((rd_T45 t267 x38_2).f3)] 45 (0, 0)) (aB BK271) hb); have n8_ := zA.mk (below_step (aL HB) hb); clear HO_25; clear HO_36; clear HO_262000; clear HO_262001; clear BK247; clear BK261; clear BK262; clear BK271; clear HB; have HO_25 := n0_; have HO_36 := n1_; have HO_262000 := n2_; have HO_262001 := n3_; have BK247 := n4_; have BK261 := n5_; have BK262 := n6_; have BK271 := n7_; have HB := n8_; clear n0_ n1_ n2_ n3_ n4_ n5_ n6_ n7_ n8_; (try clear hb)
       (try clear hb2)
       (try clear hk)
       (try clear hi)
       refine hK.out _ _ ⟨(zE BK261.out 0).trans rfl, (zE BK261.out 1).trans rfl, (zE BK262.out 0).trans rfl, (zE BK262.out 1).trans rfl, (zE BK262.out 2).trans rfl, (zE BK262.out 3).trans rfl, (zE BK262.out 4).trans rfl, (zE BK262.out 5).trans rfl, HS8_, HS9_⟩ (fun hHeld => ?_)
       clear hK K; refine norm_ (a' := ?_) ?_ ?_
       rotate_left
       ·show Act.put _ (some 125) _ = _
        simp only [Act.put, sA_, sB_, sC_, i64_w, i32_w]; rfl
       refine aP 20 (some 128) (tf_ 21 23) HT_ ?_
       refine aP 21 (some 129) (tf_ 22 23) HT_ ?_
       refine aP 22 (some 14) #[true, true, true, true, true, true, true, true, true, true, true, true, true, true, true, true, true, true, true, true, true, true, true] HT_ ?_
       refine done_ (done_of HT_.out (by kernel_rfl)) ?_
       try go_wp2
       go_roundg k5
       case measure => have := HK1.out; have := HK2.out; have := HJ47.out; have := HJ68.out; have := HK5.out; omega
       case rel => exact ⟨(wrap64 (x13_5 + 1)), aZ, H', ⟨by have := HK1.out; have := HK2.out; have := HJ47.out; have := HJ68.out; have := HK5.out; omega⟩, ⟨aR HO_25⟩, ⟨aR HO_36⟩, ⟨aR HO_262000⟩, ⟨aR HO_262001⟩, ⟨aB BK247⟩, ⟨aB BK261⟩, ⟨aB BK262⟩, ⟨aB BK271⟩, ⟨aL HB⟩⟩
      rw [if_pos c104] at H; have c104b0 : decide (t276 ≤ t255) = true := decide_eq_true c104
      clear c104; by_cases c105 : ((rd_T45 t267 x38_2).f3) = 4
      ·rw [if_pos c105] at H
       have c105b0 : (((rd_T45 t267 x38_2).f3) == 4) = true := beq_iff_eq.mpr c105
       have c105b1 : (((rd_T45 t267 x38_2).f3) != 4) = false := bne_eq_false_iff_eq.mpr c105
       clear c105; exact absurd ((Option.some.inj H).trans hrt_.out) (by decide)
      rw [if_neg c105] at H; have c105b0 : (((rd_T45 t267 x38_2).f3) == 4) = false := beq_eq_false_iff_ne.mpr c105
      have c105b1 : (((rd_T45 t267 x38_2).f3) != 4) = true := bne_iff_ne.mpr c105
      by_cases c106 : x13_5 > ((rd_T45 t267 x38_2).f1)
      ·rw [if_pos c106] at H
       have c106b0 : decide (((rd_T45 t267 x38_2).f1) < x13_5) = true := decide_eq_true c106
       clear c106; exact absurd ((Option.some.inj H).trans hrt_.out) (by decide)
      rw [if_neg c106] at H; have c106b0 : decide (((rd_T45 t267 x38_2).f1) < x13_5) = false := decide_eq_false c106
      clear c106; have H' := zA.mk H
      clear H; try go_wp2
      have n0_ := zA.mk (Kd.zH HO_25.out); have n1_ := zA.mk (Kd.zH HO_36.out); have n2_ := zA.mk (Kd.zH HO_262000.out); have n3_ := zA.mk (Kd.zH HO_262001.out); have n4_ := zA.mk (zB BK247.out); have n5_ := zA.mk (zB BK261.out); have n6_ := zA.mk (zB BK262.out); have n7_ := zA.mk (zB BK271.out); have n8_ := zA.mk (below_drew1 HB.out); clear HO_25; clear HO_36; clear HO_262000; clear HO_262001; clear BK247; clear BK261; clear BK262; clear BK271; clear HB; have HO_25 := n0_; have HO_36 := n1_; have HO_262000 := n2_; have HO_262001 := n3_; have BK247 := n4_; have BK261 := n5_; have BK262 := n6_; have BK271 := n7_; have HB := n8_; clear n0_ n1_ n2_ n3_ n4_ n5_ n6_ n7_ n8_; have p274 : 0 ≤ (x13_5 : Int) := aD
      have q274 : x13_5 < (t252.length : Int) := aD
      obtain ⟨ad274, e274, hx274_0⟩ := Kd.at_int (Kd.zM HO_262001.out).2.2 x13_5 p274 q274; cases e274
      replace p274 := eq_true p274; replace q274 := eq_true q274; have p275 : 0 ≤ (x13_5 : Int) := aD
      have q275 : x13_5 < (t252.length : Int) := aD
      obtain ⟨ad275, e275, hx275_0⟩ := Kd.at_int (Kd.zM HO_262001.out).2.2 x13_5 p275 q275; obtain rfl : ad274 = ad275 := (by injection e275)
      replace p275 := eq_true p275; replace q275 := eq_true q275; refine start_ (n := 23) (S := fun w' => w'.cell? ⟨gb261, 0, none⟩ = some (.slice Ao19 t249.length co19) ∧ w'.cell? ⟨gb261, 1, none⟩ = some (.slice (some ad274) t252.length co21) ∧ w'.cell? ⟨gb262, 0, none⟩ = some (.int .i64 t255) ∧ w'.cell? ⟨gb262, 1, none⟩ = some (.int .i64 t256) ∧ w'.cell? ⟨gb262, 2, none⟩ = some (.int .u8 t257) ∧ w'.cell? ⟨gb262, 3, none⟩ = some (.int .i64 t258) ∧ w'.cell? ⟨gb262, 4, none⟩ = some (.int .i64 t259) ∧ w'.cell? ⟨gb262, 5, none⟩ = some (.float .f64 t260) ∧ w'.cell? (ad274.add (x13_5).toNat) = some (.int .u8 (rd t252 x13_5)) ∧ w'.cell? (ad274.add (x13_5).toNat) = some (.int .u8 (rd t252 x13_5))) (ds := []) #[false, false, false, false, false, false, false, false, false, false, false, false, false, false, false, false, false, false, false, false, false, false, false] (by kernel_rfl) rfl rfl ⟨(zE BK261.out 0).trans rfl, (zE BK261.out 1).trans rfl, (zE BK262.out 0).trans rfl, (zE BK262.out 1).trans rfl, (zE BK262.out 2).trans rfl, (zE BK262.out 3).trans rfl, (zE BK262.out 4).trans rfl, (zE BK262.out 5).trans rfl, hx274_0, hx275_0⟩ (fun hHeld => ?_); refine with_tabW l4_FirstLines.tab21 l4_FirstLines.bits21 (fun HT_ HW_ => ?_)
      generalize wr.drew = w107 at HO_25 HO_36 HO_262000 HO_262001 BK247 BK261 BK262 BK271 HB hx274_0 hx275_0 hHeld ⊢
      refine aP 0 (some 108) (tf_ 1 23) HT_ ?_
      refine aP 2 (some 110) #[true, false, true, false, false, false, false, false, false, false, false, false, false, false, false, false, false, false, false, false, false, false, false] HT_ ?_
      refine take_ (i := 1) (N := some 109) (v := ?_) (a' := ?_) (tf_ 3 23) rfl rfl (take_ofW HT_.out HW_.out (by kernel_rfl)) (fun _ _ _ h => h) (Or.inl ⟨by rfl, ?_⟩) hHeld ?_ ?_
      rotate_left
      ·rintro w' ⟨s0, s1, s2, s3, s4, s5, s6, s7, s8, s9⟩
       go_simp
       with_reducible rfl
      rotate_left
      ·simp only [Act.put, sA_, sB_, sC_, i64_w, i32_w]
       rfl
      refine aP 3 (some 111) (tf_ 4 23) HT_ ?_
      refine take_ (i := 4) (N := some 112) (v := ?_) (a' := ?_) (tf_ 5 23) rfl rfl (take_ofW HT_.out HW_.out (by kernel_rfl)) (fun _ _ _ h => h) (Or.inl ⟨by rfl, ?_⟩) hHeld ?_ ?_
      rotate_left
      ·rintro w' ⟨s0, s1, s2, s3, s4, s5, s6, s7, s8, s9⟩
       go_simp
       with_reducible rfl
      rotate_left
      ·simp only [Act.put, sA_, sB_, sC_, i64_w, i32_w]
       rfl
      refine aP 5 (some 113) (tf_ 6 23) HT_ ?_
      refine aP 6 (some 114) (tf_ 7 23) HT_ ?_
      refine aP 8 (some 116) #[true, true, true, true, true, true, true, false, true, false, false, false, false, false, false, false, false, false, false, false, false, false, false] HT_ ?_
      refine aP 9 (some 117) #[true, true, true, true, true, true, true, false, true, true, false, false, false, false, false, false, false, false, false, false, false, false, false] HT_ ?_
      refine aP 10 (some 118) #[true, true, true, true, true, true, true, false, true, true, true, false, false, false, false, false, false, false, false, false, false, false, false] HT_ ?_
      refine aP 12 (some 120) #[true, true, true, true, true, true, true, false, true, true, true, false, true, false, false, false, false, false, false, false, false, false, false] HT_ ?_
      refine aP 15 (some 123) #[true, true, true, true, true, true, true, false, true, true, true, false, true, false, false, true, false, false, false, false, false, false, false] HT_ ?_
      refine aP 18 (some 126) #[true, true, true, true, true, true, true, false, true, true, true, false, true, false, false, true, false, false, true, false, false, false, false] HT_ ?_
      refine take_ (i := 7) (N := some 115) (v := ?_) (a' := ?_) #[true, true, true, true, true, true, true, true, true, true, true, false, true, false, false, true, false, false, true, false, false, false, false] rfl rfl (take_ofW HT_.out HW_.out (by kernel_rfl)) (fun _ _ _ h => h) (Or.inl ⟨by rfl, ?_⟩) hHeld ?_ ?_
      rotate_left
      ·rintro w' ⟨s0, s1, s2, s3, s4, s5, s6, s7, s8, s9⟩
       go_simp
       with_reducible rfl
      rotate_left
      ·simp only [Act.put, sA_, sB_, sC_, i64_w, i32_w]
       rfl
      refine take_ (i := 11) (N := some 119) (v := ?_) (a' := ?_) #[true, true, true, true, true, true, true, true, true, true, true, true, true, false, false, true, false, false, true, false, false, false, false] rfl rfl (take_ofW HT_.out HW_.out (by kernel_rfl)) (fun _ _ _ h => h) (Or.inl ⟨by rfl, ?_⟩) hHeld ?_ ?_
      rotate_left
      ·rintro w' ⟨s0, s1, s2, s3, s4, s5, s6, s7, s8, s9⟩
       go_simp
       with_reducible rfl
      rotate_left
      ·simp only [Act.put, sA_, sB_, sC_, i64_w, i32_w]
       rfl
      refine aP 13 (some 121) #[true, true, true, true, true, true, true, true, true, true, true, true, true, true, false, true, false, false, true, false, false, false, false] HT_ ?_
      refine take_ (i := 14) (N := some 122) (v := ?_) (a' := ?_) #[true, true, true, true, true, true, true, true, true, true, true, true, true, true, true, true, false, false, true, false, false, false, false] rfl rfl (take_ofW HT_.out HW_.out (by kernel_rfl)) (fun _ _ _ h => h) (Or.inl ⟨by rfl, ?_⟩) hHeld ?_ ?_
      rotate_left
      ·rintro w' ⟨s0, s1, s2, s3, s4, s5, s6, s7, s8, s9⟩
       go_simp
       with_reducible rfl
      rotate_left
      ·simp only [Act.put, sA_, sB_, sC_, i64_w, i32_w]
       rfl
      refine take_ (i := 16) (N := some 124) (v := ?_) (a' := ?_) #[true, true, true, true, true, true, true, true, true, true, true, true, true, true, true, true, true, false, true, false, false, false, false] rfl rfl (take_ofW HT_.out HW_.out (by kernel_rfl)) (fun _ _ _ h => h) (Or.inl ⟨by rfl, ?_⟩) hHeld ?_ ?_
      rotate_left
      ·rintro w' ⟨s0, s1, s2, s3, s4, s5, s6, s7, s8, s9⟩
       go_simp
       with_reducible rfl
      rotate_left
      ·simp only [Act.put, sA_, sB_, sC_, i64_w, i32_w]
       rfl
      refine take_ (i := 19) (N := some 127) (v := ?_) (a' := ?_) #[true, true, true, true, true, true, true, true, true, true, true, true, true, true, true, true, true, false, true, true, false, false, false] rfl rfl (take_ofW HT_.out HW_.out (by kernel_rfl)) (fun _ _ _ h => h) (Or.inl ⟨by rfl, ?_⟩) hHeld ?_ ?_
      rotate_left
      ·rintro w' ⟨s0, s1, s2, s3, s4, s5, s6, s7, s8, s9⟩
       go_simp
       with_reducible rfl
      rotate_left
      ·simp only [Act.put, sA_, sB_, sC_, i64_w, i32_w]
       rfl
      refine one_ (i := 17) (N := some 125) #[true, true, true, true, true, true, true, true, true, true, true, true, true, true, true, true, true, true, true, true, false, false, false] rfl rfl (one_of HT_.out (by kernel_rfl)) (by decide) (fun K hK => ?_)
      refine goes_ Try.func20 (by kernel_rfl) rfl #[.agg #[.slice Ao19 t249.length co19, .slice (some ad274) t252.length co21], .int .i64 x10_2, .int .i64 x13_5, .int .u8 (rd t252 x13_5), .int .i64 t256] (by rfl) rfl rfl aT ?_
      with_reducible refine (span_Cells.calls k5 _ _ t249 _ _ t252 x10_2 x13_5 (rd t252 x13_5) t256 t276 _ ?side1 ?side2 ?side3 ?side4 A103.out).mono ?_
      (case side1 => exact aF HO_262000)
      (case side2 => exact (Kd.zM HO_262000.out).2.1)
      (case side3 => exact aF HO_262001)
      (case side4 => exact (Kd.zM HO_262001.out).2.1)
      rintro e w108 ⟨rfl, hb⟩
      have HS8_ := (hb.cell (World.block_lt_of_cell? _ _ (hHeld.2.2.2.2.2.2.2.2.1))).trans (hHeld.2.2.2.2.2.2.2.2.1); have HS9_ := (hb.cell (World.block_lt_of_cell? _ _ (hHeld.2.2.2.2.2.2.2.2.2))).trans (hHeld.2.2.2.2.2.2.2.2.2); refine ⟨_, rfl, ?_⟩
      have n0_ := zA.mk (Kd.zN (aR HO_25) hb); have n1_ := zA.mk (Kd.zN (aR HO_36) hb); have n2_ := zA.mk (Kd.zN (aR HO_262000) hb); have n3_ := zA.mk (Kd.zN (aR HO_262001) hb); have n4_ := zA.mk (blk_below (g := gb247) (o := .cells #[.int .u8 a1_0, .int .u8 a1_1, .int .u8 a1_2, .int .u16 a1_3, .int .u16 a1_4, .float .f64 a1_5] 26 (0, 0)) (aB BK247) hb); have n5_ := zA.mk (blk_below (g := gb261) (o := .cells #[.slice Ao19 t249.length co19, .slice (some ad274) t252.length co21] 31 (0, 0)) (aB BK261) hb); have n6_ := zA.mk (blk_below (g := gb262) (o := .cells #[.int .i64 t255, .int .i64 t256, .int .u8 t257, .int .i64 t258, .int .i64 t259, .float .f64 t260] 35 (0, 0)) (aB BK262) hb); have n7_ := zA.mk (blk_below (g := gb271) (o := .cells #[.int .i64 ((rd_T45 t267 x38_2).f0), .int .i64 ((rd_T45 t267 x38_2).f1), .int .i64 ((rd_T45 t267 x38_2).f2), .int .u8 ((rd_T45 t267 x38_2).f3)] 45 (0, 0)) (aB BK271) hb); have n8_ := zA.mk (below_step (aL HB) hb); clear HO_25; clear HO_36; clear HO_262000; clear HO_262001; clear BK247; clear BK261; clear BK262; clear BK271; clear HB; have HO_25 := n0_; have HO_36 := n1_; have HO_262000 := n2_; have HO_262001 := n3_; have BK247 := n4_; have BK261 := n5_; have BK262 := n6_; have BK271 := n7_; have HB := n8_; clear n0_ n1_ n2_ n3_ n4_ n5_ n6_ n7_ n8_; (try clear hb)
      (try clear hb2)
      (try clear hk)
      (try clear hi)
      refine hK.out _ _ ⟨(zE BK261.out 0).trans rfl, (zE BK261.out 1).trans rfl, (zE BK262.out 0).trans rfl, (zE BK262.out 1).trans rfl, (zE BK262.out 2).trans rfl, (zE BK262.out 3).trans rfl, (zE BK262.out 4).trans rfl, (zE BK262.out 5).trans rfl, HS8_, HS9_⟩ (fun hHeld => ?_)
      clear hK K; refine norm_ (a' := ?_) ?_ ?_
      rotate_left
      ·show Act.put _ (some 125) _ = _
       simp only [Act.put, sA_, sB_, sC_, i64_w, i32_w]; rfl
      refine aP 20 (some 128) (tf_ 21 23) HT_ ?_
      refine aP 21 (some 129) (tf_ 22 23) HT_ ?_
      refine aP 22 (some 14) #[true, true, true, true, true, true, true, true, true, true, true, true, true, true, true, true, true, true, true, true, true, true, true] HT_ ?_
      refine done_ (done_of HT_.out (by kernel_rfl)) ?_
      have hnb109 := NB271_247.out; have hnc109 := NB247_271.out; have hnb110 := NB271_261.out; have hnc110 := NB261_271.out; have hnb111 := NB271_262.out; have hnc111 := NB262_271.out; obtain ⟨hcz112_0, hcz112_1, hcz112_2, hcz112_3, hfz112_0, hfz112_1, hfz112_2, hfz112_3⟩ := aC4 BK271; try go_wp2
      go_roundg k5
      case measure => have := HK1.out; have := HK2.out; have := HJ47.out; have := HJ68.out; have := HK5.out; omega
      case rel => exact ⟨(wrap64 (x13_5 + 1)), aZ, H', ⟨by have := HK1.out; have := HK2.out; have := HJ47.out; have := HJ68.out; have := HK5.out; omega⟩, ⟨aR HO_25⟩, ⟨aR HO_36⟩, ⟨aR HO_262000⟩, ⟨aR HO_262001⟩, ⟨aB BK247⟩, ⟨aB BK261⟩, ⟨aB BK262⟩, ⟨aB BK271⟩, ⟨aL HB⟩⟩
def l4_FirstLines.Pure : Prop := ∀ (l0 : List (S49)) (a1_0 : Int) (a1_1 : Int) (a1_2 : Int) (a1_3 : Int) (a1_4 : Int) (a1_5 : Nat), (l0.length * 4 ≤ 140737488351232 ∧ ∀ y0 ∈ l0, ((Lit.int .u8 y0.f0).wf = true ∧ ((Lit.int .u8 y0.f1).wf = true ∧ ((Lit.int .u8 y0.f2).wf = true ∧ (Lit.int .u8 y0.f3).wf = true)))) → ((Lit.int .u8 a1_0).wf = true ∧ ((Lit.int .u8 a1_1).wf = true ∧ ((Lit.int .u8 a1_2).wf = true ∧ ((Lit.int .u16 a1_3).wf = true ∧ ((Lit.int .u16 a1_4).wf = true ∧ (Lit.float .f64 a1_5).wf = true))))) → ∃ k, l4_FirstLines.f k l0 a1_0 a1_1 a1_2 a1_3 a1_4 a1_5 = some true
end Go.Proofs.Ytfeidhmkmbgnoaa.F
end
