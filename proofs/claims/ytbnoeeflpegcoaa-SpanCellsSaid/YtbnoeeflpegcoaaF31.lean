/- Printed by a program of this session (wip/fork): Lean functions that answer as the Go functions do, and the proofs that the Go code comes to them; no condition but those that each statement tells. -/
import Derived.Test.YtbnoeeflpegcoaaF0
import Derived.Test.YtbnoeeflpegcoaaF1
import Derived.Test.YtbnoeeflpegcoaaF9
import Derived.Test.YtbnoeeflpegcoaaF13
import Derived.Test.YtbnoeeflpegcoaaF14
import Derived.Test.YtbnoeeflpegcoaaF15
import Derived.Test.YtbnoeeflpegcoaaF16
import Derived.Test.YtbnoeeflpegcoaaF17
import Derived.Test.YtbnoeeflpegcoaaF26
import Derived.Test.YtbnoeeflpegcoaaF27
import Derived.Test.YtbnoeeflpegcoaaF28
import Derived.Test.YtbnoeeflpegcoaaF29
import Derived.Test.YtbnoeeflpegcoaaF30
namespace Go.Proofs.Ytbnoeeflpegcoaa.F
open Go.RowKit Go.Proofs.YtbnoeeflpegcoaaW.PrintWords Go.Proofs.YtbnoeeflpegcoaaW.PrintLast Go.Proofs.YtbnoeeflpegcoaaW.PrintMore
attribute [local go_sem] max2_int min2_int max_two min_two max_three min_three max_four min_four   -- for this text's walks alone
set_option linter.unusedVariables false
set_option linter.unusedSimpArgs false

attribute [local go_sem high] eqA63
/-! ### stanzalaw13_SpanCells: function 11 -/
def stanzalaw13_SpanCells.f (k : Nat) (l0 : List (S50)) (a1 : Int) (a2 : Int) (a3 : Int) (a4 : Int) : Option (Bool) := (stanzalaw13_Awake.f k).bind fun t338 => (if t338 = true then (if (l0.length : Int) > 1000 then (some true) else ((stanzahand03_Para.f k l0).bind fun bt339 => ((stanzalaw13_cut.f bt339.1 bt339.2 a1 a2).bind fun bt346 => ((span_Ends.f bt339.1 bt339.2 bt346.2).bind fun bt348 => ((span_Trim.f k bt339.1 bt339.2 bt346.1 bt346.2).bind fun t350 => ((stanzaref13_Trim.f k bt339.1 bt339.2 bt346.1 bt346.2).bind fun t351 => (if t350 = t351 then ((span_Cells.f k bt339.1 bt339.2 bt346.1 bt346.2 a4 (wrap64 (1 + (wrap64 (Int.tmod a3 64))))).bind fun t352 => ((stanzaref13_Cells.f k bt339.1 bt339.2 bt346.1 bt346.2 a4 (wrap64 (1 + (wrap64 (Int.tmod a3 64))))).bind fun t353 => (if t352 = t353 then ((span_Gaps.f k bt339.1 bt339.2 bt346.1 bt346.2).bind fun t354 => ((stanzaref13_Gaps.f k bt339.1 bt339.2 bt346.1 bt346.2).bind fun t355 => (if t354 = t355 then ((span_Make.f k bt339.1 bt339.2 bt346.1 bt346.2 a4 (wrap64 (1 + (wrap64 (Int.tmod a3 64))))).bind fun bt356 => ((stanzaref13_Line.f k bt339.1 bt339.2 bt346.1 bt346.2 a4 (wrap64 (1 + (wrap64 (Int.tmod a3 64))))).bind fun bt360 => (if (bt356.1 == bt360.1 && (bt356.2.1 == bt360.2.1 && (bt356.2.2.1 == bt360.2.2.1 && (bt356.2.2.2 == bt360.2.2.2)))) = true then (if 0 ≤ bt346.2 then (if bt346.2 < (bt339.2.length : Int) then (if bt348.1 = (rd bt339.2 bt346.2) then (some (bt348.2 == ((rd bt339.2 bt346.2) != 0))) else (some false)) else (none)) else (none)) else (some false)))) else (some false)))) else (some false)))) else (some false)))))))) else (some false))
theorem stanzalaw13_SpanCells.mono : ∀ a0 a1 a2 a3 a4 k, LeO (stanzalaw13_SpanCells.f k a0 a1 a2 a3 a4) (stanzalaw13_SpanCells.f (k + 1) a0 a1 a2 a3 a4) := by
  intro a0 a1 a2 a3 a4 k
  unfold stanzalaw13_SpanCells.f
  repeat' first
      | (with_reducible exact span_Cells.mono _ _ _ _ _ _ _)
      | (with_reducible exact span_Gaps.mono _ _ _ _ _)
      | (with_reducible exact span_Make.mono _ _ _ _ _ _ _)
      | (with_reducible exact span_Trim.mono _ _ _ _ _)
      | (with_reducible exact stanzahand03_Para.mono _ _)
      | (with_reducible exact stanzalaw13_Awake.mono _)
      | (with_reducible exact stanzaref13_Cells.mono _ _ _ _ _ _ _)
      | (with_reducible exact stanzaref13_Gaps.mono _ _ _ _ _)
      | (with_reducible exact stanzaref13_Line.mono _ _ _ _ _ _ _)
      | (with_reducible exact stanzaref13_Trim.mono _ _ _ _ _)
      | (with_reducible exact LeO.refl _)
      | (with_reducible exact LeO.none _)
      | (with_reducible refine LeO.ite ?_ ?_)
      | (with_reducible refine LeO.bind ?_ (fun _ => ?_))
      | exact span_Cells.mono _ _ _ _ _ _ _
      | exact span_Gaps.mono _ _ _ _ _
      | exact span_Make.mono _ _ _ _ _ _ _
      | exact span_Trim.mono _ _ _ _ _
      | exact stanzahand03_Para.mono _ _
      | exact stanzalaw13_Awake.mono _
      | exact stanzaref13_Cells.mono _ _ _ _ _ _ _
      | exact stanzaref13_Gaps.mono _ _ _ _ _
      | exact stanzaref13_Line.mono _ _ _ _ _ _ _
      | exact stanzaref13_Trim.mono _ _ _ _ _
      | exact LeO.none _
      | refine LeO.ite ?_ ?_
      | refine LeO.bind ?_ (fun _ => ?_)
def stanzalaw13_SpanCells.T9 : Bool × List (List Nat × List Nat) := (true, [([], []), ([], []), ([], []), ([0, 1, 2], [0, 1, 2]), ([], []), ([], []), ([], []), ([4, 5, 6, 3], [4, 5, 6]), ([3, 7], [3, 7]), ([8, 7], [8]), ([9], [9]), ([9], [9]), ([9], [9]), ([9], [9]), ([9], [9]), ([10, 11, 12, 13, 14, 9, 9], [9, 10, 11, 12, 13, 14]), ([9], [9]), ([9], [9]), ([9], [9]), ([9], [9]), ([9], [9]), ([16, 17, 18, 19, 20, 15, 9], [9, 16, 17, 18, 19, 20]), ([15, 21, 9], [9, 15, 21]), ([9, 22], [9, 22]), ([23, 21], [23]), ([24], [24]), ([24], [24]), ([24], [24]), ([25, 26, 27, 24, 24], [24, 25, 26, 27]), ([24], [24]), ([24], [24]), ([24], [24]), ([29, 30, 31, 28, 24], [24, 29, 30, 31]), ([28, 32, 24], [24, 28, 32]), ([24, 33], [24, 33]), ([34, 32], [34]), ([35], [35]), ([35], [35]), ([35], [35]), ([35], [35]), ([35], [35]), ([36, 37, 38, 39, 40, 35, 35], [35, 36, 37, 38, 39, 40]), ([35], [35]), ([35], [35]), ([35], [35]), ([35], [35]), ([35], [35]), ([42, 43, 44, 45, 46, 41, 35], [35, 42, 43, 44, 45, 46]), ([41, 47, 35], [35, 41, 47]), ([35, 48], [35, 48]), ([49, 47], [49]), ([50], [50]), ([50], [50]), ([52, 50], [50, 52]), ([50], [50]), ([53, 54, 50], [50, 53, 54]), ([55, 50], [50, 55]), ([51, 56, 50], [50, 51, 56]), ([50, 57], [50, 57]), ([58, 50], [58]), ([59], [59]), ([59], [59]), ([61, 59], [59, 61]), ([59], [59]), ([62, 63, 59], [59, 62, 63]), ([64, 59], [59, 64]), ([65, 59], [59, 65]), ([60, 66, 59], [59, 60, 66]), ([59, 67], [59, 67]), ([68, 59, 0, 1, 2, 3, 4, 5, 6, 7, 8, 9, 10, 11, 12, 13, 14, 15, 16, 17, 18, 19, 20, 21, 22, 23, 24, 25, 26, 27, 28, 29, 30, 31, 32, 33, 34, 35, 36, 37, 38, 39, 40, 41, 42, 43, 44, 45, 46, 47, 48, 49, 50, 51, 52, 53, 54, 55, 56, 57, 58, 59, 60, 61, 62, 63, 64, 65, 66, 67, 68], [68])])
def stanzalaw13_SpanCells.B9 : List Nat := [0, 0, 0, 7, 0, 0, 0, 127, 255, 511, 1023, 1023, 1023, 1023, 1023, 32767, 1023, 1023, 1023, 1023, 1023, 2097151, 4194303, 8388607, 16777215, 33554431, 33554431, 33554431, 268435455, 33554431, 33554431, 33554431, 4294967295, 8589934591, 17179869183, 34359738367, 68719476735, 68719476735, 68719476735, 68719476735, 68719476735, 2199023255551, 68719476735, 68719476735, 68719476735, 68719476735, 68719476735, 140737488355327, 281474976710655, 562949953421311, 1125899906842623, 2251799813685247, 2251799813685247, 6755399441055743, 2251799813685247, 33776997205278719, 69805794224242687, 144115188075855871, 288230376151711743, 576460752303423487, 1152921504606846975, 1152921504606846975, 3458764513820540927, 1152921504606846975, 17293822569102704639, 35740566642812256255, 72634054790231359487, 147573952589676412927, 295147905179352825855, 590295810358705651711]
theorem stanzalaw13_SpanCells.tab9 : rtab .any (opsOf Try.f11 9) = stanzalaw13_SpanCells.T9 := by kernel_rfl
theorem stanzalaw13_SpanCells.bits9 : waitsOk stanzalaw13_SpanCells.T9.2 stanzalaw13_SpanCells.B9 = true := by kernel_rfl
set_option maxHeartbeats 8000000 in
set_option maxRecDepth 100000 in
theorem stanzalaw13_SpanCells.calls (k : Nat) (A0 : Option Addr) (c0 : Nat) (l0 : List (S50)) (a1 : Int) (a2 : Int) (a3 : Int) (a4 : Int) (r : Bool) (w : World) (hr0 : Kd.C k50 w A0 l0.length l0) (hc0 : l0.length ≤ c0) (h : stanzalaw13_SpanCells.f k l0 a1 a2 a3 a4 = some r) (hrt_ : Aside0 (r = true)) :
    Calls Try.prog 11 #[.slice A0 l0.length c0, .int .i64 a1, .int .i64 a2, .int .u8 a3, .int .u8 a4] w fun e w' => e = .returned (.bool r) ∧ Below w.heap.size w w' := by
  have hu35 := Try.underlying35
  have HR0 := Aside0.mk hr0
  have HC0 := Aside0.mk hc0
  clear hr0 hc0
  have HB := Aside0.mk (Below.refl w.heap.size w)
  have H : ((stanzalaw13_Awake.f k).bind fun t338 => (if t338 = true then (if (l0.length : Int) > 1000 then (some true) else ((stanzahand03_Para.f k l0).bind fun bt339 => ((stanzalaw13_cut.f bt339.1 bt339.2 a1 a2).bind fun bt346 => ((span_Ends.f bt339.1 bt339.2 bt346.2).bind fun bt348 => ((span_Trim.f k bt339.1 bt339.2 bt346.1 bt346.2).bind fun t350 => ((stanzaref13_Trim.f k bt339.1 bt339.2 bt346.1 bt346.2).bind fun t351 => (if t350 = t351 then ((span_Cells.f k bt339.1 bt339.2 bt346.1 bt346.2 a4 (wrap64 (1 + (wrap64 (Int.tmod a3 64))))).bind fun t352 => ((stanzaref13_Cells.f k bt339.1 bt339.2 bt346.1 bt346.2 a4 (wrap64 (1 + (wrap64 (Int.tmod a3 64))))).bind fun t353 => (if t352 = t353 then ((span_Gaps.f k bt339.1 bt339.2 bt346.1 bt346.2).bind fun t354 => ((stanzaref13_Gaps.f k bt339.1 bt339.2 bt346.1 bt346.2).bind fun t355 => (if t354 = t355 then ((span_Make.f k bt339.1 bt339.2 bt346.1 bt346.2 a4 (wrap64 (1 + (wrap64 (Int.tmod a3 64))))).bind fun bt356 => ((stanzaref13_Line.f k bt339.1 bt339.2 bt346.1 bt346.2 a4 (wrap64 (1 + (wrap64 (Int.tmod a3 64))))).bind fun bt360 => (if (bt356.1 == bt360.1 && (bt356.2.1 == bt360.2.1 && (bt356.2.2.1 == bt360.2.2.1 && (bt356.2.2.2 == bt360.2.2.2)))) = true then (if 0 ≤ bt346.2 then (if bt346.2 < (bt339.2.length : Int) then (if bt348.1 = (rd bt339.2 bt346.2) then (some (bt348.2 == ((rd bt339.2 bt346.2) != 0))) else (some false)) else (none)) else (none)) else (some false)))) else (some false)))) else (some false)))) else (some false)))))))) else (some false))) = some r := h
  clear h
  replace H := Option.bind_eq_some_iff.mp H
  obtain ⟨t338, A60, H⟩ := H
  replace H : (if t338 = true then (if (l0.length : Int) > 1000 then (some true) else ((stanzahand03_Para.f k l0).bind fun bt339 => ((stanzalaw13_cut.f bt339.1 bt339.2 a1 a2).bind fun bt346 => ((span_Ends.f bt339.1 bt339.2 bt346.2).bind fun bt348 => ((span_Trim.f k bt339.1 bt339.2 bt346.1 bt346.2).bind fun t350 => ((stanzaref13_Trim.f k bt339.1 bt339.2 bt346.1 bt346.2).bind fun t351 => (if t350 = t351 then ((span_Cells.f k bt339.1 bt339.2 bt346.1 bt346.2 a4 (wrap64 (1 + (wrap64 (Int.tmod a3 64))))).bind fun t352 => ((stanzaref13_Cells.f k bt339.1 bt339.2 bt346.1 bt346.2 a4 (wrap64 (1 + (wrap64 (Int.tmod a3 64))))).bind fun t353 => (if t352 = t353 then ((span_Gaps.f k bt339.1 bt339.2 bt346.1 bt346.2).bind fun t354 => ((stanzaref13_Gaps.f k bt339.1 bt339.2 bt346.1 bt346.2).bind fun t355 => (if t354 = t355 then ((span_Make.f k bt339.1 bt339.2 bt346.1 bt346.2 a4 (wrap64 (1 + (wrap64 (Int.tmod a3 64))))).bind fun bt356 => ((stanzaref13_Line.f k bt339.1 bt339.2 bt346.1 bt346.2 a4 (wrap64 (1 + (wrap64 (Int.tmod a3 64))))).bind fun bt360 => (if (bt356.1 == bt360.1 && (bt356.2.1 == bt360.2.1 && (bt356.2.2.1 == bt360.2.2.1 && (bt356.2.2.2 == bt360.2.2.2)))) = true then (if 0 ≤ bt346.2 then (if bt346.2 < (bt339.2.length : Int) then (if bt348.1 = (rd bt339.2 bt346.2) then (some (bt348.2 == ((rd bt339.2 bt346.2) != 0))) else (some false)) else (none)) else (none)) else (some false)))) else (some false)))) else (some false)))) else (some false)))))))) else (some false)) = some r := H
  have A6 := Aside0.mk A60
  clear A60
  by_cases c7 : t338 = true
  · subst c7
    have H1 : (if (l0.length : Int) > 1000 then (some true) else ((stanzahand03_Para.f k l0).bind fun bt339 => ((stanzalaw13_cut.f bt339.1 bt339.2 a1 a2).bind fun bt346 => ((span_Ends.f bt339.1 bt339.2 bt346.2).bind fun bt348 => ((span_Trim.f k bt339.1 bt339.2 bt346.1 bt346.2).bind fun t350 => ((stanzaref13_Trim.f k bt339.1 bt339.2 bt346.1 bt346.2).bind fun t351 => (if t350 = t351 then ((span_Cells.f k bt339.1 bt339.2 bt346.1 bt346.2 a4 (wrap64 (1 + (wrap64 (Int.tmod a3 64))))).bind fun t352 => ((stanzaref13_Cells.f k bt339.1 bt339.2 bt346.1 bt346.2 a4 (wrap64 (1 + (wrap64 (Int.tmod a3 64))))).bind fun t353 => (if t352 = t353 then ((span_Gaps.f k bt339.1 bt339.2 bt346.1 bt346.2).bind fun t354 => ((stanzaref13_Gaps.f k bt339.1 bt339.2 bt346.1 bt346.2).bind fun t355 => (if t354 = t355 then ((span_Make.f k bt339.1 bt339.2 bt346.1 bt346.2 a4 (wrap64 (1 + (wrap64 (Int.tmod a3 64))))).bind fun bt356 => ((stanzaref13_Line.f k bt339.1 bt339.2 bt346.1 bt346.2 a4 (wrap64 (1 + (wrap64 (Int.tmod a3 64))))).bind fun bt360 => (if (bt356.1 == bt360.1 && (bt356.2.1 == bt360.2.1 && (bt356.2.2.1 == bt360.2.2.1 && (bt356.2.2.2 == bt360.2.2.2)))) = true then (if 0 ≤ bt346.2 then (if bt346.2 < (bt339.2.length : Int) then (if bt348.1 = (rd bt339.2 bt346.2) then (some (bt348.2 == ((rd bt339.2 bt346.2) != 0))) else (some false)) else (none)) else (none)) else (some false)))) else (some false)))) else (some false)))) else (some false)))))))) = some r := by rw [if_pos rfl] at H; exact H
    clear H
    have H := H1
    clear H1
    by_cases c8 : (l0.length : Int) > 1000
    · rw [if_pos c8] at H
      have c8b0 : decide (1000 < (l0.length : Int)) = true := decide_eq_true c8
      have c8b1 : decide (1000 < l0.length) = true := decide_eq_true (by omega)
      clear c8
      obtain rfl := Option.some.inj H
      go_enter Try.func11, Try.ntmps11
      go_wp2_with (first | ((with_reducible refine gate_callee (f := 18) rfl ?_); refine goesL_ (some 17) rfl rfl Try.func18 (by kernel_rfl) rfl #[] rfl (by (try simp only [List.map_toArray, List.map_cons, List.map_nil]); first | done | rfl | (simp only [List.length_drop, List.length_take]; rfl)) ?_; (with_reducible refine (stanzalaw13_Awake.calls k  true _ A6.out (by first | exact ⟨rfl⟩ | exact hrt_)).mono ?_); rintro e w9 ⟨rfl, hb⟩; refine ⟨_, rfl, ?_⟩; have n0_ := Aside0.mk (below_step (by repeat (first | (with_reducible first | exact HB.out | apply below_alloc | apply pw_below_drewN | apply below_drew1) | exact HB.out)) hb); clear HB; have HB := n0_; clear n0_; (try clear hb); (try clear hb2); (try clear hk); (try clear hi)))
      go_ret
      exact ⟨by first | rfl | (simp [errW_none, errW_some] <;> rfl) | (simp [*, errW_none, errW_some] <;> rfl), by repeat (first | (with_reducible first | exact HB.out | apply below_alloc | apply pw_below_drewN | apply below_drew1) | exact HB.out)⟩
    · rw [if_neg c8] at H
      have c8b0 : decide (1000 < (l0.length : Int)) = false := decide_eq_false c8
      have c8b1 : decide (1000 < l0.length) = false := decide_eq_false (by omega)
      clear c8
      replace H := Option.bind_eq_some_iff.mp H
      obtain ⟨⟨t339, t342⟩, A100, H⟩ := H
      replace H : ((stanzalaw13_cut.f t339 t342 a1 a2).bind fun bt346 => ((span_Ends.f t339 t342 bt346.2).bind fun bt348 => ((span_Trim.f k t339 t342 bt346.1 bt346.2).bind fun t350 => ((stanzaref13_Trim.f k t339 t342 bt346.1 bt346.2).bind fun t351 => (if t350 = t351 then ((span_Cells.f k t339 t342 bt346.1 bt346.2 a4 (wrap64 (1 + (wrap64 (Int.tmod a3 64))))).bind fun t352 => ((stanzaref13_Cells.f k t339 t342 bt346.1 bt346.2 a4 (wrap64 (1 + (wrap64 (Int.tmod a3 64))))).bind fun t353 => (if t352 = t353 then ((span_Gaps.f k t339 t342 bt346.1 bt346.2).bind fun t354 => ((stanzaref13_Gaps.f k t339 t342 bt346.1 bt346.2).bind fun t355 => (if t354 = t355 then ((span_Make.f k t339 t342 bt346.1 bt346.2 a4 (wrap64 (1 + (wrap64 (Int.tmod a3 64))))).bind fun bt356 => ((stanzaref13_Line.f k t339 t342 bt346.1 bt346.2 a4 (wrap64 (1 + (wrap64 (Int.tmod a3 64))))).bind fun bt360 => (if (bt356.1 == bt360.1 && (bt356.2.1 == bt360.2.1 && (bt356.2.2.1 == bt360.2.2.1 && (bt356.2.2.2 == bt360.2.2.2)))) = true then (if 0 ≤ bt346.2 then (if bt346.2 < (t342.length : Int) then (if bt348.1 = (rd t342 bt346.2) then (some (bt348.2 == ((rd t342 bt346.2) != 0))) else (some false)) else (none)) else (none)) else (some false)))) else (some false)))) else (some false)))) else (some false)))))) = some r := H
      have A10 := Aside0.mk A100
      clear A100
      replace H := Option.bind_eq_some_iff.mp H
      obtain ⟨⟨t346, t347⟩, A110, H⟩ := H
      replace H : ((span_Ends.f t339 t342 t347).bind fun bt348 => ((span_Trim.f k t339 t342 t346 t347).bind fun t350 => ((stanzaref13_Trim.f k t339 t342 t346 t347).bind fun t351 => (if t350 = t351 then ((span_Cells.f k t339 t342 t346 t347 a4 (wrap64 (1 + (wrap64 (Int.tmod a3 64))))).bind fun t352 => ((stanzaref13_Cells.f k t339 t342 t346 t347 a4 (wrap64 (1 + (wrap64 (Int.tmod a3 64))))).bind fun t353 => (if t352 = t353 then ((span_Gaps.f k t339 t342 t346 t347).bind fun t354 => ((stanzaref13_Gaps.f k t339 t342 t346 t347).bind fun t355 => (if t354 = t355 then ((span_Make.f k t339 t342 t346 t347 a4 (wrap64 (1 + (wrap64 (Int.tmod a3 64))))).bind fun bt356 => ((stanzaref13_Line.f k t339 t342 t346 t347 a4 (wrap64 (1 + (wrap64 (Int.tmod a3 64))))).bind fun bt360 => (if (bt356.1 == bt360.1 && (bt356.2.1 == bt360.2.1 && (bt356.2.2.1 == bt360.2.2.1 && (bt356.2.2.2 == bt360.2.2.2)))) = true then (if 0 ≤ t347 then (if t347 < (t342.length : Int) then (if bt348.1 = (rd t342 t347) then (some (bt348.2 == ((rd t342 t347) != 0))) else (some false)) else (none)) else (none)) else (some false)))) else (some false)))) else (some false)))) else (some false))))) = some r := H
      have A11 := Aside0.mk A110
      clear A110
      replace H := Option.bind_eq_some_iff.mp H
      obtain ⟨⟨t348, t349⟩, A120, H⟩ := H
      replace H : ((span_Trim.f k t339 t342 t346 t347).bind fun t350 => ((stanzaref13_Trim.f k t339 t342 t346 t347).bind fun t351 => (if t350 = t351 then ((span_Cells.f k t339 t342 t346 t347 a4 (wrap64 (1 + (wrap64 (Int.tmod a3 64))))).bind fun t352 => ((stanzaref13_Cells.f k t339 t342 t346 t347 a4 (wrap64 (1 + (wrap64 (Int.tmod a3 64))))).bind fun t353 => (if t352 = t353 then ((span_Gaps.f k t339 t342 t346 t347).bind fun t354 => ((stanzaref13_Gaps.f k t339 t342 t346 t347).bind fun t355 => (if t354 = t355 then ((span_Make.f k t339 t342 t346 t347 a4 (wrap64 (1 + (wrap64 (Int.tmod a3 64))))).bind fun bt356 => ((stanzaref13_Line.f k t339 t342 t346 t347 a4 (wrap64 (1 + (wrap64 (Int.tmod a3 64))))).bind fun bt360 => (if (bt356.1 == bt360.1 && (bt356.2.1 == bt360.2.1 && (bt356.2.2.1 == bt360.2.2.1 && (bt356.2.2.2 == bt360.2.2.2)))) = true then (if 0 ≤ t347 then (if t347 < (t342.length : Int) then (if t348 = (rd t342 t347) then (some (t349 == ((rd t342 t347) != 0))) else (some false)) else (none)) else (none)) else (some false)))) else (some false)))) else (some false)))) else (some false)))) = some r := H
      have A12 := Aside0.mk A120
      clear A120
      replace H := Option.bind_eq_some_iff.mp H
      obtain ⟨t350, A130, H⟩ := H
      replace H : ((stanzaref13_Trim.f k t339 t342 t346 t347).bind fun t351 => (if t350 = t351 then ((span_Cells.f k t339 t342 t346 t347 a4 (wrap64 (1 + (wrap64 (Int.tmod a3 64))))).bind fun t352 => ((stanzaref13_Cells.f k t339 t342 t346 t347 a4 (wrap64 (1 + (wrap64 (Int.tmod a3 64))))).bind fun t353 => (if t352 = t353 then ((span_Gaps.f k t339 t342 t346 t347).bind fun t354 => ((stanzaref13_Gaps.f k t339 t342 t346 t347).bind fun t355 => (if t354 = t355 then ((span_Make.f k t339 t342 t346 t347 a4 (wrap64 (1 + (wrap64 (Int.tmod a3 64))))).bind fun bt356 => ((stanzaref13_Line.f k t339 t342 t346 t347 a4 (wrap64 (1 + (wrap64 (Int.tmod a3 64))))).bind fun bt360 => (if (bt356.1 == bt360.1 && (bt356.2.1 == bt360.2.1 && (bt356.2.2.1 == bt360.2.2.1 && (bt356.2.2.2 == bt360.2.2.2)))) = true then (if 0 ≤ t347 then (if t347 < (t342.length : Int) then (if t348 = (rd t342 t347) then (some (t349 == ((rd t342 t347) != 0))) else (some false)) else (none)) else (none)) else (some false)))) else (some false)))) else (some false)))) else (some false))) = some r := H
      have A13 := Aside0.mk A130
      clear A130
      replace H := Option.bind_eq_some_iff.mp H
      obtain ⟨t351, A140, H⟩ := H
      replace H : (if t350 = t351 then ((span_Cells.f k t339 t342 t346 t347 a4 (wrap64 (1 + (wrap64 (Int.tmod a3 64))))).bind fun t352 => ((stanzaref13_Cells.f k t339 t342 t346 t347 a4 (wrap64 (1 + (wrap64 (Int.tmod a3 64))))).bind fun t353 => (if t352 = t353 then ((span_Gaps.f k t339 t342 t346 t347).bind fun t354 => ((stanzaref13_Gaps.f k t339 t342 t346 t347).bind fun t355 => (if t354 = t355 then ((span_Make.f k t339 t342 t346 t347 a4 (wrap64 (1 + (wrap64 (Int.tmod a3 64))))).bind fun bt356 => ((stanzaref13_Line.f k t339 t342 t346 t347 a4 (wrap64 (1 + (wrap64 (Int.tmod a3 64))))).bind fun bt360 => (if (bt356.1 == bt360.1 && (bt356.2.1 == bt360.2.1 && (bt356.2.2.1 == bt360.2.2.1 && (bt356.2.2.2 == bt360.2.2.2)))) = true then (if 0 ≤ t347 then (if t347 < (t342.length : Int) then (if t348 = (rd t342 t347) then (some (t349 == ((rd t342 t347) != 0))) else (some false)) else (none)) else (none)) else (some false)))) else (some false)))) else (some false)))) else (some false)) = some r := H
      have A14 := Aside0.mk A140
      clear A140
      by_cases c15 : t350 = t351
      · rw [if_pos c15] at H
        have c15b0 : (t350 == t351) = true := beq_iff_eq.mpr c15
        have c15b1 : (t350 != t351) = false := bne_eq_false_iff_eq.mpr c15
        clear c15
        replace H := Option.bind_eq_some_iff.mp H
        obtain ⟨t352, A160, H⟩ := H
        replace H : ((stanzaref13_Cells.f k t339 t342 t346 t347 a4 (wrap64 (1 + (wrap64 (Int.tmod a3 64))))).bind fun t353 => (if t352 = t353 then ((span_Gaps.f k t339 t342 t346 t347).bind fun t354 => ((stanzaref13_Gaps.f k t339 t342 t346 t347).bind fun t355 => (if t354 = t355 then ((span_Make.f k t339 t342 t346 t347 a4 (wrap64 (1 + (wrap64 (Int.tmod a3 64))))).bind fun bt356 => ((stanzaref13_Line.f k t339 t342 t346 t347 a4 (wrap64 (1 + (wrap64 (Int.tmod a3 64))))).bind fun bt360 => (if (bt356.1 == bt360.1 && (bt356.2.1 == bt360.2.1 && (bt356.2.2.1 == bt360.2.2.1 && (bt356.2.2.2 == bt360.2.2.2)))) = true then (if 0 ≤ t347 then (if t347 < (t342.length : Int) then (if t348 = (rd t342 t347) then (some (t349 == ((rd t342 t347) != 0))) else (some false)) else (none)) else (none)) else (some false)))) else (some false)))) else (some false))) = some r := H
        have A16 := Aside0.mk A160
        clear A160
        replace H := Option.bind_eq_some_iff.mp H
        obtain ⟨t353, A170, H⟩ := H
        replace H : (if t352 = t353 then ((span_Gaps.f k t339 t342 t346 t347).bind fun t354 => ((stanzaref13_Gaps.f k t339 t342 t346 t347).bind fun t355 => (if t354 = t355 then ((span_Make.f k t339 t342 t346 t347 a4 (wrap64 (1 + (wrap64 (Int.tmod a3 64))))).bind fun bt356 => ((stanzaref13_Line.f k t339 t342 t346 t347 a4 (wrap64 (1 + (wrap64 (Int.tmod a3 64))))).bind fun bt360 => (if (bt356.1 == bt360.1 && (bt356.2.1 == bt360.2.1 && (bt356.2.2.1 == bt360.2.2.1 && (bt356.2.2.2 == bt360.2.2.2)))) = true then (if 0 ≤ t347 then (if t347 < (t342.length : Int) then (if t348 = (rd t342 t347) then (some (t349 == ((rd t342 t347) != 0))) else (some false)) else (none)) else (none)) else (some false)))) else (some false)))) else (some false)) = some r := H
        have A17 := Aside0.mk A170
        clear A170
        by_cases c18 : t352 = t353
        · rw [if_pos c18] at H
          have c18b0 : (t352 == t353) = true := beq_iff_eq.mpr c18
          have c18b1 : (t352 != t353) = false := bne_eq_false_iff_eq.mpr c18
          clear c18
          replace H := Option.bind_eq_some_iff.mp H
          obtain ⟨t354, A190, H⟩ := H
          replace H : ((stanzaref13_Gaps.f k t339 t342 t346 t347).bind fun t355 => (if t354 = t355 then ((span_Make.f k t339 t342 t346 t347 a4 (wrap64 (1 + (wrap64 (Int.tmod a3 64))))).bind fun bt356 => ((stanzaref13_Line.f k t339 t342 t346 t347 a4 (wrap64 (1 + (wrap64 (Int.tmod a3 64))))).bind fun bt360 => (if (bt356.1 == bt360.1 && (bt356.2.1 == bt360.2.1 && (bt356.2.2.1 == bt360.2.2.1 && (bt356.2.2.2 == bt360.2.2.2)))) = true then (if 0 ≤ t347 then (if t347 < (t342.length : Int) then (if t348 = (rd t342 t347) then (some (t349 == ((rd t342 t347) != 0))) else (some false)) else (none)) else (none)) else (some false)))) else (some false))) = some r := H
          have A19 := Aside0.mk A190
          clear A190
          replace H := Option.bind_eq_some_iff.mp H
          obtain ⟨t355, A200, H⟩ := H
          replace H : (if t354 = t355 then ((span_Make.f k t339 t342 t346 t347 a4 (wrap64 (1 + (wrap64 (Int.tmod a3 64))))).bind fun bt356 => ((stanzaref13_Line.f k t339 t342 t346 t347 a4 (wrap64 (1 + (wrap64 (Int.tmod a3 64))))).bind fun bt360 => (if (bt356.1 == bt360.1 && (bt356.2.1 == bt360.2.1 && (bt356.2.2.1 == bt360.2.2.1 && (bt356.2.2.2 == bt360.2.2.2)))) = true then (if 0 ≤ t347 then (if t347 < (t342.length : Int) then (if t348 = (rd t342 t347) then (some (t349 == ((rd t342 t347) != 0))) else (some false)) else (none)) else (none)) else (some false)))) else (some false)) = some r := H
          have A20 := Aside0.mk A200
          clear A200
          by_cases c21 : t354 = t355
          · rw [if_pos c21] at H
            have c21b0 : (t354 == t355) = true := beq_iff_eq.mpr c21
            have c21b1 : (t354 != t355) = false := bne_eq_false_iff_eq.mpr c21
            clear c21
            replace H := Option.bind_eq_some_iff.mp H
            obtain ⟨⟨t356, t357, t358, t359⟩, A220, H⟩ := H
            replace H : ((stanzaref13_Line.f k t339 t342 t346 t347 a4 (wrap64 (1 + (wrap64 (Int.tmod a3 64))))).bind fun bt360 => (if (t356 == bt360.1 && (t357 == bt360.2.1 && (t358 == bt360.2.2.1 && (t359 == bt360.2.2.2)))) = true then (if 0 ≤ t347 then (if t347 < (t342.length : Int) then (if t348 = (rd t342 t347) then (some (t349 == ((rd t342 t347) != 0))) else (some false)) else (none)) else (none)) else (some false))) = some r := H
            have A22 := Aside0.mk A220
            clear A220
            replace H := Option.bind_eq_some_iff.mp H
            obtain ⟨⟨t360, t361, t362, t363⟩, A230, H⟩ := H
            replace H : (if (t356 == t360 && (t357 == t361 && (t358 == t362 && (t359 == t363)))) = true then (if 0 ≤ t347 then (if t347 < (t342.length : Int) then (if t348 = (rd t342 t347) then (some (t349 == ((rd t342 t347) != 0))) else (some false)) else (none)) else (none)) else (some false)) = some r := H
            have A23 := Aside0.mk A230
            clear A230
            by_cases c24 : (t356 == t360 && (t357 == t361 && (t358 == t362 && (t359 == t363)))) = true
            · rw [if_pos c24] at H
              have c24b0 : (t356 == t360 && (t357 == t361 && (t358 == t362 && (t359 == t363)))) = true := c24
              (try (have c24b1 : decide (t356 = t360 && (t357 == t361 && (t358 == t362 && (t359 == t363)))) = true := by simpa using c24))
              (try (have c24b2 : (t356 == t360 && (t357 == t361 && (t358 == t362 && (t359 == t363)))) = true := by simpa using c24))
              clear c24
              by_cases c25 : 0 ≤ t347
              · rw [if_pos c25] at H
                have c25b0 : decide (0 ≤ t347) = true := decide_eq_true c25
                clear c25
                by_cases c26 : t347 < (t342.length : Int)
                · rw [if_pos c26] at H
                  have c26b0 : decide (t347 < (t342.length : Int)) = true := decide_eq_true c26
                  clear c26
                  by_cases c27 : t348 = (rd t342 t347)
                  · rw [if_pos c27] at H
                    have c27b0 : (t348 == (rd t342 t347)) = true := beq_iff_eq.mpr c27
                    have c27b1 : (t348 != (rd t342 t347)) = false := bne_eq_false_iff_eq.mpr c27
                    clear c27
                    obtain rfl := Option.some.inj H
                    go_enter Try.func11, Try.ntmps11
                    try go_wp2_with (first | ((with_reducible refine gate_callee (f := 18) rfl ?_); refine goesL_ (some 17) rfl rfl Try.func18 (by kernel_rfl) rfl #[] rfl (by (try simp only [List.map_toArray, List.map_cons, List.map_nil]); first | done | rfl | (simp only [List.length_drop, List.length_take]; rfl)) ?_; (with_reducible refine (stanzalaw13_Awake.calls k  true _ A6.out (by first | exact ⟨rfl⟩ | exact hrt_)).mono ?_); rintro e w28 ⟨rfl, hb⟩; refine ⟨_, rfl, ?_⟩; have n0_ := Aside0.mk (below_step (by repeat (first | (with_reducible first | exact HB.out | apply below_alloc | apply pw_below_drewN | apply below_drew1) | exact HB.out)) hb); clear HB; have HB := n0_; clear n0_; (try clear hb); (try clear hb2); (try clear hk); (try clear hi)) | ((with_reducible refine gate_callee (f := 19) rfl ?_); refine goesL_ (some 23) rfl rfl Try.func19 (by kernel_rfl) rfl #[.slice A0 l0.length c0] rfl (by (try simp only [List.map_toArray, List.map_cons, List.map_nil]); first | done | rfl | (simp only [List.length_drop, List.length_take]; rfl)) ?_; (with_reducible refine (stanzahand03_Para.calls k _ _ l0 t339 t342 _ ?side1 ?side2 A10.out).mono ?_); (case side1 => repeat (first | exact (Kd.C_below HR0.out HB.out) | (with_reducible refine Kd.C_alloc ?_ _) | (with_reducible refine Kd.C_drewN ?_ _) | (with_reducible refine Kd.C_drew ?_))); (case side2 => exact HC0.out); rintro e w29 ⟨v340, v343, rfl, ho0, ho1, hb⟩; refine ⟨_, rfl, ?_⟩; have n0_ := Aside0.mk (Kd.R_lower ho0 (below_size (by repeat (first | (with_reducible first | exact HB.out | apply below_alloc | apply pw_below_drewN | apply below_drew1) | exact HB.out)))); have n1_ := Aside0.mk (Kd.R_lower ho1 (below_size (by repeat (first | (with_reducible first | exact HB.out | apply below_alloc | apply pw_below_drewN | apply below_drew1) | exact HB.out)))); have n2_ := Aside0.mk (below_step (by repeat (first | (with_reducible first | exact HB.out | apply below_alloc | apply pw_below_drewN | apply below_drew1) | exact HB.out)) hb); clear HB; have HO341 := n0_; have HO344 := n1_; have HB := n2_; clear n0_ n1_ n2_; (try clear hb); (try clear hb2); (try clear hk); (try clear hi); (try clear ho0); (try clear ho1)) | ((with_reducible refine gate_dst (N := 11) rfl ?_); refine box_event ?hg (N := 11) ?hd (cs := #[.slice none 0 0, .slice none 0 0]) (t := 35) ?hr ?_; (case hd => rfl); (case hg => rfl); (case hr => first | (go_simp; done) | (go_simp; rfl)); intro gb345 hg w30 hbox hb; have n0_ := Aside0.mk (Kd.R_below (by (with_reducible repeat (first | apply Kd.R_alloc | apply Kd.R_drewN | apply Kd.R_drew)); exact HO341.out) hb); have n1_ := Aside0.mk (Kd.R_below (by (with_reducible repeat (first | apply Kd.R_alloc | apply Kd.R_drewN | apply Kd.R_drew)); exact HO344.out) hb); have n2_ := Aside0.mk (below_step (by repeat (first | (with_reducible first | exact HB.out | apply below_alloc | apply pw_below_drewN | apply below_drew1) | exact HB.out)) hb); have n3_ := Aside0.mk (hbox); have n4_ := Aside0.mk ((by rw [hg]; exact (below_size (by repeat (first | (with_reducible first | exact HB.out | apply below_alloc | apply pw_below_drewN | apply below_drew1) | exact HB.out))) : w.heap.size ≤ gb345)); have n5_ := Aside0.mk ((by rw [hg]; exact (below_size (by repeat (first | (with_reducible first | exact HB.out | apply below_alloc | apply pw_below_drewN | apply below_drew1) | exact HB.out))) : w.heap.size ≤ gb345)); clear HO341; clear HO344; clear HB; have HO341 := n0_; have HO344 := n1_; have HB := n2_; have BK345 := n3_; have GW345 := n4_; have GE345 := n5_; clear n0_ n1_ n2_ n3_ n4_ n5_; clear hb hbox hg; obtain ⟨Ao31, co31, eo31⟩ := Kd.R_slice HO341.out; subst eo31; have hcz32_0 : w30.cell? ⟨gb345, 0, none⟩ = some (.slice none 0 0) := (blk_cell BK345.out 0).trans rfl; have hcz32_1 : w30.cell? ⟨gb345, 1, none⟩ = some (.slice none 0 0) := (blk_cell BK345.out 1).trans rfl; have hfz32_0 := blk_frozen BK345.out 0; have hfz32_1 := blk_frozen BK345.out 1; obtain ⟨Ao33, co33, eo33⟩ := Kd.R_slice HO344.out; subst eo33) | ((with_reducible refine gate_store (t := 35) (p := 11) rfl ?_); refine store_event (t := 35) (p := 11) (v := ?vo_w34) (w1 := ((w30.setCell ⟨gb345, 0, none⟩ (.slice Ao31 t339.length co31)).setCell ⟨gb345, 1, none⟩ (.slice Ao33 t342.length co33))) ?hg ?ho ?hn ?hr ?_; (case ho => rfl); (case hg => rfl); (case hn => rfl); (case hr => first | (go_simp; done) | (go_simp; rfl)); intro w34 hw; have n0_ : Aside0 (Kd.R k41 41 w34 w.heap.size (fun _ => True) (.slice Ao31 t339.length co31) t339) := ⟨(by rw [hw]; exact (by (with_reducible repeat (first | apply Kd.R_alloc | apply Kd.R_drewN | apply Kd.R_drew)); exact Kd.R_mono (Kd.R_far (p := ⟨gb345, 1, none⟩) (Kd.R_far (p := ⟨gb345, 0, none⟩) (Kd.R_types HO341.out BK345.out (by decide)) (fun _ hk => hk.2) (.slice Ao31 t339.length co31)) (fun _ hk => hk.2) (.slice Ao33 t342.length co33)) (fun _ hk => trivial)))⟩; have n1_ : Aside0 (Kd.R (Kd.int .u8) 46 w34 w.heap.size (fun _ => True) (.slice Ao33 t342.length co33) t342) := ⟨(by rw [hw]; exact (by (with_reducible repeat (first | apply Kd.R_alloc | apply Kd.R_drewN | apply Kd.R_drew)); exact Kd.R_mono (Kd.R_far (p := ⟨gb345, 1, none⟩) (Kd.R_far (p := ⟨gb345, 0, none⟩) (Kd.R_types HO344.out BK345.out (by decide)) (fun _ hk => hk.2) (.slice Ao31 t339.length co31)) (fun _ hk => hk.2) (.slice Ao33 t342.length co33)) (fun _ hk => trivial)))⟩; have n2_ : Aside0 (w34.heap[gb345]? = some (.cells #[.slice Ao31 t339.length co31, .slice Ao33 t342.length co33] 35 (0, 0))) := ⟨(by rw [hw]; exact (by (with_reducible repeat (first | refine blk_drewN ?_ _ | refine blk_drew ?_ | refine blk_alloc ?_ _)); refine blk_put (cs := #[.slice Ao31 t339.length co31, .slice none 0 0]) ?_ 1 _ rfl; (with_reducible repeat (first | refine blk_drewN ?_ _ | refine blk_drew ?_ | refine blk_alloc ?_ _)); refine blk_put (cs := #[.slice none 0 0, .slice none 0 0]) ?_ 0 _ rfl; (with_reducible repeat (first | refine blk_drewN ?_ _ | refine blk_drew ?_ | refine blk_alloc ?_ _)); exact BK345.out))⟩; have n3_ : Aside0 (Below w.heap.size w w34) := ⟨(by rw [hw]; exact (by repeat (first | (with_reducible first | exact HB.out | apply below_alloc | apply pw_below_drewN | apply below_drew1 | refine below_set ?_ GE345.out) | exact HB.out)))⟩; clear hw; clear HO341; clear HO344; clear BK345; clear HB; have HO341 := n0_; have HO344 := n1_; have BK345 := n2_; have HB := n3_; clear n0_ n1_ n2_ n3_; have hcz35_0 : w34.cell? ⟨gb345, 0, none⟩ = some (.slice Ao31 t339.length co31) := (blk_cell BK345.out 0).trans rfl; have hcz35_1 : w34.cell? ⟨gb345, 1, none⟩ = some (.slice Ao33 t342.length co33) := (blk_cell BK345.out 1).trans rfl; have hfz35_0 := blk_frozen BK345.out 0; have hfz35_1 := blk_frozen BK345.out 1) | ((with_reducible refine gate_callee (f := 20) rfl ?_); refine goesL_ (some 28) rfl rfl Try.func20 (by kernel_rfl) rfl #[.agg #[.slice Ao31 t339.length co31, .slice Ao33 t342.length co33], .int .i64 a1, .int .i64 a2] rfl (by (try simp only [List.map_toArray, List.map_cons, List.map_nil]); first | done | rfl | (simp only [List.length_drop, List.length_take]; rfl)) ?_; (with_reducible refine (stanzalaw13_cut.calls _ _ t339 _ _ t342 a1 a2 t346 t347 _ ?side1 ?side2 ?side3 ?side4 A11.out).mono ?_); (case side1 => repeat (first | exact (Kd.R_reads' HO341.out).2.2 | (with_reducible refine Kd.C_alloc ?_ _) | (with_reducible refine Kd.C_drewN ?_ _) | (with_reducible refine Kd.C_drew ?_))); (case side2 => exact (Kd.R_reads' HO341.out).2.1); (case side3 => repeat (first | exact (Kd.R_reads' HO344.out).2.2 | (with_reducible refine Kd.C_alloc ?_ _) | (with_reducible refine Kd.C_drewN ?_ _) | (with_reducible refine Kd.C_drew ?_))); (case side4 => exact (Kd.R_reads' HO344.out).2.1); rintro e w36 ⟨rfl, hb⟩; refine ⟨_, rfl, ?_⟩; have n0_ := Aside0.mk (Kd.R_below (by (with_reducible repeat (first | apply Kd.R_alloc | apply Kd.R_drewN | apply Kd.R_drew)); exact HO341.out) hb); have n1_ := Aside0.mk (Kd.R_below (by (with_reducible repeat (first | apply Kd.R_alloc | apply Kd.R_drewN | apply Kd.R_drew)); exact HO344.out) hb); have n2_ := Aside0.mk (blk_below (g := gb345) (o := .cells #[.slice Ao31 t339.length co31, .slice Ao33 t342.length co33] 35 (0, 0)) (by (with_reducible repeat (first | refine blk_drewN ?_ _ | refine blk_drew ?_ | refine blk_alloc ?_ _)); exact BK345.out) hb); have n3_ := Aside0.mk (below_step (by repeat (first | (with_reducible first | exact HB.out | apply below_alloc | apply pw_below_drewN | apply below_drew1 | refine below_set ?_ GE345.out) | exact HB.out)) hb); clear HO341; clear HO344; clear BK345; clear HB; have HO341 := n0_; have HO344 := n1_; have BK345 := n2_; have HB := n3_; clear n0_ n1_ n2_ n3_; (try clear hb); (try clear hb2); (try clear hk); (try clear hi); have hcz37_0 : w36.cell? ⟨gb345, 0, none⟩ = some (.slice Ao31 t339.length co31) := (blk_cell BK345.out 0).trans rfl; have hcz37_1 : w36.cell? ⟨gb345, 1, none⟩ = some (.slice Ao33 t342.length co33) := (blk_cell BK345.out 1).trans rfl; have hfz37_0 := blk_frozen BK345.out 0; have hfz37_1 := blk_frozen BK345.out 1) | ((with_reducible refine gate_callee (f := 30) rfl ?_); refine goesL_ (some 38) rfl rfl Try.func30 (by kernel_rfl) rfl #[.agg #[.slice Ao31 t339.length co31, .slice Ao33 t342.length co33], .int .i64 t347] rfl (by (try simp only [List.map_toArray, List.map_cons, List.map_nil]); first | done | rfl | (simp only [List.length_drop, List.length_take]; rfl)) ?_; (with_reducible refine (span_Ends.calls _ _ t339 _ _ t342 t347 t348 t349 _ ?side1 ?side2 ?side3 ?side4 A12.out).mono ?_); (case side1 => repeat (first | exact (Kd.R_reads' HO341.out).2.2 | (with_reducible refine Kd.C_alloc ?_ _) | (with_reducible refine Kd.C_drewN ?_ _) | (with_reducible refine Kd.C_drew ?_))); (case side2 => exact (Kd.R_reads' HO341.out).2.1); (case side3 => repeat (first | exact (Kd.R_reads' HO344.out).2.2 | (with_reducible refine Kd.C_alloc ?_ _) | (with_reducible refine Kd.C_drewN ?_ _) | (with_reducible refine Kd.C_drew ?_))); (case side4 => exact (Kd.R_reads' HO344.out).2.1); rintro e w38 ⟨rfl, hb⟩; refine ⟨_, rfl, ?_⟩; have n0_ := Aside0.mk (Kd.R_below (by (with_reducible repeat (first | apply Kd.R_alloc | apply Kd.R_drewN | apply Kd.R_drew)); exact HO341.out) hb); have n1_ := Aside0.mk (Kd.R_below (by (with_reducible repeat (first | apply Kd.R_alloc | apply Kd.R_drewN | apply Kd.R_drew)); exact HO344.out) hb); have n2_ := Aside0.mk (blk_below (g := gb345) (o := .cells #[.slice Ao31 t339.length co31, .slice Ao33 t342.length co33] 35 (0, 0)) (by (with_reducible repeat (first | refine blk_drewN ?_ _ | refine blk_drew ?_ | refine blk_alloc ?_ _)); exact BK345.out) hb); have n3_ := Aside0.mk (below_step (by repeat (first | (with_reducible first | exact HB.out | apply below_alloc | apply pw_below_drewN | apply below_drew1 | refine below_set ?_ GE345.out) | exact HB.out)) hb); clear HO341; clear HO344; clear BK345; clear HB; have HO341 := n0_; have HO344 := n1_; have BK345 := n2_; have HB := n3_; clear n0_ n1_ n2_ n3_; (try clear hb); (try clear hb2); (try clear hk); (try clear hi)))
                    have n0_ := Aside0.mk (Kd.R_drew HO341.out)
                    have n1_ := Aside0.mk (Kd.R_drew HO344.out)
                    have n2_ := Aside0.mk (blk_drew BK345.out)
                    have n3_ := Aside0.mk (below_drew1 HB.out)
                    clear HO341
                    clear HO344
                    clear BK345
                    clear HB
                    have HO341 := n0_
                    have HO344 := n1_
                    have BK345 := n2_
                    have HB := n3_
                    clear n0_ n1_ n2_ n3_
                    have p364 : 0 ≤ (t347 : Int) := of_decide_eq_true (by first | (with_reducible assumption) | assumption)
                    have q364 : t347 < (t342.length : Int) := of_decide_eq_true (by first | (with_reducible assumption) | assumption)
                    obtain ⟨ad364, e364, hx364_0⟩ := Kd.at_int (Kd.R_reads' HO344.out).2.2 t347 p364 q364
                    cases e364
                    replace p364 := eq_true p364
                    replace q364 := eq_true q364
                    have p365 : 0 ≤ (t347 : Int) := of_decide_eq_true (by first | (with_reducible assumption) | assumption)
                    have q365 : t347 < (t342.length : Int) := of_decide_eq_true (by first | (with_reducible assumption) | assumption)
                    obtain ⟨ad365, e365, hx365_0⟩ := Kd.at_int (Kd.R_reads' HO344.out).2.2 t347 p365 q365
                    obtain rfl : ad364 = ad365 := (by injection e365)
                    replace p365 := eq_true p365
                    replace q365 := eq_true q365
                    refine start_ (n := 70) (S := fun w' => w'.cell? ⟨gb345, 0, none⟩ = some (.slice Ao31 t339.length co31) ∧ w'.cell? ⟨gb345, 1, none⟩ = some (.slice (some ad364) t342.length co33) ∧ w'.cell? (ad364.add (t347).toNat) = some (.int .u8 (rd t342 t347)) ∧ w'.cell? (ad364.add (t347).toNat) = some (.int .u8 (rd t342 t347))) (ds := []) #[false, false, false, false, false, false, false, false, false, false, false, false, false, false, false, false, false, false, false, false, false, false, false, false, false, false, false, false, false, false, false, false, false, false, false, false, false, false, false, false, false, false, false, false, false, false, false, false, false, false, false, false, false, false, false, false, false, false, false, false, false, false, false, false, false, false, false, false, false, false] (by kernel_rfl) rfl rfl ⟨(blk_cell BK345.out 0).trans rfl, (blk_cell BK345.out 1).trans rfl, hx364_0, hx365_0⟩ (fun hHeld => ?_); refine with_tabW stanzalaw13_SpanCells.tab9 stanzalaw13_SpanCells.bits9 (fun HT_ HW_ => ?_)
                    generalize w38.drew = w39 at HO341 HO344 BK345 HB hx364_0 hx365_0 hHeld ⊢
                    refine pure_ (i := 1) (N := some 42) (v := ?_) (a' := ?_) #[false, true, false, false, false, false, false, false, false, false, false, false, false, false, false, false, false, false, false, false, false, false, false, false, false, false, false, false, false, false, false, false, false, false, false, false, false, false, false, false, false, false, false, false, false, false, false, false, false, false, false, false, false, false, false, false, false, false, false, false, false, false, false, false, false, false, false, false, false, false] rfl rfl (any_of HT_.out (by kernel_rfl)) (fun _ _ _ h => h) (Or.inl ⟨by rfl, ?_⟩) ?_ ?_
                    rotate_left
                    · intro w'
                      go_simp
                      with_reducible rfl
                    rotate_left
                    · simp only [Act.put, List.setIfInBounds_toArray, List.set_cons_zero, List.set_cons_succ, i64_w, i32_w]
                      rfl
                    refine pure_ (i := 2) (N := some 43) (v := ?_) (a' := ?_) #[false, true, true, false, false, false, false, false, false, false, false, false, false, false, false, false, false, false, false, false, false, false, false, false, false, false, false, false, false, false, false, false, false, false, false, false, false, false, false, false, false, false, false, false, false, false, false, false, false, false, false, false, false, false, false, false, false, false, false, false, false, false, false, false, false, false, false, false, false, false] rfl rfl (any_of HT_.out (by kernel_rfl)) (fun _ _ _ h => h) (Or.inl ⟨by rfl, ?_⟩) ?_ ?_
                    rotate_left
                    · intro w'
                      go_simp
                      with_reducible rfl
                    rotate_left
                    · simp only [Act.put, List.setIfInBounds_toArray, List.set_cons_zero, List.set_cons_succ, i64_w, i32_w]
                      rfl
                    refine pure_ (i := 5) (N := some 46) (v := ?_) (a' := ?_) #[false, true, true, false, false, true, false, false, false, false, false, false, false, false, false, false, false, false, false, false, false, false, false, false, false, false, false, false, false, false, false, false, false, false, false, false, false, false, false, false, false, false, false, false, false, false, false, false, false, false, false, false, false, false, false, false, false, false, false, false, false, false, false, false, false, false, false, false, false, false] rfl rfl (any_of HT_.out (by kernel_rfl)) (fun _ _ _ h => h) (Or.inl ⟨by rfl, ?_⟩) ?_ ?_
                    rotate_left
                    · intro w'
                      go_simp
                      with_reducible rfl
                    rotate_left
                    · simp only [Act.put, List.setIfInBounds_toArray, List.set_cons_zero, List.set_cons_succ, i64_w, i32_w]
                      rfl
                    refine pure_ (i := 6) (N := some 47) (v := ?_) (a' := ?_) #[false, true, true, false, false, true, true, false, false, false, false, false, false, false, false, false, false, false, false, false, false, false, false, false, false, false, false, false, false, false, false, false, false, false, false, false, false, false, false, false, false, false, false, false, false, false, false, false, false, false, false, false, false, false, false, false, false, false, false, false, false, false, false, false, false, false, false, false, false, false] rfl rfl (any_of HT_.out (by kernel_rfl)) (fun _ _ _ h => h) (Or.inl ⟨by rfl, ?_⟩) ?_ ?_
                    rotate_left
                    · intro w'
                      go_simp
                      with_reducible rfl
                    rotate_left
                    · simp only [Act.put, List.setIfInBounds_toArray, List.set_cons_zero, List.set_cons_succ, i64_w, i32_w]
                      rfl
                    refine take_ (i := 0) (N := some 41) (v := ?_) (a' := ?_) #[true, true, true, false, false, true, true, false, false, false, false, false, false, false, false, false, false, false, false, false, false, false, false, false, false, false, false, false, false, false, false, false, false, false, false, false, false, false, false, false, false, false, false, false, false, false, false, false, false, false, false, false, false, false, false, false, false, false, false, false, false, false, false, false, false, false, false, false, false, false] rfl rfl (take_ofW HT_.out HW_.out (by kernel_rfl)) (fun _ _ _ h => h) (Or.inl ⟨by rfl, ?_⟩) hHeld ?_ ?_
                    rotate_left
                    · rintro w' ⟨s0, s1, s2, s3⟩
                      go_simp
                      with_reducible rfl
                    rotate_left
                    · simp only [Act.put, List.setIfInBounds_toArray, List.set_cons_zero, List.set_cons_succ, i64_w, i32_w]
                      rfl
                    refine take_ (i := 4) (N := some 45) (v := ?_) (a' := ?_) #[true, true, true, false, true, true, true, false, false, false, false, false, false, false, false, false, false, false, false, false, false, false, false, false, false, false, false, false, false, false, false, false, false, false, false, false, false, false, false, false, false, false, false, false, false, false, false, false, false, false, false, false, false, false, false, false, false, false, false, false, false, false, false, false, false, false, false, false, false, false] rfl rfl (take_ofW HT_.out HW_.out (by kernel_rfl)) (fun _ _ _ h => h) (Or.inl ⟨by rfl, ?_⟩) hHeld ?_ ?_
                    rotate_left
                    · rintro w' ⟨s0, s1, s2, s3⟩
                      go_simp
                      with_reducible rfl
                    rotate_left
                    · simp only [Act.put, List.setIfInBounds_toArray, List.set_cons_zero, List.set_cons_succ, i64_w, i32_w]
                      rfl
                    refine one_ (i := 3) (N := some 44) #[true, true, true, true, true, true, true, false, false, false, false, false, false, false, false, false, false, false, false, false, false, false, false, false, false, false, false, false, false, false, false, false, false, false, false, false, false, false, false, false, false, false, false, false, false, false, false, false, false, false, false, false, false, false, false, false, false, false, false, false, false, false, false, false, false, false, false, false, false, false] rfl rfl (one_of HT_.out (by kernel_rfl)) (by decide) (fun K hK => ?_)
                    refine goes_ Try.func26 (by kernel_rfl) rfl #[.agg #[.slice Ao31 t339.length co31, .slice (some ad364) t342.length co33], .int .i64 t346, .int .i64 t347] (by rfl) rfl rfl (by (try simp only [List.map_toArray, List.map_cons, List.map_nil]); first | done | rfl | (simp only [List.length_drop, List.length_take]; rfl)) ?_
                    with_reducible refine (span_Trim.calls k _ _ t339 _ _ t342 t346 t347 t350 _ ?side1 ?side2 ?side3 ?side4 A13.out).mono ?_
                    (case side1 => repeat (first | exact (Kd.R_reads' HO341.out).2.2 | (with_reducible refine Kd.C_alloc ?_ _) | (with_reducible refine Kd.C_drewN ?_ _) | (with_reducible refine Kd.C_drew ?_)))
                    (case side2 => exact (Kd.R_reads' HO341.out).2.1)
                    (case side3 => repeat (first | exact (Kd.R_reads' HO344.out).2.2 | (with_reducible refine Kd.C_alloc ?_ _) | (with_reducible refine Kd.C_drewN ?_ _) | (with_reducible refine Kd.C_drew ?_)))
                    (case side4 => exact (Kd.R_reads' HO344.out).2.1)
                    rintro e w40 ⟨rfl, hb⟩
                    have HS2_ := (hb.cell (World.block_lt_of_cell? _ _ (hHeld.2.2.1))).trans (hHeld.2.2.1)
                    have HS3_ := (hb.cell (World.block_lt_of_cell? _ _ (hHeld.2.2.2))).trans (hHeld.2.2.2)
                    refine ⟨_, rfl, ?_⟩
                    have n0_ := Aside0.mk (Kd.R_below (by (with_reducible repeat (first | apply Kd.R_alloc | apply Kd.R_drewN | apply Kd.R_drew)); exact HO341.out) hb)
                    have n1_ := Aside0.mk (Kd.R_below (by (with_reducible repeat (first | apply Kd.R_alloc | apply Kd.R_drewN | apply Kd.R_drew)); exact HO344.out) hb)
                    have n2_ := Aside0.mk (blk_below (g := gb345) (o := .cells #[.slice Ao31 t339.length co31, .slice (some ad364) t342.length co33] 35 (0, 0)) (by (with_reducible repeat (first | refine blk_drewN ?_ _ | refine blk_drew ?_ | refine blk_alloc ?_ _)); exact BK345.out) hb)
                    have n3_ := Aside0.mk (below_step (by repeat (first | (with_reducible first | exact HB.out | apply below_alloc | apply pw_below_drewN | apply below_drew1 | refine below_set ?_ GE345.out) | exact HB.out)) hb)
                    clear HO341
                    clear HO344
                    clear BK345
                    clear HB
                    have HO341 := n0_
                    have HO344 := n1_
                    have BK345 := n2_
                    have HB := n3_
                    clear n0_ n1_ n2_ n3_
                    (try clear hb)
                    (try clear hb2)
                    (try clear hk)
                    (try clear hi)
                    refine hK.out _ _ ⟨(blk_cell BK345.out 0).trans rfl, (blk_cell BK345.out 1).trans rfl, HS2_, HS3_⟩ (fun hHeld => ?_)
                    clear hK K
                    refine norm_ (a' := ?_) ?_ ?_
                    rotate_left
                    · show Act.put _ (some 44) _ = _
                      simp only [Act.put, List.setIfInBounds_toArray, List.set_cons_zero, List.set_cons_succ, i64_w, i32_w]
                      rfl
                    refine one_ (i := 7) (N := some 48) #[true, true, true, true, true, true, true, true, false, false, false, false, false, false, false, false, false, false, false, false, false, false, false, false, false, false, false, false, false, false, false, false, false, false, false, false, false, false, false, false, false, false, false, false, false, false, false, false, false, false, false, false, false, false, false, false, false, false, false, false, false, false, false, false, false, false, false, false, false, false] rfl rfl (one_of HT_.out (by kernel_rfl)) (by decide) (fun K hK => ?_)
                    refine goes_ Try.func31 (by kernel_rfl) rfl #[.agg #[.slice Ao31 t339.length co31, .slice (some ad364) t342.length co33], .int .i64 t346, .int .i64 t347] (by rfl) rfl rfl (by (try simp only [List.map_toArray, List.map_cons, List.map_nil]); first | done | rfl | (simp only [List.length_drop, List.length_take]; rfl)) ?_
                    with_reducible refine (stanzaref13_Trim.calls k _ _ t339 _ _ t342 t346 t347 t351 _ ?side1 ?side2 ?side3 ?side4 A14.out).mono ?_
                    (case side1 => repeat (first | exact (Kd.R_reads' HO341.out).2.2 | (with_reducible refine Kd.C_alloc ?_ _) | (with_reducible refine Kd.C_drewN ?_ _) | (with_reducible refine Kd.C_drew ?_)))
                    (case side2 => exact (Kd.R_reads' HO341.out).2.1)
                    (case side3 => repeat (first | exact (Kd.R_reads' HO344.out).2.2 | (with_reducible refine Kd.C_alloc ?_ _) | (with_reducible refine Kd.C_drewN ?_ _) | (with_reducible refine Kd.C_drew ?_)))
                    (case side4 => exact (Kd.R_reads' HO344.out).2.1)
                    rintro e w41 ⟨rfl, hb⟩
                    have HS2_ := (hb.cell (World.block_lt_of_cell? _ _ (hHeld.2.2.1))).trans (hHeld.2.2.1)
                    have HS3_ := (hb.cell (World.block_lt_of_cell? _ _ (hHeld.2.2.2))).trans (hHeld.2.2.2)
                    refine ⟨_, rfl, ?_⟩
                    have n0_ := Aside0.mk (Kd.R_below (by (with_reducible repeat (first | apply Kd.R_alloc | apply Kd.R_drewN | apply Kd.R_drew)); exact HO341.out) hb)
                    have n1_ := Aside0.mk (Kd.R_below (by (with_reducible repeat (first | apply Kd.R_alloc | apply Kd.R_drewN | apply Kd.R_drew)); exact HO344.out) hb)
                    have n2_ := Aside0.mk (blk_below (g := gb345) (o := .cells #[.slice Ao31 t339.length co31, .slice (some ad364) t342.length co33] 35 (0, 0)) (by (with_reducible repeat (first | refine blk_drewN ?_ _ | refine blk_drew ?_ | refine blk_alloc ?_ _)); exact BK345.out) hb)
                    have n3_ := Aside0.mk (below_step (by repeat (first | (with_reducible first | exact HB.out | apply below_alloc | apply pw_below_drewN | apply below_drew1 | refine below_set ?_ GE345.out) | exact HB.out)) hb)
                    clear HO341
                    clear HO344
                    clear BK345
                    clear HB
                    have HO341 := n0_
                    have HO344 := n1_
                    have BK345 := n2_
                    have HB := n3_
                    clear n0_ n1_ n2_ n3_
                    (try clear hb)
                    (try clear hb2)
                    (try clear hk)
                    (try clear hi)
                    refine hK.out _ _ ⟨(blk_cell BK345.out 0).trans rfl, (blk_cell BK345.out 1).trans rfl, HS2_, HS3_⟩ (fun hHeld => ?_)
                    clear hK K
                    refine norm_ (a' := ?_) ?_ ?_
                    rotate_left
                    · show Act.put _ (some 48) _ = _
                      simp only [Act.put, List.setIfInBounds_toArray, List.set_cons_zero, List.set_cons_succ, i64_w, i32_w]
                      rfl
                    refine pure_ (i := 8) (N := some 49) (v := ?_) (a' := ?_) #[true, true, true, true, true, true, true, true, true, false, false, false, false, false, false, false, false, false, false, false, false, false, false, false, false, false, false, false, false, false, false, false, false, false, false, false, false, false, false, false, false, false, false, false, false, false, false, false, false, false, false, false, false, false, false, false, false, false, false, false, false, false, false, false, false, false, false, false, false, false] rfl rfl (any_of HT_.out (by kernel_rfl)) (fun _ _ _ h => h) (Or.inl ⟨by rfl, ?_⟩) ?_ ?_
                    rotate_left
                    · intro w'
                      go_simp
                      with_reducible rfl
                    rotate_left
                    · simp only [Act.put, List.setIfInBounds_toArray, List.set_cons_zero, List.set_cons_succ, i64_w, i32_w]
                      rfl
                    refine pure_ (i := 9) (N := some 50) (v := ?_) (a' := ?_) #[true, true, true, true, true, true, true, true, true, true, false, false, false, false, false, false, false, false, false, false, false, false, false, false, false, false, false, false, false, false, false, false, false, false, false, false, false, false, false, false, false, false, false, false, false, false, false, false, false, false, false, false, false, false, false, false, false, false, false, false, false, false, false, false, false, false, false, false, false, false] rfl rfl (any_of HT_.out (by kernel_rfl)) (fun _ _ _ h => h) (Or.inl ⟨by rfl, ?_⟩) ?_ ?_
                    rotate_left
                    · intro w'
                      go_simp
                      with_reducible rfl
                    rotate_left
                    · simp only [Act.put, List.setIfInBounds_toArray, List.set_cons_zero, List.set_cons_succ, i64_w, i32_w]
                      rfl
                    refine pure_ (i := 11) (N := some 52) (v := ?_) (a' := ?_) #[true, true, true, true, true, true, true, true, true, true, false, true, false, false, false, false, false, false, false, false, false, false, false, false, false, false, false, false, false, false, false, false, false, false, false, false, false, false, false, false, false, false, false, false, false, false, false, false, false, false, false, false, false, false, false, false, false, false, false, false, false, false, false, false, false, false, false, false, false, false] rfl rfl (any_of HT_.out (by kernel_rfl)) (fun _ _ _ h => h) (Or.inl ⟨by rfl, ?_⟩) ?_ ?_
                    rotate_left
                    · intro w'
                      go_simp
                      with_reducible rfl
                    rotate_left
                    · simp only [Act.put, List.setIfInBounds_toArray, List.set_cons_zero, List.set_cons_succ, i64_w, i32_w]
                      rfl
                    refine pure_ (i := 12) (N := some 53) (v := ?_) (a' := ?_) #[true, true, true, true, true, true, true, true, true, true, false, true, true, false, false, false, false, false, false, false, false, false, false, false, false, false, false, false, false, false, false, false, false, false, false, false, false, false, false, false, false, false, false, false, false, false, false, false, false, false, false, false, false, false, false, false, false, false, false, false, false, false, false, false, false, false, false, false, false, false] rfl rfl (any_of HT_.out (by kernel_rfl)) (fun _ _ _ h => h) (Or.inl ⟨by rfl, ?_⟩) ?_ ?_
                    rotate_left
                    · intro w'
                      go_simp
                      with_reducible rfl
                    rotate_left
                    · simp only [Act.put, List.setIfInBounds_toArray, List.set_cons_zero, List.set_cons_succ, i64_w, i32_w]
                      rfl
                    refine pure_ (i := 13) (N := some 54) (v := ?_) (a' := ?_) #[true, true, true, true, true, true, true, true, true, true, false, true, true, true, false, false, false, false, false, false, false, false, false, false, false, false, false, false, false, false, false, false, false, false, false, false, false, false, false, false, false, false, false, false, false, false, false, false, false, false, false, false, false, false, false, false, false, false, false, false, false, false, false, false, false, false, false, false, false, false] rfl rfl (any_of HT_.out (by kernel_rfl)) (fun _ _ _ h => h) (Or.inl ⟨by rfl, ?_⟩) ?_ ?_
                    rotate_left
                    · intro w'
                      go_simp
                      with_reducible rfl
                    rotate_left
                    · simp only [Act.put, List.setIfInBounds_toArray, List.set_cons_zero, List.set_cons_succ, i64_w, i32_w]
                      rfl
                    refine pure_ (i := 14) (N := some 55) (v := ?_) (a' := ?_) #[true, true, true, true, true, true, true, true, true, true, false, true, true, true, true, false, false, false, false, false, false, false, false, false, false, false, false, false, false, false, false, false, false, false, false, false, false, false, false, false, false, false, false, false, false, false, false, false, false, false, false, false, false, false, false, false, false, false, false, false, false, false, false, false, false, false, false, false, false, false] rfl rfl (any_of HT_.out (by kernel_rfl)) (fun _ _ _ h => h) (Or.inl ⟨by rfl, ?_⟩) ?_ ?_
                    rotate_left
                    · intro w'
                      go_simp
                      with_reducible rfl
                    rotate_left
                    · simp only [Act.put, List.setIfInBounds_toArray, List.set_cons_zero, List.set_cons_succ, i64_w, i32_w]
                      rfl
                    refine pure_ (i := 17) (N := some 58) (v := ?_) (a' := ?_) #[true, true, true, true, true, true, true, true, true, true, false, true, true, true, true, false, false, true, false, false, false, false, false, false, false, false, false, false, false, false, false, false, false, false, false, false, false, false, false, false, false, false, false, false, false, false, false, false, false, false, false, false, false, false, false, false, false, false, false, false, false, false, false, false, false, false, false, false, false, false] rfl rfl (any_of HT_.out (by kernel_rfl)) (fun _ _ _ h => h) (Or.inl ⟨by rfl, ?_⟩) ?_ ?_
                    rotate_left
                    · intro w'
                      go_simp
                      with_reducible rfl
                    rotate_left
                    · simp only [Act.put, List.setIfInBounds_toArray, List.set_cons_zero, List.set_cons_succ, i64_w, i32_w]
                      rfl
                    refine pure_ (i := 18) (N := some 59) (v := ?_) (a' := ?_) #[true, true, true, true, true, true, true, true, true, true, false, true, true, true, true, false, false, true, true, false, false, false, false, false, false, false, false, false, false, false, false, false, false, false, false, false, false, false, false, false, false, false, false, false, false, false, false, false, false, false, false, false, false, false, false, false, false, false, false, false, false, false, false, false, false, false, false, false, false, false] rfl rfl (any_of HT_.out (by kernel_rfl)) (fun _ _ _ h => h) (Or.inl ⟨by rfl, ?_⟩) ?_ ?_
                    rotate_left
                    · intro w'
                      go_simp
                      with_reducible rfl
                    rotate_left
                    · simp only [Act.put, List.setIfInBounds_toArray, List.set_cons_zero, List.set_cons_succ, i64_w, i32_w]
                      rfl
                    refine pure_ (i := 19) (N := some 60) (v := ?_) (a' := ?_) #[true, true, true, true, true, true, true, true, true, true, false, true, true, true, true, false, false, true, true, true, false, false, false, false, false, false, false, false, false, false, false, false, false, false, false, false, false, false, false, false, false, false, false, false, false, false, false, false, false, false, false, false, false, false, false, false, false, false, false, false, false, false, false, false, false, false, false, false, false, false] rfl rfl (any_of HT_.out (by kernel_rfl)) (fun _ _ _ h => h) (Or.inl ⟨by rfl, ?_⟩) ?_ ?_
                    rotate_left
                    · intro w'
                      go_simp
                      with_reducible rfl
                    rotate_left
                    · simp only [Act.put, List.setIfInBounds_toArray, List.set_cons_zero, List.set_cons_succ, i64_w, i32_w]
                      rfl
                    refine pure_ (i := 20) (N := some 61) (v := ?_) (a' := ?_) #[true, true, true, true, true, true, true, true, true, true, false, true, true, true, true, false, false, true, true, true, true, false, false, false, false, false, false, false, false, false, false, false, false, false, false, false, false, false, false, false, false, false, false, false, false, false, false, false, false, false, false, false, false, false, false, false, false, false, false, false, false, false, false, false, false, false, false, false, false, false] rfl rfl (any_of HT_.out (by kernel_rfl)) (fun _ _ _ h => h) (Or.inl ⟨by rfl, ?_⟩) ?_ ?_
                    rotate_left
                    · intro w'
                      go_simp
                      with_reducible rfl
                    rotate_left
                    · simp only [Act.put, List.setIfInBounds_toArray, List.set_cons_zero, List.set_cons_succ, i64_w, i32_w]
                      rfl
                    refine take_ (i := 10) (N := some 51) (v := ?_) (a' := ?_) #[true, true, true, true, true, true, true, true, true, true, true, true, true, true, true, false, false, true, true, true, true, false, false, false, false, false, false, false, false, false, false, false, false, false, false, false, false, false, false, false, false, false, false, false, false, false, false, false, false, false, false, false, false, false, false, false, false, false, false, false, false, false, false, false, false, false, false, false, false, false] rfl rfl (take_ofW HT_.out HW_.out (by kernel_rfl)) (fun _ _ _ h => h) (Or.inl ⟨by rfl, ?_⟩) hHeld ?_ ?_
                    rotate_left
                    · rintro w' ⟨s0, s1, s2, s3⟩
                      go_simp
                      with_reducible rfl
                    rotate_left
                    · simp only [Act.put, List.setIfInBounds_toArray, List.set_cons_zero, List.set_cons_succ, i64_w, i32_w]
                      rfl
                    refine take_ (i := 16) (N := some 57) (v := ?_) (a' := ?_) #[true, true, true, true, true, true, true, true, true, true, true, true, true, true, true, false, true, true, true, true, true, false, false, false, false, false, false, false, false, false, false, false, false, false, false, false, false, false, false, false, false, false, false, false, false, false, false, false, false, false, false, false, false, false, false, false, false, false, false, false, false, false, false, false, false, false, false, false, false, false] rfl rfl (take_ofW HT_.out HW_.out (by kernel_rfl)) (fun _ _ _ h => h) (Or.inl ⟨by rfl, ?_⟩) hHeld ?_ ?_
                    rotate_left
                    · rintro w' ⟨s0, s1, s2, s3⟩
                      go_simp
                      with_reducible rfl
                    rotate_left
                    · simp only [Act.put, List.setIfInBounds_toArray, List.set_cons_zero, List.set_cons_succ, i64_w, i32_w]
                      rfl
                    refine one_ (i := 15) (N := some 56) #[true, true, true, true, true, true, true, true, true, true, true, true, true, true, true, true, true, true, true, true, true, false, false, false, false, false, false, false, false, false, false, false, false, false, false, false, false, false, false, false, false, false, false, false, false, false, false, false, false, false, false, false, false, false, false, false, false, false, false, false, false, false, false, false, false, false, false, false, false, false] rfl rfl (one_of HT_.out (by kernel_rfl)) (by decide) (fun K hK => ?_)
                    refine goes_ Try.func25 (by kernel_rfl) rfl #[.agg #[.slice Ao31 t339.length co31, .slice (some ad364) t342.length co33], .int .i64 t346, .int .i64 t347, .int .u8 a4, .int .i64 (wrap64 (1 + (wrap64 (Int.tmod a3 64))))] (by rfl) rfl rfl (by (try simp only [List.map_toArray, List.map_cons, List.map_nil]); first | done | rfl | (simp only [List.length_drop, List.length_take]; rfl)) ?_
                    with_reducible refine (span_Cells.calls k _ _ t339 _ _ t342 t346 t347 a4 (wrap64 (1 + (wrap64 (Int.tmod a3 64)))) t352 _ ?side1 ?side2 ?side3 ?side4 A16.out).mono ?_
                    (case side1 => repeat (first | exact (Kd.R_reads' HO341.out).2.2 | (with_reducible refine Kd.C_alloc ?_ _) | (with_reducible refine Kd.C_drewN ?_ _) | (with_reducible refine Kd.C_drew ?_)))
                    (case side2 => exact (Kd.R_reads' HO341.out).2.1)
                    (case side3 => repeat (first | exact (Kd.R_reads' HO344.out).2.2 | (with_reducible refine Kd.C_alloc ?_ _) | (with_reducible refine Kd.C_drewN ?_ _) | (with_reducible refine Kd.C_drew ?_)))
                    (case side4 => exact (Kd.R_reads' HO344.out).2.1)
                    rintro e w42 ⟨rfl, hb⟩
                    have HS2_ := (hb.cell (World.block_lt_of_cell? _ _ (hHeld.2.2.1))).trans (hHeld.2.2.1)
                    have HS3_ := (hb.cell (World.block_lt_of_cell? _ _ (hHeld.2.2.2))).trans (hHeld.2.2.2)
                    refine ⟨_, rfl, ?_⟩
                    have n0_ := Aside0.mk (Kd.R_below (by (with_reducible repeat (first | apply Kd.R_alloc | apply Kd.R_drewN | apply Kd.R_drew)); exact HO341.out) hb)
                    have n1_ := Aside0.mk (Kd.R_below (by (with_reducible repeat (first | apply Kd.R_alloc | apply Kd.R_drewN | apply Kd.R_drew)); exact HO344.out) hb)
                    have n2_ := Aside0.mk (blk_below (g := gb345) (o := .cells #[.slice Ao31 t339.length co31, .slice (some ad364) t342.length co33] 35 (0, 0)) (by (with_reducible repeat (first | refine blk_drewN ?_ _ | refine blk_drew ?_ | refine blk_alloc ?_ _)); exact BK345.out) hb)
                    have n3_ := Aside0.mk (below_step (by repeat (first | (with_reducible first | exact HB.out | apply below_alloc | apply pw_below_drewN | apply below_drew1 | refine below_set ?_ GE345.out) | exact HB.out)) hb)
                    clear HO341
                    clear HO344
                    clear BK345
                    clear HB
                    have HO341 := n0_
                    have HO344 := n1_
                    have BK345 := n2_
                    have HB := n3_
                    clear n0_ n1_ n2_ n3_
                    (try clear hb)
                    (try clear hb2)
                    (try clear hk)
                    (try clear hi)
                    refine hK.out _ _ ⟨(blk_cell BK345.out 0).trans rfl, (blk_cell BK345.out 1).trans rfl, HS2_, HS3_⟩ (fun hHeld => ?_)
                    clear hK K
                    refine norm_ (a' := ?_) ?_ ?_
                    rotate_left
                    · show Act.put _ (some 56) _ = _
                      simp only [Act.put, List.setIfInBounds_toArray, List.set_cons_zero, List.set_cons_succ, i64_w, i32_w]
                      rfl
                    refine one_ (i := 21) (N := some 62) #[true, true, true, true, true, true, true, true, true, true, true, true, true, true, true, true, true, true, true, true, true, true, false, false, false, false, false, false, false, false, false, false, false, false, false, false, false, false, false, false, false, false, false, false, false, false, false, false, false, false, false, false, false, false, false, false, false, false, false, false, false, false, false, false, false, false, false, false, false, false] rfl rfl (one_of HT_.out (by kernel_rfl)) (by decide) (fun K hK => ?_)
                    refine goes_ Try.func32 (by kernel_rfl) rfl #[.agg #[.slice Ao31 t339.length co31, .slice (some ad364) t342.length co33], .int .i64 t346, .int .i64 t347, .int .u8 a4, .int .i64 (wrap64 (1 + (wrap64 (Int.tmod a3 64))))] (by rfl) rfl rfl (by (try simp only [List.map_toArray, List.map_cons, List.map_nil]); first | done | rfl | (simp only [List.length_drop, List.length_take]; rfl)) ?_
                    with_reducible refine (stanzaref13_Cells.calls k _ _ t339 _ _ t342 t346 t347 a4 (wrap64 (1 + (wrap64 (Int.tmod a3 64)))) t353 _ ?side1 ?side2 ?side3 ?side4 A17.out).mono ?_
                    (case side1 => repeat (first | exact (Kd.R_reads' HO341.out).2.2 | (with_reducible refine Kd.C_alloc ?_ _) | (with_reducible refine Kd.C_drewN ?_ _) | (with_reducible refine Kd.C_drew ?_)))
                    (case side2 => exact (Kd.R_reads' HO341.out).2.1)
                    (case side3 => repeat (first | exact (Kd.R_reads' HO344.out).2.2 | (with_reducible refine Kd.C_alloc ?_ _) | (with_reducible refine Kd.C_drewN ?_ _) | (with_reducible refine Kd.C_drew ?_)))
                    (case side4 => exact (Kd.R_reads' HO344.out).2.1)
                    rintro e w43 ⟨rfl, hb⟩
                    have HS2_ := (hb.cell (World.block_lt_of_cell? _ _ (hHeld.2.2.1))).trans (hHeld.2.2.1)
                    have HS3_ := (hb.cell (World.block_lt_of_cell? _ _ (hHeld.2.2.2))).trans (hHeld.2.2.2)
                    refine ⟨_, rfl, ?_⟩
                    have n0_ := Aside0.mk (Kd.R_below (by (with_reducible repeat (first | apply Kd.R_alloc | apply Kd.R_drewN | apply Kd.R_drew)); exact HO341.out) hb)
                    have n1_ := Aside0.mk (Kd.R_below (by (with_reducible repeat (first | apply Kd.R_alloc | apply Kd.R_drewN | apply Kd.R_drew)); exact HO344.out) hb)
                    have n2_ := Aside0.mk (blk_below (g := gb345) (o := .cells #[.slice Ao31 t339.length co31, .slice (some ad364) t342.length co33] 35 (0, 0)) (by (with_reducible repeat (first | refine blk_drewN ?_ _ | refine blk_drew ?_ | refine blk_alloc ?_ _)); exact BK345.out) hb)
                    have n3_ := Aside0.mk (below_step (by repeat (first | (with_reducible first | exact HB.out | apply below_alloc | apply pw_below_drewN | apply below_drew1 | refine below_set ?_ GE345.out) | exact HB.out)) hb)
                    clear HO341
                    clear HO344
                    clear BK345
                    clear HB
                    have HO341 := n0_
                    have HO344 := n1_
                    have BK345 := n2_
                    have HB := n3_
                    clear n0_ n1_ n2_ n3_
                    (try clear hb)
                    (try clear hb2)
                    (try clear hk)
                    (try clear hi)
                    refine hK.out _ _ ⟨(blk_cell BK345.out 0).trans rfl, (blk_cell BK345.out 1).trans rfl, HS2_, HS3_⟩ (fun hHeld => ?_)
                    clear hK K
                    refine norm_ (a' := ?_) ?_ ?_
                    rotate_left
                    · show Act.put _ (some 62) _ = _
                      simp only [Act.put, List.setIfInBounds_toArray, List.set_cons_zero, List.set_cons_succ, i64_w, i32_w]
                      rfl
                    refine pure_ (i := 22) (N := some 63) (v := ?_) (a' := ?_) #[true, true, true, true, true, true, true, true, true, true, true, true, true, true, true, true, true, true, true, true, true, true, true, false, false, false, false, false, false, false, false, false, false, false, false, false, false, false, false, false, false, false, false, false, false, false, false, false, false, false, false, false, false, false, false, false, false, false, false, false, false, false, false, false, false, false, false, false, false, false] rfl rfl (any_of HT_.out (by kernel_rfl)) (fun _ _ _ h => h) (Or.inl ⟨by rfl, ?_⟩) ?_ ?_
                    rotate_left
                    · intro w'
                      go_simp
                      with_reducible rfl
                    rotate_left
                    · simp only [Act.put, List.setIfInBounds_toArray, List.set_cons_zero, List.set_cons_succ, i64_w, i32_w]
                      rfl
                    refine pure_ (i := 23) (N := some 64) (v := ?_) (a' := ?_) #[true, true, true, true, true, true, true, true, true, true, true, true, true, true, true, true, true, true, true, true, true, true, true, true, false, false, false, false, false, false, false, false, false, false, false, false, false, false, false, false, false, false, false, false, false, false, false, false, false, false, false, false, false, false, false, false, false, false, false, false, false, false, false, false, false, false, false, false, false, false] rfl rfl (any_of HT_.out (by kernel_rfl)) (fun _ _ _ h => h) (Or.inl ⟨by rfl, ?_⟩) ?_ ?_
                    rotate_left
                    · intro w'
                      go_simp
                      with_reducible rfl
                    rotate_left
                    · simp only [Act.put, List.setIfInBounds_toArray, List.set_cons_zero, List.set_cons_succ, i64_w, i32_w]
                      rfl
                    refine pure_ (i := 24) (N := some 65) (v := ?_) (a' := ?_) #[true, true, true, true, true, true, true, true, true, true, true, true, true, true, true, true, true, true, true, true, true, true, true, true, true, false, false, false, false, false, false, false, false, false, false, false, false, false, false, false, false, false, false, false, false, false, false, false, false, false, false, false, false, false, false, false, false, false, false, false, false, false, false, false, false, false, false, false, false, false] rfl rfl (any_of HT_.out (by kernel_rfl)) (fun _ _ _ h => h) (Or.inl ⟨by rfl, ?_⟩) ?_ ?_
                    rotate_left
                    · intro w'
                      go_simp
                      with_reducible rfl
                    rotate_left
                    · simp only [Act.put, List.setIfInBounds_toArray, List.set_cons_zero, List.set_cons_succ, i64_w, i32_w]
                      rfl
                    refine pure_ (i := 26) (N := some 67) (v := ?_) (a' := ?_) #[true, true, true, true, true, true, true, true, true, true, true, true, true, true, true, true, true, true, true, true, true, true, true, true, true, false, true, false, false, false, false, false, false, false, false, false, false, false, false, false, false, false, false, false, false, false, false, false, false, false, false, false, false, false, false, false, false, false, false, false, false, false, false, false, false, false, false, false, false, false] rfl rfl (any_of HT_.out (by kernel_rfl)) (fun _ _ _ h => h) (Or.inl ⟨by rfl, ?_⟩) ?_ ?_
                    rotate_left
                    · intro w'
                      go_simp
                      with_reducible rfl
                    rotate_left
                    · simp only [Act.put, List.setIfInBounds_toArray, List.set_cons_zero, List.set_cons_succ, i64_w, i32_w]
                      rfl
                    refine pure_ (i := 27) (N := some 68) (v := ?_) (a' := ?_) #[true, true, true, true, true, true, true, true, true, true, true, true, true, true, true, true, true, true, true, true, true, true, true, true, true, false, true, true, false, false, false, false, false, false, false, false, false, false, false, false, false, false, false, false, false, false, false, false, false, false, false, false, false, false, false, false, false, false, false, false, false, false, false, false, false, false, false, false, false, false] rfl rfl (any_of HT_.out (by kernel_rfl)) (fun _ _ _ h => h) (Or.inl ⟨by rfl, ?_⟩) ?_ ?_
                    rotate_left
                    · intro w'
                      go_simp
                      with_reducible rfl
                    rotate_left
                    · simp only [Act.put, List.setIfInBounds_toArray, List.set_cons_zero, List.set_cons_succ, i64_w, i32_w]
                      rfl
                    refine pure_ (i := 30) (N := some 71) (v := ?_) (a' := ?_) #[true, true, true, true, true, true, true, true, true, true, true, true, true, true, true, true, true, true, true, true, true, true, true, true, true, false, true, true, false, false, true, false, false, false, false, false, false, false, false, false, false, false, false, false, false, false, false, false, false, false, false, false, false, false, false, false, false, false, false, false, false, false, false, false, false, false, false, false, false, false] rfl rfl (any_of HT_.out (by kernel_rfl)) (fun _ _ _ h => h) (Or.inl ⟨by rfl, ?_⟩) ?_ ?_
                    rotate_left
                    · intro w'
                      go_simp
                      with_reducible rfl
                    rotate_left
                    · simp only [Act.put, List.setIfInBounds_toArray, List.set_cons_zero, List.set_cons_succ, i64_w, i32_w]
                      rfl
                    refine pure_ (i := 31) (N := some 72) (v := ?_) (a' := ?_) #[true, true, true, true, true, true, true, true, true, true, true, true, true, true, true, true, true, true, true, true, true, true, true, true, true, false, true, true, false, false, true, true, false, false, false, false, false, false, false, false, false, false, false, false, false, false, false, false, false, false, false, false, false, false, false, false, false, false, false, false, false, false, false, false, false, false, false, false, false, false] rfl rfl (any_of HT_.out (by kernel_rfl)) (fun _ _ _ h => h) (Or.inl ⟨by rfl, ?_⟩) ?_ ?_
                    rotate_left
                    · intro w'
                      go_simp
                      with_reducible rfl
                    rotate_left
                    · simp only [Act.put, List.setIfInBounds_toArray, List.set_cons_zero, List.set_cons_succ, i64_w, i32_w]
                      rfl
                    refine take_ (i := 25) (N := some 66) (v := ?_) (a' := ?_) #[true, true, true, true, true, true, true, true, true, true, true, true, true, true, true, true, true, true, true, true, true, true, true, true, true, true, true, true, false, false, true, true, false, false, false, false, false, false, false, false, false, false, false, false, false, false, false, false, false, false, false, false, false, false, false, false, false, false, false, false, false, false, false, false, false, false, false, false, false, false] rfl rfl (take_ofW HT_.out HW_.out (by kernel_rfl)) (fun _ _ _ h => h) (Or.inl ⟨by rfl, ?_⟩) hHeld ?_ ?_
                    rotate_left
                    · rintro w' ⟨s0, s1, s2, s3⟩
                      go_simp
                      with_reducible rfl
                    rotate_left
                    · simp only [Act.put, List.setIfInBounds_toArray, List.set_cons_zero, List.set_cons_succ, i64_w, i32_w]
                      rfl
                    refine take_ (i := 29) (N := some 70) (v := ?_) (a' := ?_) #[true, true, true, true, true, true, true, true, true, true, true, true, true, true, true, true, true, true, true, true, true, true, true, true, true, true, true, true, false, true, true, true, false, false, false, false, false, false, false, false, false, false, false, false, false, false, false, false, false, false, false, false, false, false, false, false, false, false, false, false, false, false, false, false, false, false, false, false, false, false] rfl rfl (take_ofW HT_.out HW_.out (by kernel_rfl)) (fun _ _ _ h => h) (Or.inl ⟨by rfl, ?_⟩) hHeld ?_ ?_
                    rotate_left
                    · rintro w' ⟨s0, s1, s2, s3⟩
                      go_simp
                      with_reducible rfl
                    rotate_left
                    · simp only [Act.put, List.setIfInBounds_toArray, List.set_cons_zero, List.set_cons_succ, i64_w, i32_w]
                      rfl
                    refine one_ (i := 28) (N := some 69) #[true, true, true, true, true, true, true, true, true, true, true, true, true, true, true, true, true, true, true, true, true, true, true, true, true, true, true, true, true, true, true, true, false, false, false, false, false, false, false, false, false, false, false, false, false, false, false, false, false, false, false, false, false, false, false, false, false, false, false, false, false, false, false, false, false, false, false, false, false, false] rfl rfl (one_of HT_.out (by kernel_rfl)) (by decide) (fun K hK => ?_)
                    refine goes_ Try.func27 (by kernel_rfl) rfl #[.agg #[.slice Ao31 t339.length co31, .slice (some ad364) t342.length co33], .int .i64 t346, .int .i64 t347] (by rfl) rfl rfl (by (try simp only [List.map_toArray, List.map_cons, List.map_nil]); first | done | rfl | (simp only [List.length_drop, List.length_take]; rfl)) ?_
                    with_reducible refine (span_Gaps.calls k _ _ t339 _ _ t342 t346 t347 t354 _ ?side1 ?side2 ?side3 ?side4 A19.out).mono ?_
                    (case side1 => repeat (first | exact (Kd.R_reads' HO341.out).2.2 | (with_reducible refine Kd.C_alloc ?_ _) | (with_reducible refine Kd.C_drewN ?_ _) | (with_reducible refine Kd.C_drew ?_)))
                    (case side2 => exact (Kd.R_reads' HO341.out).2.1)
                    (case side3 => repeat (first | exact (Kd.R_reads' HO344.out).2.2 | (with_reducible refine Kd.C_alloc ?_ _) | (with_reducible refine Kd.C_drewN ?_ _) | (with_reducible refine Kd.C_drew ?_)))
                    (case side4 => exact (Kd.R_reads' HO344.out).2.1)
                    rintro e w44 ⟨rfl, hb⟩
                    have HS2_ := (hb.cell (World.block_lt_of_cell? _ _ (hHeld.2.2.1))).trans (hHeld.2.2.1)
                    have HS3_ := (hb.cell (World.block_lt_of_cell? _ _ (hHeld.2.2.2))).trans (hHeld.2.2.2)
                    refine ⟨_, rfl, ?_⟩
                    have n0_ := Aside0.mk (Kd.R_below (by (with_reducible repeat (first | apply Kd.R_alloc | apply Kd.R_drewN | apply Kd.R_drew)); exact HO341.out) hb)
                    have n1_ := Aside0.mk (Kd.R_below (by (with_reducible repeat (first | apply Kd.R_alloc | apply Kd.R_drewN | apply Kd.R_drew)); exact HO344.out) hb)
                    have n2_ := Aside0.mk (blk_below (g := gb345) (o := .cells #[.slice Ao31 t339.length co31, .slice (some ad364) t342.length co33] 35 (0, 0)) (by (with_reducible repeat (first | refine blk_drewN ?_ _ | refine blk_drew ?_ | refine blk_alloc ?_ _)); exact BK345.out) hb)
                    have n3_ := Aside0.mk (below_step (by repeat (first | (with_reducible first | exact HB.out | apply below_alloc | apply pw_below_drewN | apply below_drew1 | refine below_set ?_ GE345.out) | exact HB.out)) hb)
                    clear HO341
                    clear HO344
                    clear BK345
                    clear HB
                    have HO341 := n0_
                    have HO344 := n1_
                    have BK345 := n2_
                    have HB := n3_
                    clear n0_ n1_ n2_ n3_
                    (try clear hb)
                    (try clear hb2)
                    (try clear hk)
                    (try clear hi)
                    refine hK.out _ _ ⟨(blk_cell BK345.out 0).trans rfl, (blk_cell BK345.out 1).trans rfl, HS2_, HS3_⟩ (fun hHeld => ?_)
                    clear hK K
                    refine norm_ (a' := ?_) ?_ ?_
                    rotate_left
                    · show Act.put _ (some 69) _ = _
                      simp only [Act.put, List.setIfInBounds_toArray, List.set_cons_zero, List.set_cons_succ, i64_w, i32_w]
                      rfl
                    refine one_ (i := 32) (N := some 73) #[true, true, true, true, true, true, true, true, true, true, true, true, true, true, true, true, true, true, true, true, true, true, true, true, true, true, true, true, true, true, true, true, true, false, false, false, false, false, false, false, false, false, false, false, false, false, false, false, false, false, false, false, false, false, false, false, false, false, false, false, false, false, false, false, false, false, false, false, false, false] rfl rfl (one_of HT_.out (by kernel_rfl)) (by decide) (fun K hK => ?_)
                    refine goes_ Try.func33 (by kernel_rfl) rfl #[.agg #[.slice Ao31 t339.length co31, .slice (some ad364) t342.length co33], .int .i64 t346, .int .i64 t347] (by rfl) rfl rfl (by (try simp only [List.map_toArray, List.map_cons, List.map_nil]); first | done | rfl | (simp only [List.length_drop, List.length_take]; rfl)) ?_
                    with_reducible refine (stanzaref13_Gaps.calls k _ _ t339 _ _ t342 t346 t347 t355 _ ?side1 ?side2 ?side3 ?side4 A20.out).mono ?_
                    (case side1 => repeat (first | exact (Kd.R_reads' HO341.out).2.2 | (with_reducible refine Kd.C_alloc ?_ _) | (with_reducible refine Kd.C_drewN ?_ _) | (with_reducible refine Kd.C_drew ?_)))
                    (case side2 => exact (Kd.R_reads' HO341.out).2.1)
                    (case side3 => repeat (first | exact (Kd.R_reads' HO344.out).2.2 | (with_reducible refine Kd.C_alloc ?_ _) | (with_reducible refine Kd.C_drewN ?_ _) | (with_reducible refine Kd.C_drew ?_)))
                    (case side4 => exact (Kd.R_reads' HO344.out).2.1)
                    rintro e w45 ⟨rfl, hb⟩
                    have HS2_ := (hb.cell (World.block_lt_of_cell? _ _ (hHeld.2.2.1))).trans (hHeld.2.2.1)
                    have HS3_ := (hb.cell (World.block_lt_of_cell? _ _ (hHeld.2.2.2))).trans (hHeld.2.2.2)
                    refine ⟨_, rfl, ?_⟩
                    have n0_ := Aside0.mk (Kd.R_below (by (with_reducible repeat (first | apply Kd.R_alloc | apply Kd.R_drewN | apply Kd.R_drew)); exact HO341.out) hb)
                    have n1_ := Aside0.mk (Kd.R_below (by (with_reducible repeat (first | apply Kd.R_alloc | apply Kd.R_drewN | apply Kd.R_drew)); exact HO344.out) hb)
                    have n2_ := Aside0.mk (blk_below (g := gb345) (o := .cells #[.slice Ao31 t339.length co31, .slice (some ad364) t342.length co33] 35 (0, 0)) (by (with_reducible repeat (first | refine blk_drewN ?_ _ | refine blk_drew ?_ | refine blk_alloc ?_ _)); exact BK345.out) hb)
                    have n3_ := Aside0.mk (below_step (by repeat (first | (with_reducible first | exact HB.out | apply below_alloc | apply pw_below_drewN | apply below_drew1 | refine below_set ?_ GE345.out) | exact HB.out)) hb)
                    clear HO341
                    clear HO344
                    clear BK345
                    clear HB
                    have HO341 := n0_
                    have HO344 := n1_
                    have BK345 := n2_
                    have HB := n3_
                    clear n0_ n1_ n2_ n3_
                    (try clear hb)
                    (try clear hb2)
                    (try clear hk)
                    (try clear hi)
                    refine hK.out _ _ ⟨(blk_cell BK345.out 0).trans rfl, (blk_cell BK345.out 1).trans rfl, HS2_, HS3_⟩ (fun hHeld => ?_)
                    clear hK K
                    refine norm_ (a' := ?_) ?_ ?_
                    rotate_left
                    · show Act.put _ (some 73) _ = _
                      simp only [Act.put, List.setIfInBounds_toArray, List.set_cons_zero, List.set_cons_succ, i64_w, i32_w]
                      rfl
                    refine pure_ (i := 33) (N := some 74) (v := ?_) (a' := ?_) #[true, true, true, true, true, true, true, true, true, true, true, true, true, true, true, true, true, true, true, true, true, true, true, true, true, true, true, true, true, true, true, true, true, true, false, false, false, false, false, false, false, false, false, false, false, false, false, false, false, false, false, false, false, false, false, false, false, false, false, false, false, false, false, false, false, false, false, false, false, false] rfl rfl (any_of HT_.out (by kernel_rfl)) (fun _ _ _ h => h) (Or.inl ⟨by rfl, ?_⟩) ?_ ?_
                    rotate_left
                    · intro w'
                      go_simp
                      with_reducible rfl
                    rotate_left
                    · simp only [Act.put, List.setIfInBounds_toArray, List.set_cons_zero, List.set_cons_succ, i64_w, i32_w]
                      rfl
                    refine pure_ (i := 34) (N := some 75) (v := ?_) (a' := ?_) #[true, true, true, true, true, true, true, true, true, true, true, true, true, true, true, true, true, true, true, true, true, true, true, true, true, true, true, true, true, true, true, true, true, true, true, false, false, false, false, false, false, false, false, false, false, false, false, false, false, false, false, false, false, false, false, false, false, false, false, false, false, false, false, false, false, false, false, false, false, false] rfl rfl (any_of HT_.out (by kernel_rfl)) (fun _ _ _ h => h) (Or.inl ⟨by rfl, ?_⟩) ?_ ?_
                    rotate_left
                    · intro w'
                      go_simp
                      with_reducible rfl
                    rotate_left
                    · simp only [Act.put, List.setIfInBounds_toArray, List.set_cons_zero, List.set_cons_succ, i64_w, i32_w]
                      rfl
                    refine pure_ (i := 35) (N := some 76) (v := ?_) (a' := ?_) #[true, true, true, true, true, true, true, true, true, true, true, true, true, true, true, true, true, true, true, true, true, true, true, true, true, true, true, true, true, true, true, true, true, true, true, true, false, false, false, false, false, false, false, false, false, false, false, false, false, false, false, false, false, false, false, false, false, false, false, false, false, false, false, false, false, false, false, false, false, false] rfl rfl (any_of HT_.out (by kernel_rfl)) (fun _ _ _ h => h) (Or.inl ⟨by rfl, ?_⟩) ?_ ?_
                    rotate_left
                    · intro w'
                      go_simp
                      with_reducible rfl
                    rotate_left
                    · simp only [Act.put, List.setIfInBounds_toArray, List.set_cons_zero, List.set_cons_succ, i64_w, i32_w]
                      rfl
                    refine pure_ (i := 37) (N := some 78) (v := ?_) (a' := ?_) #[true, true, true, true, true, true, true, true, true, true, true, true, true, true, true, true, true, true, true, true, true, true, true, true, true, true, true, true, true, true, true, true, true, true, true, true, false, true, false, false, false, false, false, false, false, false, false, false, false, false, false, false, false, false, false, false, false, false, false, false, false, false, false, false, false, false, false, false, false, false] rfl rfl (any_of HT_.out (by kernel_rfl)) (fun _ _ _ h => h) (Or.inl ⟨by rfl, ?_⟩) ?_ ?_
                    rotate_left
                    · intro w'
                      go_simp
                      with_reducible rfl
                    rotate_left
                    · simp only [Act.put, List.setIfInBounds_toArray, List.set_cons_zero, List.set_cons_succ, i64_w, i32_w]
                      rfl
                    refine pure_ (i := 38) (N := some 79) (v := ?_) (a' := ?_) #[true, true, true, true, true, true, true, true, true, true, true, true, true, true, true, true, true, true, true, true, true, true, true, true, true, true, true, true, true, true, true, true, true, true, true, true, false, true, true, false, false, false, false, false, false, false, false, false, false, false, false, false, false, false, false, false, false, false, false, false, false, false, false, false, false, false, false, false, false, false] rfl rfl (any_of HT_.out (by kernel_rfl)) (fun _ _ _ h => h) (Or.inl ⟨by rfl, ?_⟩) ?_ ?_
                    rotate_left
                    · intro w'
                      go_simp
                      with_reducible rfl
                    rotate_left
                    · simp only [Act.put, List.setIfInBounds_toArray, List.set_cons_zero, List.set_cons_succ, i64_w, i32_w]
                      rfl
                    refine pure_ (i := 39) (N := some 80) (v := ?_) (a' := ?_) #[true, true, true, true, true, true, true, true, true, true, true, true, true, true, true, true, true, true, true, true, true, true, true, true, true, true, true, true, true, true, true, true, true, true, true, true, false, true, true, true, false, false, false, false, false, false, false, false, false, false, false, false, false, false, false, false, false, false, false, false, false, false, false, false, false, false, false, false, false, false] rfl rfl (any_of HT_.out (by kernel_rfl)) (fun _ _ _ h => h) (Or.inl ⟨by rfl, ?_⟩) ?_ ?_
                    rotate_left
                    · intro w'
                      go_simp
                      with_reducible rfl
                    rotate_left
                    · simp only [Act.put, List.setIfInBounds_toArray, List.set_cons_zero, List.set_cons_succ, i64_w, i32_w]
                      rfl
                    refine pure_ (i := 40) (N := some 81) (v := ?_) (a' := ?_) #[true, true, true, true, true, true, true, true, true, true, true, true, true, true, true, true, true, true, true, true, true, true, true, true, true, true, true, true, true, true, true, true, true, true, true, true, false, true, true, true, true, false, false, false, false, false, false, false, false, false, false, false, false, false, false, false, false, false, false, false, false, false, false, false, false, false, false, false, false, false] rfl rfl (any_of HT_.out (by kernel_rfl)) (fun _ _ _ h => h) (Or.inl ⟨by rfl, ?_⟩) ?_ ?_
                    rotate_left
                    · intro w'
                      go_simp
                      with_reducible rfl
                    rotate_left
                    · simp only [Act.put, List.setIfInBounds_toArray, List.set_cons_zero, List.set_cons_succ, i64_w, i32_w]
                      rfl
                    refine pure_ (i := 43) (N := some 84) (v := ?_) (a' := ?_) #[true, true, true, true, true, true, true, true, true, true, true, true, true, true, true, true, true, true, true, true, true, true, true, true, true, true, true, true, true, true, true, true, true, true, true, true, false, true, true, true, true, false, false, true, false, false, false, false, false, false, false, false, false, false, false, false, false, false, false, false, false, false, false, false, false, false, false, false, false, false] rfl rfl (any_of HT_.out (by kernel_rfl)) (fun _ _ _ h => h) (Or.inl ⟨by rfl, ?_⟩) ?_ ?_
                    rotate_left
                    · intro w'
                      go_simp
                      with_reducible rfl
                    rotate_left
                    · simp only [Act.put, List.setIfInBounds_toArray, List.set_cons_zero, List.set_cons_succ, i64_w, i32_w]
                      rfl
                    refine pure_ (i := 44) (N := some 85) (v := ?_) (a' := ?_) #[true, true, true, true, true, true, true, true, true, true, true, true, true, true, true, true, true, true, true, true, true, true, true, true, true, true, true, true, true, true, true, true, true, true, true, true, false, true, true, true, true, false, false, true, true, false, false, false, false, false, false, false, false, false, false, false, false, false, false, false, false, false, false, false, false, false, false, false, false, false] rfl rfl (any_of HT_.out (by kernel_rfl)) (fun _ _ _ h => h) (Or.inl ⟨by rfl, ?_⟩) ?_ ?_
                    rotate_left
                    · intro w'
                      go_simp
                      with_reducible rfl
                    rotate_left
                    · simp only [Act.put, List.setIfInBounds_toArray, List.set_cons_zero, List.set_cons_succ, i64_w, i32_w]
                      rfl
                    refine pure_ (i := 45) (N := some 86) (v := ?_) (a' := ?_) #[true, true, true, true, true, true, true, true, true, true, true, true, true, true, true, true, true, true, true, true, true, true, true, true, true, true, true, true, true, true, true, true, true, true, true, true, false, true, true, true, true, false, false, true, true, true, false, false, false, false, false, false, false, false, false, false, false, false, false, false, false, false, false, false, false, false, false, false, false, false] rfl rfl (any_of HT_.out (by kernel_rfl)) (fun _ _ _ h => h) (Or.inl ⟨by rfl, ?_⟩) ?_ ?_
                    rotate_left
                    · intro w'
                      go_simp
                      with_reducible rfl
                    rotate_left
                    · simp only [Act.put, List.setIfInBounds_toArray, List.set_cons_zero, List.set_cons_succ, i64_w, i32_w]
                      rfl
                    refine pure_ (i := 46) (N := some 87) (v := ?_) (a' := ?_) #[true, true, true, true, true, true, true, true, true, true, true, true, true, true, true, true, true, true, true, true, true, true, true, true, true, true, true, true, true, true, true, true, true, true, true, true, false, true, true, true, true, false, false, true, true, true, true, false, false, false, false, false, false, false, false, false, false, false, false, false, false, false, false, false, false, false, false, false, false, false] rfl rfl (any_of HT_.out (by kernel_rfl)) (fun _ _ _ h => h) (Or.inl ⟨by rfl, ?_⟩) ?_ ?_
                    rotate_left
                    · intro w'
                      go_simp
                      with_reducible rfl
                    rotate_left
                    · simp only [Act.put, List.setIfInBounds_toArray, List.set_cons_zero, List.set_cons_succ, i64_w, i32_w]
                      rfl
                    refine take_ (i := 36) (N := some 77) (v := ?_) (a' := ?_) #[true, true, true, true, true, true, true, true, true, true, true, true, true, true, true, true, true, true, true, true, true, true, true, true, true, true, true, true, true, true, true, true, true, true, true, true, true, true, true, true, true, false, false, true, true, true, true, false, false, false, false, false, false, false, false, false, false, false, false, false, false, false, false, false, false, false, false, false, false, false] rfl rfl (take_ofW HT_.out HW_.out (by kernel_rfl)) (fun _ _ _ h => h) (Or.inl ⟨by rfl, ?_⟩) hHeld ?_ ?_
                    rotate_left
                    · rintro w' ⟨s0, s1, s2, s3⟩
                      go_simp
                      with_reducible rfl
                    rotate_left
                    · simp only [Act.put, List.setIfInBounds_toArray, List.set_cons_zero, List.set_cons_succ, i64_w, i32_w]
                      rfl
                    refine take_ (i := 42) (N := some 83) (v := ?_) (a' := ?_) #[true, true, true, true, true, true, true, true, true, true, true, true, true, true, true, true, true, true, true, true, true, true, true, true, true, true, true, true, true, true, true, true, true, true, true, true, true, true, true, true, true, false, true, true, true, true, true, false, false, false, false, false, false, false, false, false, false, false, false, false, false, false, false, false, false, false, false, false, false, false] rfl rfl (take_ofW HT_.out HW_.out (by kernel_rfl)) (fun _ _ _ h => h) (Or.inl ⟨by rfl, ?_⟩) hHeld ?_ ?_
                    rotate_left
                    · rintro w' ⟨s0, s1, s2, s3⟩
                      go_simp
                      with_reducible rfl
                    rotate_left
                    · simp only [Act.put, List.setIfInBounds_toArray, List.set_cons_zero, List.set_cons_succ, i64_w, i32_w]
                      rfl
                    refine one_ (i := 41) (N := some 82) #[true, true, true, true, true, true, true, true, true, true, true, true, true, true, true, true, true, true, true, true, true, true, true, true, true, true, true, true, true, true, true, true, true, true, true, true, true, true, true, true, true, true, true, true, true, true, true, false, false, false, false, false, false, false, false, false, false, false, false, false, false, false, false, false, false, false, false, false, false, false] rfl rfl (one_of HT_.out (by kernel_rfl)) (by decide) (fun K hK => ?_)
                    refine goes_ Try.func34 (by kernel_rfl) rfl #[.agg #[.slice Ao31 t339.length co31, .slice (some ad364) t342.length co33], .int .i64 t346, .int .i64 t347, .int .u8 a4, .int .i64 (wrap64 (1 + (wrap64 (Int.tmod a3 64))))] (by rfl) rfl rfl (by (try simp only [List.map_toArray, List.map_cons, List.map_nil]); first | done | rfl | (simp only [List.length_drop, List.length_take]; rfl)) ?_
                    with_reducible refine (span_Make.calls k _ _ t339 _ _ t342 t346 t347 a4 (wrap64 (1 + (wrap64 (Int.tmod a3 64)))) t356 t357 t358 t359 _ ?side1 ?side2 ?side3 ?side4 A22.out).mono ?_
                    (case side1 => repeat (first | exact (Kd.R_reads' HO341.out).2.2 | (with_reducible refine Kd.C_alloc ?_ _) | (with_reducible refine Kd.C_drewN ?_ _) | (with_reducible refine Kd.C_drew ?_)))
                    (case side2 => exact (Kd.R_reads' HO341.out).2.1)
                    (case side3 => repeat (first | exact (Kd.R_reads' HO344.out).2.2 | (with_reducible refine Kd.C_alloc ?_ _) | (with_reducible refine Kd.C_drewN ?_ _) | (with_reducible refine Kd.C_drew ?_)))
                    (case side4 => exact (Kd.R_reads' HO344.out).2.1)
                    rintro e w46 ⟨rfl, hb⟩
                    have HS2_ := (hb.cell (World.block_lt_of_cell? _ _ (hHeld.2.2.1))).trans (hHeld.2.2.1)
                    have HS3_ := (hb.cell (World.block_lt_of_cell? _ _ (hHeld.2.2.2))).trans (hHeld.2.2.2)
                    refine ⟨_, rfl, ?_⟩
                    have n0_ := Aside0.mk (Kd.R_below (by (with_reducible repeat (first | apply Kd.R_alloc | apply Kd.R_drewN | apply Kd.R_drew)); exact HO341.out) hb)
                    have n1_ := Aside0.mk (Kd.R_below (by (with_reducible repeat (first | apply Kd.R_alloc | apply Kd.R_drewN | apply Kd.R_drew)); exact HO344.out) hb)
                    have n2_ := Aside0.mk (blk_below (g := gb345) (o := .cells #[.slice Ao31 t339.length co31, .slice (some ad364) t342.length co33] 35 (0, 0)) (by (with_reducible repeat (first | refine blk_drewN ?_ _ | refine blk_drew ?_ | refine blk_alloc ?_ _)); exact BK345.out) hb)
                    have n3_ := Aside0.mk (below_step (by repeat (first | (with_reducible first | exact HB.out | apply below_alloc | apply pw_below_drewN | apply below_drew1 | refine below_set ?_ GE345.out) | exact HB.out)) hb)
                    clear HO341
                    clear HO344
                    clear BK345
                    clear HB
                    have HO341 := n0_
                    have HO344 := n1_
                    have BK345 := n2_
                    have HB := n3_
                    clear n0_ n1_ n2_ n3_
                    (try clear hb)
                    (try clear hb2)
                    (try clear hk)
                    (try clear hi)
                    refine hK.out _ _ ⟨(blk_cell BK345.out 0).trans rfl, (blk_cell BK345.out 1).trans rfl, HS2_, HS3_⟩ (fun hHeld => ?_)
                    clear hK K
                    refine norm_ (a' := ?_) ?_ ?_
                    rotate_left
                    · show Act.put _ (some 82) _ = _
                      simp only [Act.put, List.setIfInBounds_toArray, List.set_cons_zero, List.set_cons_succ, i64_w, i32_w]
                      rfl
                    refine one_ (i := 47) (N := some 88) #[true, true, true, true, true, true, true, true, true, true, true, true, true, true, true, true, true, true, true, true, true, true, true, true, true, true, true, true, true, true, true, true, true, true, true, true, true, true, true, true, true, true, true, true, true, true, true, true, false, false, false, false, false, false, false, false, false, false, false, false, false, false, false, false, false, false, false, false, false, false] rfl rfl (one_of HT_.out (by kernel_rfl)) (by decide) (fun K hK => ?_)
                    refine goes_ Try.func35 (by kernel_rfl) rfl #[.agg #[.slice Ao31 t339.length co31, .slice (some ad364) t342.length co33], .int .i64 t346, .int .i64 t347, .int .u8 a4, .int .i64 (wrap64 (1 + (wrap64 (Int.tmod a3 64))))] (by rfl) rfl rfl (by (try simp only [List.map_toArray, List.map_cons, List.map_nil]); first | done | rfl | (simp only [List.length_drop, List.length_take]; rfl)) ?_
                    with_reducible refine (stanzaref13_Line.calls k _ _ t339 _ _ t342 t346 t347 a4 (wrap64 (1 + (wrap64 (Int.tmod a3 64)))) t360 t361 t362 t363 _ ?side1 ?side2 ?side3 ?side4 A23.out).mono ?_
                    (case side1 => repeat (first | exact (Kd.R_reads' HO341.out).2.2 | (with_reducible refine Kd.C_alloc ?_ _) | (with_reducible refine Kd.C_drewN ?_ _) | (with_reducible refine Kd.C_drew ?_)))
                    (case side2 => exact (Kd.R_reads' HO341.out).2.1)
                    (case side3 => repeat (first | exact (Kd.R_reads' HO344.out).2.2 | (with_reducible refine Kd.C_alloc ?_ _) | (with_reducible refine Kd.C_drewN ?_ _) | (with_reducible refine Kd.C_drew ?_)))
                    (case side4 => exact (Kd.R_reads' HO344.out).2.1)
                    rintro e w47 ⟨rfl, hb⟩
                    have HS2_ := (hb.cell (World.block_lt_of_cell? _ _ (hHeld.2.2.1))).trans (hHeld.2.2.1)
                    have HS3_ := (hb.cell (World.block_lt_of_cell? _ _ (hHeld.2.2.2))).trans (hHeld.2.2.2)
                    refine ⟨_, rfl, ?_⟩
                    have n0_ := Aside0.mk (Kd.R_below (by (with_reducible repeat (first | apply Kd.R_alloc | apply Kd.R_drewN | apply Kd.R_drew)); exact HO341.out) hb)
                    have n1_ := Aside0.mk (Kd.R_below (by (with_reducible repeat (first | apply Kd.R_alloc | apply Kd.R_drewN | apply Kd.R_drew)); exact HO344.out) hb)
                    have n2_ := Aside0.mk (blk_below (g := gb345) (o := .cells #[.slice Ao31 t339.length co31, .slice (some ad364) t342.length co33] 35 (0, 0)) (by (with_reducible repeat (first | refine blk_drewN ?_ _ | refine blk_drew ?_ | refine blk_alloc ?_ _)); exact BK345.out) hb)
                    have n3_ := Aside0.mk (below_step (by repeat (first | (with_reducible first | exact HB.out | apply below_alloc | apply pw_below_drewN | apply below_drew1 | refine below_set ?_ GE345.out) | exact HB.out)) hb)
                    clear HO341
                    clear HO344
                    clear BK345
                    clear HB
                    have HO341 := n0_
                    have HO344 := n1_
                    have BK345 := n2_
                    have HB := n3_
                    clear n0_ n1_ n2_ n3_
                    (try clear hb)
                    (try clear hb2)
                    (try clear hk)
                    (try clear hi)
                    refine hK.out _ _ ⟨(blk_cell BK345.out 0).trans rfl, (blk_cell BK345.out 1).trans rfl, HS2_, HS3_⟩ (fun hHeld => ?_)
                    clear hK K
                    refine norm_ (a' := ?_) ?_ ?_
                    rotate_left
                    · show Act.put _ (some 88) _ = _
                      simp only [Act.put, List.setIfInBounds_toArray, List.set_cons_zero, List.set_cons_succ, i64_w, i32_w]
                      rfl
                    refine pure_ (i := 48) (N := some 89) (v := ?_) (a' := ?_) #[true, true, true, true, true, true, true, true, true, true, true, true, true, true, true, true, true, true, true, true, true, true, true, true, true, true, true, true, true, true, true, true, true, true, true, true, true, true, true, true, true, true, true, true, true, true, true, true, true, false, false, false, false, false, false, false, false, false, false, false, false, false, false, false, false, false, false, false, false, false] rfl rfl (any_of HT_.out (by kernel_rfl)) (fun _ _ _ h => h) (Or.inl ⟨by rfl, ?_⟩) ?_ ?_
                    rotate_left
                    · intro w'
                      go_simp
                      with_reducible rfl
                    rotate_left
                    · simp only [Act.put, List.setIfInBounds_toArray, List.set_cons_zero, List.set_cons_succ, i64_w, i32_w]
                      rfl
                    refine pure_ (i := 49) (N := some 90) (v := ?_) (a' := ?_) #[true, true, true, true, true, true, true, true, true, true, true, true, true, true, true, true, true, true, true, true, true, true, true, true, true, true, true, true, true, true, true, true, true, true, true, true, true, true, true, true, true, true, true, true, true, true, true, true, true, true, false, false, false, false, false, false, false, false, false, false, false, false, false, false, false, false, false, false, false, false] rfl rfl (any_of HT_.out (by kernel_rfl)) (fun _ _ _ h => h) (Or.inl ⟨by rfl, ?_⟩) ?_ ?_
                    rotate_left
                    · intro w'
                      go_simp
                      with_reducible rfl
                    rotate_left
                    · simp only [Act.put, List.setIfInBounds_toArray, List.set_cons_zero, List.set_cons_succ, i64_w, i32_w]
                      rfl
                    refine pure_ (i := 50) (N := some 91) (v := ?_) (a' := ?_) #[true, true, true, true, true, true, true, true, true, true, true, true, true, true, true, true, true, true, true, true, true, true, true, true, true, true, true, true, true, true, true, true, true, true, true, true, true, true, true, true, true, true, true, true, true, true, true, true, true, true, true, false, false, false, false, false, false, false, false, false, false, false, false, false, false, false, false, false, false, false] rfl rfl (any_of HT_.out (by kernel_rfl)) (fun _ _ _ h => h) (Or.inl ⟨by rfl, ?_⟩) ?_ ?_
                    rotate_left
                    · intro w'
                      go_simp
                      with_reducible rfl
                    rotate_left
                    · simp only [Act.put, List.setIfInBounds_toArray, List.set_cons_zero, List.set_cons_succ, i64_w, i32_w]
                      rfl
                    refine pure_ (i := 51) (N := some 92) (v := ?_) (a' := ?_) #[true, true, true, true, true, true, true, true, true, true, true, true, true, true, true, true, true, true, true, true, true, true, true, true, true, true, true, true, true, true, true, true, true, true, true, true, true, true, true, true, true, true, true, true, true, true, true, true, true, true, true, true, false, false, false, false, false, false, false, false, false, false, false, false, false, false, false, false, false, false] rfl rfl (any_of HT_.out (by kernel_rfl)) (fun _ _ _ h => h) (Or.inl ⟨by rfl, ?_⟩) ?_ ?_
                    rotate_left
                    · intro w'
                      go_simp
                      with_reducible rfl
                    rotate_left
                    · simp only [Act.put, List.setIfInBounds_toArray, List.set_cons_zero, List.set_cons_succ, i64_w, i32_w]
                      rfl
                    refine pure_ (i := 52) (N := some 93) (v := ?_) (a' := ?_) #[true, true, true, true, true, true, true, true, true, true, true, true, true, true, true, true, true, true, true, true, true, true, true, true, true, true, true, true, true, true, true, true, true, true, true, true, true, true, true, true, true, true, true, true, true, true, true, true, true, true, true, true, true, false, false, false, false, false, false, false, false, false, false, false, false, false, false, false, false, false] rfl rfl (any_of HT_.out (by kernel_rfl)) (fun _ _ _ h => h) (Or.inl ⟨by rfl, ?_⟩) ?_ ?_
                    rotate_left
                    · intro w'
                      go_simp
                      with_reducible rfl
                    rotate_left
                    · simp only [Act.put, List.setIfInBounds_toArray, List.set_cons_zero, List.set_cons_succ, i64_w, i32_w]
                      rfl
                    refine pure_ (i := 54) (N := some 95) (v := ?_) (a' := ?_) #[true, true, true, true, true, true, true, true, true, true, true, true, true, true, true, true, true, true, true, true, true, true, true, true, true, true, true, true, true, true, true, true, true, true, true, true, true, true, true, true, true, true, true, true, true, true, true, true, true, true, true, true, true, false, true, false, false, false, false, false, false, false, false, false, false, false, false, false, false, false] rfl rfl (any_of HT_.out (by kernel_rfl)) (fun _ _ _ h => h) (Or.inl ⟨by rfl, ?_⟩) ?_ ?_
                    rotate_left
                    · intro w'
                      go_simp
                      with_reducible rfl
                    rotate_left
                    · simp only [Act.put, List.setIfInBounds_toArray, List.set_cons_zero, List.set_cons_succ, i64_w, i32_w]
                      rfl
                    refine take_ (i := 53) (N := some 94) (v := ?_) (a' := ?_) #[true, true, true, true, true, true, true, true, true, true, true, true, true, true, true, true, true, true, true, true, true, true, true, true, true, true, true, true, true, true, true, true, true, true, true, true, true, true, true, true, true, true, true, true, true, true, true, true, true, true, true, true, true, true, true, false, false, false, false, false, false, false, false, false, false, false, false, false, false, false] rfl rfl (take_ofW HT_.out HW_.out (by kernel_rfl)) (fun _ _ _ h => h) (Or.inl ⟨by rfl, ?_⟩) hHeld ?_ ?_
                    rotate_left
                    · rintro w' ⟨s0, s1, s2, s3⟩
                      go_simp
                      with_reducible rfl
                    rotate_left
                    · simp only [Act.put, List.setIfInBounds_toArray, List.set_cons_zero, List.set_cons_succ, i64_w, i32_w]
                      rfl
                    refine pure_ (i := 55) (N := some 96) (v := ?_) (a' := ?_) #[true, true, true, true, true, true, true, true, true, true, true, true, true, true, true, true, true, true, true, true, true, true, true, true, true, true, true, true, true, true, true, true, true, true, true, true, true, true, true, true, true, true, true, true, true, true, true, true, true, true, true, true, true, true, true, true, false, false, false, false, false, false, false, false, false, false, false, false, false, false] rfl rfl (any_of HT_.out (by kernel_rfl)) (fun _ _ _ h => h) (Or.inl ⟨by rfl, ?_⟩) ?_ ?_
                    rotate_left
                    · intro w'
                      go_simp
                      with_reducible rfl
                    rotate_left
                    · simp only [Act.put, List.setIfInBounds_toArray, List.set_cons_zero, List.set_cons_succ, i64_w, i32_w]
                      rfl
                    refine take_ (i := 56) (N := some 97) (v := ?_) (a' := ?_) #[true, true, true, true, true, true, true, true, true, true, true, true, true, true, true, true, true, true, true, true, true, true, true, true, true, true, true, true, true, true, true, true, true, true, true, true, true, true, true, true, true, true, true, true, true, true, true, true, true, true, true, true, true, true, true, true, true, false, false, false, false, false, false, false, false, false, false, false, false, false] rfl rfl (take_ofW HT_.out HW_.out (by kernel_rfl)) (fun _ _ _ h => h) (Or.inl ⟨by rfl, ?_⟩) hHeld ?_ ?_
                    rotate_left
                    · rintro w' ⟨s0, s1, s2, s3⟩
                      go_simp
                      with_reducible rfl
                    rotate_left
                    · simp only [Act.put, List.setIfInBounds_toArray, List.set_cons_zero, List.set_cons_succ, i64_w, i32_w]
                      rfl
                    refine pure_ (i := 57) (N := some 98) (v := ?_) (a' := ?_) #[true, true, true, true, true, true, true, true, true, true, true, true, true, true, true, true, true, true, true, true, true, true, true, true, true, true, true, true, true, true, true, true, true, true, true, true, true, true, true, true, true, true, true, true, true, true, true, true, true, true, true, true, true, true, true, true, true, true, false, false, false, false, false, false, false, false, false, false, false, false] rfl rfl (any_of HT_.out (by kernel_rfl)) (fun _ _ _ h => h) (Or.inl ⟨by rfl, ?_⟩) ?_ ?_
                    rotate_left
                    · intro w'
                      go_simp
                      with_reducible rfl
                    rotate_left
                    · simp only [Act.put, List.setIfInBounds_toArray, List.set_cons_zero, List.set_cons_succ, i64_w, i32_w]
                      rfl
                    refine pure_ (i := 58) (N := some 99) (v := ?_) (a' := ?_) #[true, true, true, true, true, true, true, true, true, true, true, true, true, true, true, true, true, true, true, true, true, true, true, true, true, true, true, true, true, true, true, true, true, true, true, true, true, true, true, true, true, true, true, true, true, true, true, true, true, true, true, true, true, true, true, true, true, true, true, false, false, false, false, false, false, false, false, false, false, false] rfl rfl (any_of HT_.out (by kernel_rfl)) (fun _ _ _ h => h) (Or.inl ⟨by rfl, ?_⟩) ?_ ?_
                    rotate_left
                    · intro w'
                      go_simp
                      with_reducible rfl
                    rotate_left
                    · simp only [Act.put, List.setIfInBounds_toArray, List.set_cons_zero, List.set_cons_succ, i64_w, i32_w]
                      rfl
                    refine pure_ (i := 59) (N := some 100) (v := ?_) (a' := ?_) #[true, true, true, true, true, true, true, true, true, true, true, true, true, true, true, true, true, true, true, true, true, true, true, true, true, true, true, true, true, true, true, true, true, true, true, true, true, true, true, true, true, true, true, true, true, true, true, true, true, true, true, true, true, true, true, true, true, true, true, true, false, false, false, false, false, false, false, false, false, false] rfl rfl (any_of HT_.out (by kernel_rfl)) (fun _ _ _ h => h) (Or.inl ⟨by rfl, ?_⟩) ?_ ?_
                    rotate_left
                    · intro w'
                      go_simp
                      with_reducible rfl
                    rotate_left
                    · simp only [Act.put, List.setIfInBounds_toArray, List.set_cons_zero, List.set_cons_succ, i64_w, i32_w]
                      rfl
                    refine pure_ (i := 60) (N := some 101) (v := ?_) (a' := ?_) #[true, true, true, true, true, true, true, true, true, true, true, true, true, true, true, true, true, true, true, true, true, true, true, true, true, true, true, true, true, true, true, true, true, true, true, true, true, true, true, true, true, true, true, true, true, true, true, true, true, true, true, true, true, true, true, true, true, true, true, true, true, false, false, false, false, false, false, false, false, false] rfl rfl (any_of HT_.out (by kernel_rfl)) (fun _ _ _ h => h) (Or.inl ⟨by rfl, ?_⟩) ?_ ?_
                    rotate_left
                    · intro w'
                      go_simp
                      with_reducible rfl
                    rotate_left
                    · simp only [Act.put, List.setIfInBounds_toArray, List.set_cons_zero, List.set_cons_succ, i64_w, i32_w]
                      rfl
                    refine pure_ (i := 61) (N := some 102) (v := ?_) (a' := ?_) #[true, true, true, true, true, true, true, true, true, true, true, true, true, true, true, true, true, true, true, true, true, true, true, true, true, true, true, true, true, true, true, true, true, true, true, true, true, true, true, true, true, true, true, true, true, true, true, true, true, true, true, true, true, true, true, true, true, true, true, true, true, true, false, false, false, false, false, false, false, false] rfl rfl (any_of HT_.out (by kernel_rfl)) (fun _ _ _ h => h) (Or.inl ⟨by rfl, ?_⟩) ?_ ?_
                    rotate_left
                    · intro w'
                      go_simp
                      with_reducible rfl
                    rotate_left
                    · simp only [Act.put, List.setIfInBounds_toArray, List.set_cons_zero, List.set_cons_succ, i64_w, i32_w]
                      rfl
                    refine pure_ (i := 63) (N := some 104) (v := ?_) (a' := ?_) #[true, true, true, true, true, true, true, true, true, true, true, true, true, true, true, true, true, true, true, true, true, true, true, true, true, true, true, true, true, true, true, true, true, true, true, true, true, true, true, true, true, true, true, true, true, true, true, true, true, true, true, true, true, true, true, true, true, true, true, true, true, true, false, true, false, false, false, false, false, false] rfl rfl (any_of HT_.out (by kernel_rfl)) (fun _ _ _ h => h) (Or.inl ⟨by rfl, ?_⟩) ?_ ?_
                    rotate_left
                    · intro w'
                      go_simp
                      with_reducible rfl
                    rotate_left
                    · simp only [Act.put, List.setIfInBounds_toArray, List.set_cons_zero, List.set_cons_succ, i64_w, i32_w]
                      rfl
                    refine take_ (i := 62) (N := some 103) (v := ?_) (a' := ?_) #[true, true, true, true, true, true, true, true, true, true, true, true, true, true, true, true, true, true, true, true, true, true, true, true, true, true, true, true, true, true, true, true, true, true, true, true, true, true, true, true, true, true, true, true, true, true, true, true, true, true, true, true, true, true, true, true, true, true, true, true, true, true, true, true, false, false, false, false, false, false] rfl rfl (take_ofW HT_.out HW_.out (by kernel_rfl)) (fun _ _ _ h => h) (Or.inl ⟨by rfl, ?_⟩) hHeld ?_ ?_
                    rotate_left
                    · rintro w' ⟨s0, s1, s2, s3⟩
                      go_simp
                      with_reducible rfl
                    rotate_left
                    · simp only [Act.put, List.setIfInBounds_toArray, List.set_cons_zero, List.set_cons_succ, i64_w, i32_w]
                      rfl
                    refine pure_ (i := 64) (N := some 105) (v := ?_) (a' := ?_) #[true, true, true, true, true, true, true, true, true, true, true, true, true, true, true, true, true, true, true, true, true, true, true, true, true, true, true, true, true, true, true, true, true, true, true, true, true, true, true, true, true, true, true, true, true, true, true, true, true, true, true, true, true, true, true, true, true, true, true, true, true, true, true, true, true, false, false, false, false, false] rfl rfl (any_of HT_.out (by kernel_rfl)) (fun _ _ _ h => h) (Or.inl ⟨by rfl, ?_⟩) ?_ ?_
                    rotate_left
                    · intro w'
                      go_simp
                      with_reducible rfl
                    rotate_left
                    · simp only [Act.put, List.setIfInBounds_toArray, List.set_cons_zero, List.set_cons_succ, i64_w, i32_w]
                      rfl
                    refine take_ (i := 65) (N := some 106) (v := ?_) (a' := ?_) #[true, true, true, true, true, true, true, true, true, true, true, true, true, true, true, true, true, true, true, true, true, true, true, true, true, true, true, true, true, true, true, true, true, true, true, true, true, true, true, true, true, true, true, true, true, true, true, true, true, true, true, true, true, true, true, true, true, true, true, true, true, true, true, true, true, true, false, false, false, false] rfl rfl (take_ofW HT_.out HW_.out (by kernel_rfl)) (fun _ _ _ h => h) (Or.inl ⟨by rfl, ?_⟩) hHeld ?_ ?_
                    rotate_left
                    · rintro w' ⟨s0, s1, s2, s3⟩
                      go_simp
                      with_reducible rfl
                    rotate_left
                    · simp only [Act.put, List.setIfInBounds_toArray, List.set_cons_zero, List.set_cons_succ, i64_w, i32_w]
                      rfl
                    refine pure_ (i := 66) (N := some 107) (v := ?_) (a' := ?_) #[true, true, true, true, true, true, true, true, true, true, true, true, true, true, true, true, true, true, true, true, true, true, true, true, true, true, true, true, true, true, true, true, true, true, true, true, true, true, true, true, true, true, true, true, true, true, true, true, true, true, true, true, true, true, true, true, true, true, true, true, true, true, true, true, true, true, true, false, false, false] rfl rfl (any_of HT_.out (by kernel_rfl)) (fun _ _ _ h => h) (Or.inl ⟨by rfl, ?_⟩) ?_ ?_
                    rotate_left
                    · intro w'
                      go_simp
                      with_reducible rfl
                    rotate_left
                    · simp only [Act.put, List.setIfInBounds_toArray, List.set_cons_zero, List.set_cons_succ, i64_w, i32_w]
                      rfl
                    refine pure_ (i := 67) (N := some 108) (v := ?_) (a' := ?_) #[true, true, true, true, true, true, true, true, true, true, true, true, true, true, true, true, true, true, true, true, true, true, true, true, true, true, true, true, true, true, true, true, true, true, true, true, true, true, true, true, true, true, true, true, true, true, true, true, true, true, true, true, true, true, true, true, true, true, true, true, true, true, true, true, true, true, true, true, false, false] rfl rfl (any_of HT_.out (by kernel_rfl)) (fun _ _ _ h => h) (Or.inl ⟨by rfl, ?_⟩) ?_ ?_
                    rotate_left
                    · intro w'
                      go_simp
                      with_reducible rfl
                    rotate_left
                    · simp only [Act.put, List.setIfInBounds_toArray, List.set_cons_zero, List.set_cons_succ, i64_w, i32_w]
                      rfl
                    refine pure_ (i := 68) (N := some 109) (v := ?_) (a' := ?_) #[true, true, true, true, true, true, true, true, true, true, true, true, true, true, true, true, true, true, true, true, true, true, true, true, true, true, true, true, true, true, true, true, true, true, true, true, true, true, true, true, true, true, true, true, true, true, true, true, true, true, true, true, true, true, true, true, true, true, true, true, true, true, true, true, true, true, true, true, true, false] rfl rfl (any_of HT_.out (by kernel_rfl)) (fun _ _ _ h => h) (Or.inl ⟨by rfl, ?_⟩) ?_ ?_
                    rotate_left
                    · intro w'
                      go_simp
                      with_reducible rfl
                    rotate_left
                    · simp only [Act.put, List.setIfInBounds_toArray, List.set_cons_zero, List.set_cons_succ, i64_w, i32_w]
                      rfl
                    refine pure_ (i := 69) (N := some 10) (v := ?_) (a' := ?_) #[true, true, true, true, true, true, true, true, true, true, true, true, true, true, true, true, true, true, true, true, true, true, true, true, true, true, true, true, true, true, true, true, true, true, true, true, true, true, true, true, true, true, true, true, true, true, true, true, true, true, true, true, true, true, true, true, true, true, true, true, true, true, true, true, true, true, true, true, true, true] rfl rfl (any_of HT_.out (by kernel_rfl)) (fun _ _ _ h => h) (Or.inl ⟨by rfl, ?_⟩) ?_ ?_
                    rotate_left
                    · intro w'
                      go_simp
                      with_reducible rfl
                    rotate_left
                    · simp only [Act.put, List.setIfInBounds_toArray, List.set_cons_zero, List.set_cons_succ, i64_w, i32_w]
                      rfl
                    refine done_ (done_of HT_.out (by kernel_rfl)) ?_
                    try go_wp2
                    go_ret
                    exact ⟨by first | rfl | (simp [errW_none, errW_some] <;> rfl) | (simp [*, errW_none, errW_some] <;> rfl), by repeat (first | (with_reducible first | exact HB.out | apply below_alloc | apply pw_below_drewN | apply below_drew1 | refine below_set ?_ GE345.out) | exact HB.out)⟩
                  · rw [if_neg c27] at H
                    have c27b0 : (t348 == (rd t342 t347)) = false := beq_eq_false_iff_ne.mpr c27
                    have c27b1 : (t348 != (rd t342 t347)) = true := bne_iff_ne.mpr c27
                    exact absurd ((Option.some.inj H).trans hrt_.out) (by decide)
                · rw [if_neg c26] at H
                  exact absurd H (by simp)
              · rw [if_neg c25] at H
                exact absurd H (by simp)
            · rw [if_neg c24] at H
              have c24b0 : (t356 == t360 && (t357 == t361 && (t358 == t362 && (t359 == t363)))) = false := by simpa using c24
              (try (have c24b1 : decide (t356 = t360 && (t357 == t361 && (t358 == t362 && (t359 == t363)))) = false := by simpa using c24))
              (try (have c24b2 : (t356 == t360 && (t357 == t361 && (t358 == t362 && (t359 == t363)))) = false := by simpa using c24))
              (try (have c24b3 : ¬ (t356 = t360 && (t357 == t361 && (t358 == t362 && (t359 == t363)))) := by simpa using c24))
              clear c24
              exact absurd ((Option.some.inj H).trans hrt_.out) (by decide)
          · rw [if_neg c21] at H
            have c21b0 : (t354 == t355) = false := beq_eq_false_iff_ne.mpr c21
            have c21b1 : (t354 != t355) = true := bne_iff_ne.mpr c21
            exact absurd ((Option.some.inj H).trans hrt_.out) (by decide)
        · rw [if_neg c18] at H
          have c18b0 : (t352 == t353) = false := beq_eq_false_iff_ne.mpr c18
          have c18b1 : (t352 != t353) = true := bne_iff_ne.mpr c18
          exact absurd ((Option.some.inj H).trans hrt_.out) (by decide)
      · rw [if_neg c15] at H
        have c15b0 : (t350 == t351) = false := beq_eq_false_iff_ne.mpr c15
        have c15b1 : (t350 != t351) = true := bne_iff_ne.mpr c15
        exact absurd ((Option.some.inj H).trans hrt_.out) (by decide)
  · replace c7 := Bool.eq_false_iff.mpr c7
    subst c7
    have H1 : (some false) = some r := by rw [if_neg (show ¬ (false = true) by decide)] at H; exact H
    clear H
    have H := H1
    clear H1
    exact absurd ((Option.some.inj H).trans hrt_.out) (by decide)

/-- THE ONE PURE STATEMENT of stanzalaw13_SpanCells. -/
def stanzalaw13_SpanCells.Pure : Prop := ∀ (l0 : List (S50)) (a1 : Int) (a2 : Int) (a3 : Int) (a4 : Int), (l0.length * 4 ≤ 140737488351232 ∧ ∀ y0 ∈ l0, ((Lit.int .u8 y0.f0).wf = true ∧ ((Lit.int .u8 y0.f1).wf = true ∧ ((Lit.int .u8 y0.f2).wf = true ∧ (Lit.int .u8 y0.f3).wf = true)))) → (Lit.int .i64 a1).wf = true → (Lit.int .i64 a2).wf = true → (Lit.int .u8 a3).wf = true → (Lit.int .u8 a4).wf = true → ∃ k, stanzalaw13_SpanCells.f k l0 a1 a2 a3 a4 = some true

end Go.Proofs.Ytbnoeeflpegcoaa.F
