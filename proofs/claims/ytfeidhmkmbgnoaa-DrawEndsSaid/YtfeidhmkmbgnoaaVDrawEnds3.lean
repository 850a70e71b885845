/- Printed by a program: Lean functions that answer as the Go functions do, and the proofs of it. -/
import Derived.Test.YtfeidhmkmbgnoaaXDrawEnds0
import Derived.Test.YtfeidhmkmbgnoaaVDrawEnds0
import Derived.Test.YtfeidhmkmbgnoaaVDrawEnds1
import Derived.Test.YtfeidhmkmbgnoaaVDrawEnds2
section
namespace Go.Proofs.Ytfeidhmkmbgnoaa.F
open Go.RowKit Go.Proofs.YtfeidhmkmbgnoaaW.PrintWords Go.Proofs.YtfeidhmkmbgnoaaW.PrintLast Go.Proofs.YtfeidhmkmbgnoaaW.PrintMore
attribute [local go_sem] max2_int min2_int max_two min_two max_three min_three max_four min_four   -- for this text's walks alone
set_option linter.unusedVariables false
set_option linter.unusedSimpArgs false
mutual
def stanzalaw22_DrawEnds.j0 : Nat → List (S45) → List (List Int) → List (List Int) → Bool → Option (Bool)
 | 0, _, _, _, _ => none
 | k + 1, x6, x9, x10, x45 => if x45 = true then (some false) else (stanzalaw22_DrawEnds.l0 k x9 x10 x6 (x6.length : Int) 0)
def stanzalaw22_DrawEnds.l0 : Nat → List (List Int) → List (List Int) → List (S45) → Int → Int → Option (Bool)
 | 0, _, _, _, _, _ => none
 | k + 1, x9, x10, x46, x47, x48 => if x48 < x47 then (if 0 ≤ x48 then (if x48 < (x46.length : Int) then (if ((rd_T45 x46 x48).f3) = 2 then (if x48 < (x9.length : Int) then (if x48 < (x10.length : Int) then (if (strOfNums (rd_L5 x9 x48)).toList = (strOfNums (rd_L5 x10 x48)).toList then (if ((rd_L5 x10 x48).length : Int) < ((rd_L5 x9 x48).length : Int) then (some false) else (stanzalaw22_DrawEnds.l0 k x9 x10 x46 x47 (wrap64 (x48 + 1)))) else (some false)) else (none)) else (none)) else (if ((rd_T45 x46 x48).f3) = 4 then (if x48 < (x9.length : Int) then (if x48 < (x10.length : Int) then (if (strOfNums (rd_L5 x9 x48)).toList = (strOfNums (rd_L5 x10 x48)).toList then (if ((rd_L5 x10 x48).length : Int) < ((rd_L5 x9 x48).length : Int) then (some false) else (stanzalaw22_DrawEnds.l0 k x9 x10 x46 x47 (wrap64 (x48 + 1)))) else (some false)) else (none)) else (none)) else (if x48 < (x10.length : Int) then (if x48 < (x9.length : Int) then (if ((rd_L5 x10 x48).length : Int) < ((rd_L5 x9 x48).length : Int) then (some false) else (stanzalaw22_DrawEnds.l0 k x9 x10 x46 x47 (wrap64 (x48 + 1)))) else (none)) else (none)))) else (none)) else (none)) else (some true)
end
def stanzalaw22_DrawEnds.f (k : Nat) (l0 : List (S49)) (a1_0 : Int) (a1_1 : Int) (a1_2 : Int) (a1_3 : Int) (a1_4 : Int) (a1_5 : Nat) : Option (Bool) := (stanzalaw22_Awake.f k).bind fun t533 => (if t533 = true then ((stanzalaw22_lined.f k l0 a1_0 a1_1 a1_2 a1_3 a1_4 a1_5).bind fun bt534 => ((draw_All.f k bt534.2.2.2.2.2.2.2.2.2 bt534.1 bt534.2.1 bt534.2.2.1 bt534.2.2.2.1 bt534.2.2.2.2.1 bt534.2.2.2.2.2.1 bt534.2.2.2.2.2.2.1 bt534.2.2.2.2.2.2.2.1 bt534.2.2.2.2.2.2.2.2.1 false).bind fun t554 => ((draw_All.f k bt534.2.2.2.2.2.2.2.2.2 bt534.1 bt534.2.1 bt534.2.2.1 bt534.2.2.2.1 bt534.2.2.2.2.1 bt534.2.2.2.2.2.1 bt534.2.2.2.2.2.2.1 bt534.2.2.2.2.2.2.2.1 bt534.2.2.2.2.2.2.2.2.1 true).bind fun t557 => (if (t554.length : Int) = (bt534.2.2.1.length : Int) then (stanzalaw22_DrawEnds.j0 k bt534.2.2.1 t554 t557 ((t557.length : Int) != (bt534.2.2.1.length : Int))) else (stanzalaw22_DrawEnds.j0 k bt534.2.2.1 t554 t557 true))))) else (some false))
theorem stanzalaw22_DrawEnds.mono_l : ∀ k, (∀ y0 y1 y2 y3, LeO (stanzalaw22_DrawEnds.j0 k y0 y1 y2 y3) (stanzalaw22_DrawEnds.j0 (k + 1) y0 y1 y2 y3)) ∧ (∀ y0 y1 y2 y3 y4, LeO (stanzalaw22_DrawEnds.l0 k y0 y1 y2 y3 y4) (stanzalaw22_DrawEnds.l0 (k + 1) y0 y1 y2 y3 y4))
 | 0 => ⟨fun _ _ _ _ r h => by simp [stanzalaw22_DrawEnds.j0] at h, fun _ _ _ _ _ r h => by simp [stanzalaw22_DrawEnds.l0] at h⟩
 | k + 1 => by
  obtain ⟨ih0, ih1⟩ := stanzalaw22_DrawEnds.mono_l k; refine ⟨?_, ?_⟩
  ·intro y0 y1 y2 y3
   unfold stanzalaw22_DrawEnds.j0
   repeat' (with_reducible first | exact ih0 _ _ _ _ | exact ih1 _ _ _ _ _ | exact draw_All.mono _ _ _ _ _ _ _ _ _ _ _ _ | exact stanzalaw22_Awake.mono _ | exact stanzalaw22_lined.mono _ _ _ _ _ _ _ _ | exact LeO.refl _ | exact LeO.none _ | refine LeO.ite ?_ ?_ | refine LeO.bind ?_ (fun _ => ?_))
  ·intro y0 y1 y2 y3 y4
   unfold stanzalaw22_DrawEnds.l0
   repeat' (with_reducible first | exact ih0 _ _ _ _ | exact ih1 _ _ _ _ _ | exact draw_All.mono _ _ _ _ _ _ _ _ _ _ _ _ | exact stanzalaw22_Awake.mono _ | exact stanzalaw22_lined.mono _ _ _ _ _ _ _ _ | exact LeO.refl _ | exact LeO.none _ | refine LeO.ite ?_ ?_ | refine LeO.bind ?_ (fun _ => ?_))
theorem stanzalaw22_DrawEnds.mono : ∀ a0 a1 a2 a3 a4 a5 a6 k, LeO (stanzalaw22_DrawEnds.f k a0 a1 a2 a3 a4 a5 a6) (stanzalaw22_DrawEnds.f (k + 1) a0 a1 a2 a3 a4 a5 a6) := by
 intro a0 a1 a2 a3 a4 a5 a6 k
 obtain ⟨ih0, ih1⟩ := stanzalaw22_DrawEnds.mono_l k; unfold stanzalaw22_DrawEnds.f
 repeat' (with_reducible first | exact ih0 _ _ _ _ | exact ih1 _ _ _ _ _ | exact draw_All.mono _ _ _ _ _ _ _ _ _ _ _ _ | exact stanzalaw22_Awake.mono _ | exact stanzalaw22_lined.mono _ _ _ _ _ _ _ _ | exact LeO.refl _ | exact LeO.none _ | refine LeO.ite ?_ ?_ | refine LeO.bind ?_ (fun _ => ?_))
def stanzalaw22_DrawEnds.T4 : Bool × List (List Nat × List Nat) := (true, [([], []), ([], []), ([], []), ([], []), ([0, 1, 2, 3], [0, 1, 2, 3]), ([], []), ([], []), ([], []), ([], []), ([5, 6, 7, 8, 4], [5, 6, 7, 8]), ([4, 9, 0, 1, 2, 3, 4], [4]), ([9, 10, 0, 1, 2, 3, 4, 5, 6, 7, 8, 9, 10], [9])])
def stanzalaw22_DrawEnds.B4 : List Nat := [0, 0, 0, 0, 15, 0, 0, 0, 0, 511, 1023, 2047]
theorem stanzalaw22_DrawEnds.tab4 : rtab .any (opsOf Try.f11 4) = stanzalaw22_DrawEnds.T4 := by kernel_rfl
theorem stanzalaw22_DrawEnds.bits4 : waitsOk stanzalaw22_DrawEnds.T4.2 stanzalaw22_DrawEnds.B4 = true := by kernel_rfl
def stanzalaw22_DrawEnds.T11 : Bool × List (List Nat × List Nat) := (true, [([], []), ([0], [0]), ([1], [1]), ([1], [1]), ([2, 3, 1], [1, 2, 3]), ([4, 1], [1, 4]), ([5, 1], [1, 5]), ([1], [1]), ([1], [1]), ([7, 8, 1], [1, 7, 8]), ([9, 1], [1, 9]), ([10, 1], [1, 10]), ([6, 11, 1], [1, 6, 11]), ([1, 12], [1, 12]), ([13, 1], [13]), ([14], [14]), ([14], [14]), ([15, 16, 14], [14, 15, 16]), ([17, 14], [14, 17]), ([18, 14], [14, 18]), ([14], [14]), ([14], [14]), ([20, 21, 14], [14, 20, 21]), ([22, 14], [14, 22]), ([23, 14], [14, 23]), ([19, 24, 14], [14, 19, 24]), ([14, 25], [14, 25])])
def stanzalaw22_DrawEnds.B11 : List Nat := [0, 1, 3, 3, 15, 31, 63, 3, 3, 387, 899, 1923, 4095, 8191, 16383, 32767, 32767, 131071, 262143, 524287, 32767, 32767, 3178495, 7372799, 15761407, 33554431, 67108863]
theorem stanzalaw22_DrawEnds.tab11 : rtab .any (opsOf Try.f11 11) = stanzalaw22_DrawEnds.T11 := by kernel_rfl
theorem stanzalaw22_DrawEnds.bits11 : waitsOk stanzalaw22_DrawEnds.T11.2 stanzalaw22_DrawEnds.B11 = true := by kernel_rfl
set_option maxHeartbeats 8000000 in
set_option maxRecDepth 100000 in
theorem stanzalaw22_DrawEnds.calls (k : Nat) (A0 : Option Addr) (c0 : Nat) (l0 : List (S49)) (a1_0 : Int) (a1_1 : Int) (a1_2 : Int) (a1_3 : Int) (a1_4 : Int) (a1_5 : Nat) (r : Bool) (w : World) (hr0 : Kd.C k49 w A0 l0.length l0) (hc0 : l0.length ≤ c0) (h : stanzalaw22_DrawEnds.f k l0 a1_0 a1_1 a1_2 a1_3 a1_4 a1_5 = some r) (hrt_ : zA (r = true)) :
  Calls Try.prog 11 #[.slice A0 l0.length c0, .agg #[.int .u8 a1_0, .int .u8 a1_1, .int .u8 a1_2, .int .u16 a1_3, .int .u16 a1_4, .float .f64 a1_5]] w fun e w' => e = .returned (.bool r) ∧ Below w.heap.size w w' := by
 have hu26 := Try.underlying26; have hu31 := Try.underlying31; have hu35 := Try.underlying35; have hu45 := Try.underlying45; have HR0 := zA.mk hr0; have HC0 := zA.mk hc0; clear hr0 hc0; have HB := zA.mk (Below.refl w.heap.size w); have H : ((stanzalaw22_Awake.f k).bind fun t533 => (if t533 = true then ((stanzalaw22_lined.f k l0 a1_0 a1_1 a1_2 a1_3 a1_4 a1_5).bind fun bt534 => ((draw_All.f k bt534.2.2.2.2.2.2.2.2.2 bt534.1 bt534.2.1 bt534.2.2.1 bt534.2.2.2.1 bt534.2.2.2.2.1 bt534.2.2.2.2.2.1 bt534.2.2.2.2.2.2.1 bt534.2.2.2.2.2.2.2.1 bt534.2.2.2.2.2.2.2.2.1 false).bind fun t554 => ((draw_All.f k bt534.2.2.2.2.2.2.2.2.2 bt534.1 bt534.2.1 bt534.2.2.1 bt534.2.2.2.1 bt534.2.2.2.2.1 bt534.2.2.2.2.2.1 bt534.2.2.2.2.2.2.1 bt534.2.2.2.2.2.2.2.1 bt534.2.2.2.2.2.2.2.2.1 true).bind fun t557 => (if (t554.length : Int) = (bt534.2.2.1.length : Int) then (stanzalaw22_DrawEnds.j0 k bt534.2.2.1 t554 t557 ((t557.length : Int) != (bt534.2.2.1.length : Int))) else (stanzalaw22_DrawEnds.j0 k bt534.2.2.1 t554 t557 true))))) else (some false))) = some r := h
 clear h; replace H := Option.bind_eq_some_iff.mp H; obtain ⟨t533, A30, H⟩ := H; replace H : (if t533 = true then ((stanzalaw22_lined.f k l0 a1_0 a1_1 a1_2 a1_3 a1_4 a1_5).bind fun bt534 => ((draw_All.f k bt534.2.2.2.2.2.2.2.2.2 bt534.1 bt534.2.1 bt534.2.2.1 bt534.2.2.2.1 bt534.2.2.2.2.1 bt534.2.2.2.2.2.1 bt534.2.2.2.2.2.2.1 bt534.2.2.2.2.2.2.2.1 bt534.2.2.2.2.2.2.2.2.1 false).bind fun t554 => ((draw_All.f k bt534.2.2.2.2.2.2.2.2.2 bt534.1 bt534.2.1 bt534.2.2.1 bt534.2.2.2.1 bt534.2.2.2.2.1 bt534.2.2.2.2.2.1 bt534.2.2.2.2.2.2.1 bt534.2.2.2.2.2.2.2.1 bt534.2.2.2.2.2.2.2.2.1 true).bind fun t557 => (if (t554.length : Int) = (bt534.2.2.1.length : Int) then (stanzalaw22_DrawEnds.j0 k bt534.2.2.1 t554 t557 ((t557.length : Int) != (bt534.2.2.1.length : Int))) else (stanzalaw22_DrawEnds.j0 k bt534.2.2.1 t554 t557 true))))) else (some false)) = some r := H
 have A3 := zA.mk A30; clear A30; by_cases c4 : t533 = true
 rotate_left
 ·replace c4 := Bool.eq_false_iff.mpr c4
  subst c4; have H1 : (some false) = some r := by rw [if_neg (show ¬ (false = true) by decide)] at H; exact H
  clear H; have H := H1; clear H1; exact absurd ((Option.some.inj H).trans hrt_.out) (by decide)
 subst c4; have H1 : ((stanzalaw22_lined.f k l0 a1_0 a1_1 a1_2 a1_3 a1_4 a1_5).bind fun bt534 => ((draw_All.f k bt534.2.2.2.2.2.2.2.2.2 bt534.1 bt534.2.1 bt534.2.2.1 bt534.2.2.2.1 bt534.2.2.2.2.1 bt534.2.2.2.2.2.1 bt534.2.2.2.2.2.2.1 bt534.2.2.2.2.2.2.2.1 bt534.2.2.2.2.2.2.2.2.1 false).bind fun t554 => ((draw_All.f k bt534.2.2.2.2.2.2.2.2.2 bt534.1 bt534.2.1 bt534.2.2.1 bt534.2.2.2.1 bt534.2.2.2.2.1 bt534.2.2.2.2.2.1 bt534.2.2.2.2.2.2.1 bt534.2.2.2.2.2.2.2.1 bt534.2.2.2.2.2.2.2.2.1 true).bind fun t557 => (if (t554.length : Int) = (bt534.2.2.1.length : Int) then (stanzalaw22_DrawEnds.j0 k bt534.2.2.1 t554 t557 ((t557.length : Int) != (bt534.2.2.1.length : Int))) else (stanzalaw22_DrawEnds.j0 k bt534.2.2.1 t554 t557 true))))) = some r := by rw [if_pos rfl] at H; exact H
 clear H; have H := H1; clear H1; replace H := Option.bind_eq_some_iff.mp H; obtain ⟨⟨t534, t537, t540, t543, t544, t545, t546, t547, t548, t549⟩, A50, H⟩ := H; replace H : ((draw_All.f k t549 t534 t537 t540 t543 t544 t545 t546 t547 t548 false).bind fun t554 => ((draw_All.f k t549 t534 t537 t540 t543 t544 t545 t546 t547 t548 true).bind fun t557 => (if (t554.length : Int) = (t540.length : Int) then (stanzalaw22_DrawEnds.j0 k t540 t554 t557 ((t557.length : Int) != (t540.length : Int))) else (stanzalaw22_DrawEnds.j0 k t540 t554 t557 true)))) = some r := H
 have A5 := zA.mk A50; clear A50; replace H := Option.bind_eq_some_iff.mp H; obtain ⟨t554, A60, H⟩ := H; replace H : ((draw_All.f k t549 t534 t537 t540 t543 t544 t545 t546 t547 t548 true).bind fun t557 => (if (t554.length : Int) = (t540.length : Int) then (stanzalaw22_DrawEnds.j0 k t540 t554 t557 ((t557.length : Int) != (t540.length : Int))) else (stanzalaw22_DrawEnds.j0 k t540 t554 t557 true))) = some r := H
 have A6 := zA.mk A60; clear A60; replace H := Option.bind_eq_some_iff.mp H; obtain ⟨t557, A70, H⟩ := H; replace H : (if (t554.length : Int) = (t540.length : Int) then (stanzalaw22_DrawEnds.j0 k t540 t554 t557 ((t557.length : Int) != (t540.length : Int))) else (stanzalaw22_DrawEnds.j0 k t540 t554 t557 true)) = some r := H; have A7 := zA.mk A70; clear A70; have HC8 := zA.mk H; clear H; go_enter Try.func11, Try.ntmps11
 try go_wp2_with (first | ((with_reducible refine gate_dst (N := 3) rfl ?_); (try (refine gate_guard (by rfl) ?_; dsimp only)); refine box_event ?hg (N := 3) ?hd (cs := #[.int .u8 a1_0, .int .u8 a1_1, .int .u8 a1_2, .int .u16 a1_3, .int .u16 a1_4, .float .f64 a1_5]) (t := 26) ?hr ?_; (case hd => rfl); (case hg => rfl); (case hr => first | (go_simp; done) | (go_simp; rfl)); intro gb532 hg w9 hbox hb; have n0_ := zA.mk (zH (aL HB) hb); have n1_ := zA.mk (hbox); have n2_ := zA.mk ((by rw [hg]; exact (zG (aL HB)) : w.heap.size ≤ gb532)); have n3_ := zA.mk ((by rw [hg]; exact (zG (aL HB)) : w.heap.size ≤ gb532)); clear HB; have HB := n0_; have BK532 := n1_; have GW532 := n2_; have GE532 := n3_; clear n0_ n1_ n2_ n3_; clear hb hbox hg) | ((with_reducible refine gate_callee (f := 21) rfl ?_); refine goesL_ (some 14) rfl rfl Try.func21 (by kernel_rfl) rfl #[] rfl aT ?_; (with_reducible refine (stanzalaw22_Awake.calls k  true _ A3.out (by first | exact ⟨rfl⟩ | exact hrt_)).mono ?_); rintro e w10 ⟨rfl, hb⟩; refine ⟨_, rfl, ?_⟩; have n0_ := zA.mk (zB (g := gb532) (o := .cells #[.int .u8 a1_0, .int .u8 a1_1, .int .u8 a1_2, .int .u16 a1_3, .int .u16 a1_4, .float .f64 a1_5] 26 (0, 0)) (aB BK532) hb); have n1_ := zA.mk (zH (aL HB) hb); clear BK532; clear HB; have BK532 := n0_; have HB := n1_; clear n0_ n1_; (try clear hb); (try clear hb2); (try clear hk); (try clear hi); obtain ⟨hcz11_0, hcz11_1, hcz11_2, hcz11_3, hcz11_4, hcz11_5, hfz11_0, hfz11_1, hfz11_2, hfz11_3, hfz11_4, hfz11_5⟩ := aC6 BK532) | ((with_reducible refine gate_callee (f := 22) rfl ?_); refine goesL_ (some 19) rfl rfl Try.func22 (by kernel_rfl) rfl #[.slice A0 l0.length c0, .agg #[.int .u8 a1_0, .int .u8 a1_1, .int .u8 a1_2, .int .u16 a1_3, .int .u16 a1_4, .float .f64 a1_5]] rfl aT ?_; (with_reducible refine (stanzalaw22_lined.calls k _ _ l0 a1_0 a1_1 a1_2 a1_3 a1_4 a1_5 t534 t537 t540 t543 t544 t545 t546 t547 t548 t549 _ ?side1 ?side2 A5.out).mono ?_); (case side1 => exact aA HR0 HB); (case side2 => exact HC0.out); rintro e w12 ⟨v535, v538, v541, v550, rfl, ho0, ho1, ho2, ho3, hb⟩; refine ⟨_, rfl, ?_⟩; have n0_ := zA.mk (Kd.zT ho0 (zG (aL HB))); have n1_ := zA.mk (Kd.zT ho1 (zG (aL HB))); have n2_ := zA.mk (Kd.zT ho2 (zG (aL HB))); have n3_ := zA.mk (Kd.zT ho3 (zG (aL HB))); have n4_ := zA.mk (zB (g := gb532) (o := .cells #[.int .u8 a1_0, .int .u8 a1_1, .int .u8 a1_2, .int .u16 a1_3, .int .u16 a1_4, .float .f64 a1_5] 26 (0, 0)) (aB BK532) hb); have n5_ := zA.mk (zH (aL HB) hb); clear BK532; clear HB; have HO536 := n0_; have HO539 := n1_; have HO542 := n2_; have HO551 := n3_; have BK532 := n4_; have HB := n5_; clear n0_ n1_ n2_ n3_ n4_ n5_; (try clear hb); (try clear hb2); (try clear hk); (try clear hi); (try clear ho0); (try clear ho1); (try clear ho2); (try clear ho3)) | ((with_reducible refine gate_dst (N := 5) rfl ?_); (try (refine gate_guard (by rfl) ?_; dsimp only)); refine box_event ?hg (N := 5) ?hd (cs := #[.slice none 0 0, .slice none 0 0]) (t := 31) ?hr ?_; (case hd => rfl); (case hg => rfl); (case hr => first | (go_simp; done) | (go_simp; rfl)); intro gb552 hg w13 hbox hb; have n0_ := zA.mk (Kd.zQ (aR HO536) hb); have n1_ := zA.mk (Kd.zQ (aR HO539) hb); have n2_ := zA.mk (Kd.zQ (aR HO542) hb); have n3_ := zA.mk (Kd.zQ (aR HO551) hb); have n4_ := zA.mk (zB (g := gb532) (o := .cells #[.int .u8 a1_0, .int .u8 a1_1, .int .u8 a1_2, .int .u16 a1_3, .int .u16 a1_4, .float .f64 a1_5] 26 (0, 0)) (aB BK532) hb); have n5_ := zA.mk (zH (aL HB) hb); have n6_ := zA.mk (hbox); have n7_ := zA.mk ((by rw [hg]; exact (zG (aL HB)) : w.heap.size ≤ gb552)); have n8_ := zA.mk ((by rw [hg]; exact (zG (aL HB)) : w.heap.size ≤ gb552)); have n9_ := zA.mk ((by rw [hg]; exact Nat.ne_of_lt (blk_lt (g := gb532) (o := .cells #[.int .u8 a1_0, .int .u8 a1_1, .int .u8 a1_2, .int .u16 a1_3, .int .u16 a1_4, .float .f64 a1_5] 26 (0, 0)) (aB BK532)) : gb532 ≠ gb552)); have n10_ := zA.mk ((by rw [hg]; exact Nat.ne_of_gt (blk_lt (g := gb532) (o := .cells #[.int .u8 a1_0, .int .u8 a1_1, .int .u8 a1_2, .int .u16 a1_3, .int .u16 a1_4, .float .f64 a1_5] 26 (0, 0)) (aB BK532)) : gb552 ≠ gb532)); clear HO536; clear HO539; clear HO542; clear HO551; clear BK532; clear HB; have HO536 := n0_; have HO539 := n1_; have HO542 := n2_; have HO551 := n3_; have BK532 := n4_; have HB := n5_; have BK552 := n6_; have GW552 := n7_; have GE552 := n8_; have NB532_552 := n9_; have NB552_532 := n10_; clear n0_ n1_ n2_ n3_ n4_ n5_ n6_ n7_ n8_ n9_ n10_; clear hb hbox hg) | ((with_reducible refine gate_dst (N := 7) rfl ?_); (try (refine gate_guard (by rfl) ?_; dsimp only)); refine box_event ?hg (N := 7) ?hd (cs := #[.int .i64 0, .int .i64 0, .int .u8 0, .int .i64 0, .int .i64 0, .float .f64 0]) (t := 35) ?hr ?_; (case hd => rfl); (case hg => rfl); (case hr => first | (go_simp; done) | (go_simp; rfl)); intro gb553 hg w14 hbox hb; have n0_ := zA.mk (Kd.zQ (aR HO536) hb); have n1_ := zA.mk (Kd.zQ (aR HO539) hb); have n2_ := zA.mk (Kd.zQ (aR HO542) hb); have n3_ := zA.mk (Kd.zQ (aR HO551) hb); have n4_ := zA.mk (zB (g := gb532) (o := .cells #[.int .u8 a1_0, .int .u8 a1_1, .int .u8 a1_2, .int .u16 a1_3, .int .u16 a1_4, .float .f64 a1_5] 26 (0, 0)) (aB BK532) hb); have n5_ := zA.mk (zB (g := gb552) (o := .cells #[.slice none 0 0, .slice none 0 0] 31 (0, 0)) (aB BK552) hb); have n6_ := zA.mk (zH (aL HB) hb); have n7_ := zA.mk (hbox); have n8_ := zA.mk ((by rw [hg]; exact (zG (aL HB)) : w.heap.size ≤ gb553)); have n9_ := zA.mk ((by rw [hg]; exact (zG (aL HB)) : w.heap.size ≤ gb553)); have n10_ := zA.mk ((by rw [hg]; exact Nat.ne_of_lt (blk_lt (g := gb532) (o := .cells #[.int .u8 a1_0, .int .u8 a1_1, .int .u8 a1_2, .int .u16 a1_3, .int .u16 a1_4, .float .f64 a1_5] 26 (0, 0)) (aB BK532)) : gb532 ≠ gb553)); have n11_ := zA.mk ((by rw [hg]; exact Nat.ne_of_gt (blk_lt (g := gb532) (o := .cells #[.int .u8 a1_0, .int .u8 a1_1, .int .u8 a1_2, .int .u16 a1_3, .int .u16 a1_4, .float .f64 a1_5] 26 (0, 0)) (aB BK532)) : gb553 ≠ gb532)); have n12_ := zA.mk ((by rw [hg]; exact Nat.ne_of_lt (blk_lt (g := gb552) (o := .cells #[.slice none 0 0, .slice none 0 0] 31 (0, 0)) (aB BK552)) : gb552 ≠ gb553)); have n13_ := zA.mk ((by rw [hg]; exact Nat.ne_of_gt (blk_lt (g := gb552) (o := .cells #[.slice none 0 0, .slice none 0 0] 31 (0, 0)) (aB BK552)) : gb553 ≠ gb552)); clear HO536; clear HO539; clear HO542; clear HO551; clear BK532; clear BK552; clear HB; have HO536 := n0_; have HO539 := n1_; have HO542 := n2_; have HO551 := n3_; have BK532 := n4_; have BK552 := n5_; have HB := n6_; have BK553 := n7_; have GW553 := n8_; have GE553 := n9_; have NB532_553 := n10_; have NB553_532 := n11_; have NB552_553 := n12_; have NB553_552 := n13_; clear n0_ n1_ n2_ n3_ n4_ n5_ n6_ n7_ n8_ n9_ n10_ n11_ n12_ n13_; clear hb hbox hg; obtain ⟨Ao15, co15, eo15⟩ := Kd.zS HO536.out; subst eo15; have hnb16 := NB552_532.out; have hnc16 := NB532_552.out; have hnb17 := NB552_553.out; have hnc17 := NB553_552.out; obtain ⟨hcz18_0, hcz18_1, hfz18_0, hfz18_1⟩ := aC2 BK552; obtain ⟨Ao19, co19, eo19⟩ := Kd.zS HO539.out; subst eo19) | ((with_reducible refine gate_store (t := 31) (p := 5) rfl ?_); refine store_event (t := 31) (p := 5) (v := ?vo_w20) (w1 := ((w14.setCell ⟨gb552, 0, none⟩ (.slice Ao15 t534.length co15)).setCell ⟨gb552, 1, none⟩ (.slice Ao19 t537.length co19))) ?hg ?ho ?hn ?hr ?_; (case ho => rfl); (case hg => rfl); (case hn => rfl); (case hr => first | (go_simp; done) | (go_simp; rfl)); intro w20 hw; have n0_ : zA (Kd.R k61 61 w20 w.heap.size (fun _ => True) (.slice Ao15 t534.length co15) t534) := ⟨(by rw [hw]; exact (by (with_reducible repeat (first | apply Kd.zI | apply Kd.zJ | apply Kd.zK)); exact Kd.zU (Kd.zR (p := ⟨gb552, 1, none⟩) (Kd.zR (p := ⟨gb552, 0, none⟩) (Kd.zV HO536.out BK552.out (by decide)) (fun _ hk => hk.2) (.slice Ao15 t534.length co15)) (fun _ hk => hk.2) (.slice Ao19 t537.length co19)) (fun _ hk => trivial)))⟩; have n1_ : zA (Kd.R (Kd.int .u8) 43 w20 w.heap.size (fun _ => True) (.slice Ao19 t537.length co19) t537) := ⟨(by rw [hw]; exact (by (with_reducible repeat (first | apply Kd.zI | apply Kd.zJ | apply Kd.zK)); exact Kd.zU (Kd.zR (p := ⟨gb552, 1, none⟩) (Kd.zR (p := ⟨gb552, 0, none⟩) (Kd.zV HO539.out BK552.out (by decide)) (fun _ hk => hk.2) (.slice Ao15 t534.length co15)) (fun _ hk => hk.2) (.slice Ao19 t537.length co19)) (fun _ hk => trivial)))⟩; have n2_ : zA (Kd.R k45 45 w20 w.heap.size (fun _ => True) v541 t540) := ⟨(by rw [hw]; exact (by (with_reducible repeat (first | apply Kd.zI | apply Kd.zJ | apply Kd.zK)); exact Kd.zU (Kd.zR (p := ⟨gb552, 1, none⟩) (Kd.zR (p := ⟨gb552, 0, none⟩) (Kd.zV HO542.out BK552.out (by decide)) (fun _ hk => hk.2) (.slice Ao15 t534.length co15)) (fun _ hk => hk.2) (.slice Ao19 t537.length co19)) (fun _ hk => trivial)))⟩; have n3_ : zA (Kd.R (Kd.int .u8) 5 w20 w.heap.size (fun _ => True) v550 t549) := ⟨(by rw [hw]; exact (by (with_reducible repeat (first | apply Kd.zI | apply Kd.zJ | apply Kd.zK)); exact Kd.zU (Kd.zR (p := ⟨gb552, 1, none⟩) (Kd.zR (p := ⟨gb552, 0, none⟩) (Kd.zV HO551.out BK552.out (by decide)) (fun _ hk => hk.2) (.slice Ao15 t534.length co15)) (fun _ hk => hk.2) (.slice Ao19 t537.length co19)) (fun _ hk => trivial)))⟩; have n4_ : zA (w20.heap[gb532]? = some (.cells #[.int .u8 a1_0, .int .u8 a1_1, .int .u8 a1_2, .int .u16 a1_3, .int .u16 a1_4, .float .f64 a1_5] 26 (0, 0))) := ⟨(by rw [hw]; exact (aB BK532))⟩; have n5_ : zA (w20.heap[gb552]? = some (.cells #[.slice Ao15 t534.length co15, .slice Ao19 t537.length co19] 31 (0, 0))) := ⟨(by rw [hw]; exact (by (with_reducible repeat (first | refine zF ?_ _ | refine zD ?_ | refine zE ?_ _)); refine blk_put (cs := #[.slice Ao15 t534.length co15, .slice none 0 0]) ?_ 1 _ rfl; (with_reducible repeat (first | refine zF ?_ _ | refine zD ?_ | refine zE ?_ _)); refine blk_put (cs := #[.slice none 0 0, .slice none 0 0]) ?_ 0 _ rfl; (with_reducible repeat (first | refine zF ?_ _ | refine zD ?_ | refine zE ?_ _)); exact BK552.out))⟩; have n6_ : zA (w20.heap[gb553]? = some (.cells #[.int .i64 0, .int .i64 0, .int .u8 0, .int .i64 0, .int .i64 0, .float .f64 0] 35 (0, 0))) := ⟨(by rw [hw]; exact (aB BK553))⟩; have n7_ : zA (Below w.heap.size w w20) := ⟨(by rw [hw]; exact (aL HB))⟩; clear hw; clear HO536; clear HO539; clear HO542; clear HO551; clear BK532; clear BK552; clear BK553; clear HB; have HO536 := n0_; have HO539 := n1_; have HO542 := n2_; have HO551 := n3_; have BK532 := n4_; have BK552 := n5_; have BK553 := n6_; have HB := n7_; clear n0_ n1_ n2_ n3_ n4_ n5_ n6_ n7_; have hnb21 := NB553_532.out; have hnc21 := NB532_553.out; obtain ⟨hcz22_0, hcz22_1, hcz22_2, hcz22_3, hcz22_4, hcz22_5, hfz22_0, hfz22_1, hfz22_2, hfz22_3, hfz22_4, hfz22_5⟩ := aC6 BK553) | ((with_reducible refine gate_store (t := 35) (p := 7) rfl ?_); refine store_event (t := 35) (p := 7) (v := ?vo_w23) (w1 := ((((((w20.setCell ⟨gb553, 0, none⟩ (.int .i64 t543)).setCell ⟨gb553, 1, none⟩ (.int .i64 t544)).setCell ⟨gb553, 2, none⟩ (.int .u8 t545)).setCell ⟨gb553, 3, none⟩ (.int .i64 t546)).setCell ⟨gb553, 4, none⟩ (.int .i64 t547)).setCell ⟨gb553, 5, none⟩ (.float .f64 t548))) ?hg ?ho ?hn ?hr ?_; (case ho => rfl); (case hg => rfl); (case hn => rfl); (case hr => first | (go_simp; done) | (go_simp; rfl)); intro w23 hw; have n0_ : zA (Kd.R k61 61 w23 w.heap.size (fun _ => True) (.slice Ao15 t534.length co15) t534) := ⟨(by rw [hw]; exact (by (with_reducible repeat (first | apply Kd.zI | apply Kd.zJ | apply Kd.zK)); exact Kd.zU (Kd.zR (p := ⟨gb553, 5, none⟩) (Kd.zR (p := ⟨gb553, 4, none⟩) (Kd.zR (p := ⟨gb553, 3, none⟩) (Kd.zR (p := ⟨gb553, 2, none⟩) (Kd.zR (p := ⟨gb553, 1, none⟩) (Kd.zR (p := ⟨gb553, 0, none⟩) (Kd.zV HO536.out BK553.out (by decide)) (fun _ hk => hk.2) (.int .i64 t543)) (fun _ hk => hk.2) (.int .i64 t544)) (fun _ hk => hk.2) (.int .u8 t545)) (fun _ hk => hk.2) (.int .i64 t546)) (fun _ hk => hk.2) (.int .i64 t547)) (fun _ hk => hk.2) (.float .f64 t548)) (fun _ hk => trivial)))⟩; have n1_ : zA (Kd.R (Kd.int .u8) 43 w23 w.heap.size (fun _ => True) (.slice Ao19 t537.length co19) t537) := ⟨(by rw [hw]; exact (by (with_reducible repeat (first | apply Kd.zI | apply Kd.zJ | apply Kd.zK)); exact Kd.zU (Kd.zR (p := ⟨gb553, 5, none⟩) (Kd.zR (p := ⟨gb553, 4, none⟩) (Kd.zR (p := ⟨gb553, 3, none⟩) (Kd.zR (p := ⟨gb553, 2, none⟩) (Kd.zR (p := ⟨gb553, 1, none⟩) (Kd.zR (p := ⟨gb553, 0, none⟩) (Kd.zV HO539.out BK553.out (by decide)) (fun _ hk => hk.2) (.int .i64 t543)) (fun _ hk => hk.2) (.int .i64 t544)) (fun _ hk => hk.2) (.int .u8 t545)) (fun _ hk => hk.2) (.int .i64 t546)) (fun _ hk => hk.2) (.int .i64 t547)) (fun _ hk => hk.2) (.float .f64 t548)) (fun _ hk => trivial)))⟩; have n2_ : zA (Kd.R k45 45 w23 w.heap.size (fun _ => True) v541 t540) := ⟨(by rw [hw]; exact (by (with_reducible repeat (first | apply Kd.zI | apply Kd.zJ | apply Kd.zK)); exact Kd.zU (Kd.zR (p := ⟨gb553, 5, none⟩) (Kd.zR (p := ⟨gb553, 4, none⟩) (Kd.zR (p := ⟨gb553, 3, none⟩) (Kd.zR (p := ⟨gb553, 2, none⟩) (Kd.zR (p := ⟨gb553, 1, none⟩) (Kd.zR (p := ⟨gb553, 0, none⟩) (Kd.zV HO542.out BK553.out (by decide)) (fun _ hk => hk.2) (.int .i64 t543)) (fun _ hk => hk.2) (.int .i64 t544)) (fun _ hk => hk.2) (.int .u8 t545)) (fun _ hk => hk.2) (.int .i64 t546)) (fun _ hk => hk.2) (.int .i64 t547)) (fun _ hk => hk.2) (.float .f64 t548)) (fun _ hk => trivial)))⟩; have n3_ : zA (Kd.R (Kd.int .u8) 5 w23 w.heap.size (fun _ => True) v550 t549) := ⟨(by rw [hw]; exact (by (with_reducible repeat (first | apply Kd.zI | apply Kd.zJ | apply Kd.zK)); exact Kd.zU (Kd.zR (p := ⟨gb553, 5, none⟩) (Kd.zR (p := ⟨gb553, 4, none⟩) (Kd.zR (p := ⟨gb553, 3, none⟩) (Kd.zR (p := ⟨gb553, 2, none⟩) (Kd.zR (p := ⟨gb553, 1, none⟩) (Kd.zR (p := ⟨gb553, 0, none⟩) (Kd.zV HO551.out BK553.out (by decide)) (fun _ hk => hk.2) (.int .i64 t543)) (fun _ hk => hk.2) (.int .i64 t544)) (fun _ hk => hk.2) (.int .u8 t545)) (fun _ hk => hk.2) (.int .i64 t546)) (fun _ hk => hk.2) (.int .i64 t547)) (fun _ hk => hk.2) (.float .f64 t548)) (fun _ hk => trivial)))⟩; have n4_ : zA (w23.heap[gb532]? = some (.cells #[.int .u8 a1_0, .int .u8 a1_1, .int .u8 a1_2, .int .u16 a1_3, .int .u16 a1_4, .float .f64 a1_5] 26 (0, 0))) := ⟨(by rw [hw]; exact (aB BK532))⟩; have n5_ : zA (w23.heap[gb552]? = some (.cells #[.slice Ao15 t534.length co15, .slice Ao19 t537.length co19] 31 (0, 0))) := ⟨(by rw [hw]; exact (aB BK552))⟩; have n6_ : zA (w23.heap[gb553]? = some (.cells #[.int .i64 t543, .int .i64 t544, .int .u8 t545, .int .i64 t546, .int .i64 t547, .float .f64 t548] 35 (0, 0))) := ⟨(by rw [hw]; exact (by (with_reducible repeat (first | refine zF ?_ _ | refine zD ?_ | refine zE ?_ _)); refine blk_put (cs := #[.int .i64 t543, .int .i64 t544, .int .u8 t545, .int .i64 t546, .int .i64 t547, .float .f64 0]) ?_ 5 _ rfl; (with_reducible repeat (first | refine zF ?_ _ | refine zD ?_ | refine zE ?_ _)); refine blk_put (cs := #[.int .i64 t543, .int .i64 t544, .int .u8 t545, .int .i64 t546, .int .i64 0, .float .f64 0]) ?_ 4 _ rfl; (with_reducible repeat (first | refine zF ?_ _ | refine zD ?_ | refine zE ?_ _)); refine blk_put (cs := #[.int .i64 t543, .int .i64 t544, .int .u8 t545, .int .i64 0, .int .i64 0, .float .f64 0]) ?_ 3 _ rfl; (with_reducible repeat (first | refine zF ?_ _ | refine zD ?_ | refine zE ?_ _)); refine blk_put (cs := #[.int .i64 t543, .int .i64 t544, .int .u8 0, .int .i64 0, .int .i64 0, .float .f64 0]) ?_ 2 _ rfl; (with_reducible repeat (first | refine zF ?_ _ | refine zD ?_ | refine zE ?_ _)); refine blk_put (cs := #[.int .i64 t543, .int .i64 0, .int .u8 0, .int .i64 0, .int .i64 0, .float .f64 0]) ?_ 1 _ rfl; (with_reducible repeat (first | refine zF ?_ _ | refine zD ?_ | refine zE ?_ _)); refine blk_put (cs := #[.int .i64 0, .int .i64 0, .int .u8 0, .int .i64 0, .int .i64 0, .float .f64 0]) ?_ 0 _ rfl; (with_reducible repeat (first | refine zF ?_ _ | refine zD ?_ | refine zE ?_ _)); exact BK553.out))⟩; have n7_ : zA (Below w.heap.size w w23) := ⟨(by rw [hw]; exact (aL HB))⟩; clear hw; clear HO536; clear HO539; clear HO542; clear HO551; clear BK532; clear BK552; clear BK553; clear HB; have HO536 := n0_; have HO539 := n1_; have HO542 := n2_; have HO551 := n3_; have BK532 := n4_; have BK552 := n5_; have BK553 := n6_; have HB := n7_; clear n0_ n1_ n2_ n3_ n4_ n5_ n6_ n7_))
 have n0_ := zA.mk (Kd.zK HO536.out); have n1_ := zA.mk (Kd.zK HO539.out); have n2_ := zA.mk (Kd.zK HO542.out); have n3_ := zA.mk (Kd.zK HO551.out); have n4_ := zA.mk (zD BK532.out); have n5_ := zA.mk (zD BK552.out); have n6_ := zA.mk (zD BK553.out); have n7_ := zA.mk (below_drew1 HB.out); clear HO536; clear HO539; clear HO542; clear HO551; clear BK532; clear BK552; clear BK553; clear HB; have HO536 := n0_; have HO539 := n1_; have HO542 := n2_; have HO551 := n3_; have BK532 := n4_; have BK552 := n5_; have BK553 := n6_; have HB := n7_; clear n0_ n1_ n2_ n3_ n4_ n5_ n6_ n7_; obtain ⟨Ao25, co25, eo25⟩ := Kd.zS HO551.out; (first | subst eo25 | (injection eo25 with f1_ f2_ f3_; have f4_ := f1_.symm; have f5_ := f3_.symm; clear f1_ f2_ f3_; subst f4_; subst f5_))
 obtain ⟨Ao26, co26, eo26⟩ := Kd.zS HO542.out; (first | subst eo26 | (injection eo26 with f1_ f2_ f3_; have f4_ := f1_.symm; have f5_ := f3_.symm; clear f1_ f2_ f3_; subst f4_; subst f5_))
 refine start_ (n := 12) (S := fun w' => w'.cell? ⟨gb552, 0, none⟩ = some (.slice Ao15 t534.length co15) ∧ w'.cell? ⟨gb552, 1, none⟩ = some (.slice Ao19 t537.length co19) ∧ w'.cell? ⟨gb553, 0, none⟩ = some (.int .i64 t543) ∧ w'.cell? ⟨gb553, 1, none⟩ = some (.int .i64 t544) ∧ w'.cell? ⟨gb553, 2, none⟩ = some (.int .u8 t545) ∧ w'.cell? ⟨gb553, 3, none⟩ = some (.int .i64 t546) ∧ w'.cell? ⟨gb553, 4, none⟩ = some (.int .i64 t547) ∧ w'.cell? ⟨gb553, 5, none⟩ = some (.float .f64 t548)) (ds := []) #[false, false, false, false, false, false, false, false, false, false, false, false] (by kernel_rfl) rfl rfl ⟨(zC BK552.out 0).trans rfl, (zC BK552.out 1).trans rfl, (zC BK553.out 0).trans rfl, (zC BK553.out 1).trans rfl, (zC BK553.out 2).trans rfl, (zC BK553.out 3).trans rfl, (zC BK553.out 4).trans rfl, (zC BK553.out 5).trans rfl⟩ (fun hHeld => ?_); refine with_tabW stanzalaw22_DrawEnds.tab4 stanzalaw22_DrawEnds.bits4 (fun HT_ HW_ => ?_)
 generalize w23.drew = w24 at HO536 HO539 HO542 HO551 BK532 BK552 BK553 HB hHeld ⊢
 refine aP 0 (some 24) (tf_ 1 12) HT_ ?_
 refine aP 2 (some 26) #[true, false, true, false, false, false, false, false, false, false, false, false] HT_ ?_
 refine aP 5 (some 29) #[true, false, true, false, false, true, false, false, false, false, false, false] HT_ ?_
 refine aP 7 (some 31) #[true, false, true, false, false, true, false, true, false, false, false, false] HT_ ?_
 refine take_ (i := 1) (N := some 25) (v := ?_) (a' := ?_) #[true, true, true, false, false, true, false, true, false, false, false, false] rfl rfl (take_ofW HT_.out HW_.out (by kernel_rfl)) (fun _ _ _ h => h) (Or.inl ⟨by rfl, ?_⟩) hHeld ?_ ?_
 rotate_left
 ·rintro w' ⟨s0, s1, s2, s3, s4, s5, s6, s7⟩
  go_simp
  with_reducible rfl
 rotate_left
 ·simp only [Act.put, sA_, sB_, sC_, i64_w, i32_w]
  rfl
 refine take_ (i := 3) (N := some 27) (v := ?_) (a' := ?_) #[true, true, true, true, false, true, false, true, false, false, false, false] rfl rfl (take_ofW HT_.out HW_.out (by kernel_rfl)) (fun _ _ _ h => h) (Or.inl ⟨by rfl, ?_⟩) hHeld ?_ ?_
 rotate_left
 ·rintro w' ⟨s0, s1, s2, s3, s4, s5, s6, s7⟩
  go_simp
  with_reducible rfl
 rotate_left
 ·simp only [Act.put, sA_, sB_, sC_, i64_w, i32_w]
  rfl
 refine take_ (i := 6) (N := some 30) (v := ?_) (a' := ?_) #[true, true, true, true, false, true, true, true, false, false, false, false] rfl rfl (take_ofW HT_.out HW_.out (by kernel_rfl)) (fun _ _ _ h => h) (Or.inl ⟨by rfl, ?_⟩) hHeld ?_ ?_
 rotate_left
 ·rintro w' ⟨s0, s1, s2, s3, s4, s5, s6, s7⟩
  go_simp
  with_reducible rfl
 rotate_left
 ·simp only [Act.put, sA_, sB_, sC_, i64_w, i32_w]
  rfl
 refine take_ (i := 8) (N := some 32) (v := ?_) (a' := ?_) #[true, true, true, true, false, true, true, true, true, false, false, false] rfl rfl (take_ofW HT_.out HW_.out (by kernel_rfl)) (fun _ _ _ h => h) (Or.inl ⟨by rfl, ?_⟩) hHeld ?_ ?_
 rotate_left
 ·rintro w' ⟨s0, s1, s2, s3, s4, s5, s6, s7⟩
  go_simp
  with_reducible rfl
 rotate_left
 ·simp only [Act.put, sA_, sB_, sC_, i64_w, i32_w]
  rfl
 refine one_ (i := 4) (N := some 28) #[true, true, true, true, true, true, true, true, true, false, false, false] rfl rfl (one_of HT_.out (by kernel_rfl)) (by decide) (fun K hK => ?_)
 refine goes_ Try.func23 (by kernel_rfl) rfl #[.slice Ao25 t549.length co25, .agg #[.slice Ao15 t534.length co15, .slice Ao19 t537.length co19], .slice Ao26 t540.length co26, .agg #[.int .i64 t543, .int .i64 t544, .int .u8 t545, .int .i64 t546, .int .i64 t547, .float .f64 t548], .bool false] (by rfl) rfl rfl aT ?_
 with_reducible refine (draw_All.calls k _ _ t549 _ _ t534 _ _ t537 _ _ t540 t543 t544 t545 t546 t547 t548 false t554 _ ?side1 ?side2 ?side3 ?side4 ?side5 ?side6 ?side7 ?side8 A6.out).mono ?_
 (case side1 => exact aF HO551)
 (case side2 => exact (Kd.zP HO551.out).2.1)
 (case side3 => exact aF HO536)
 (case side4 => exact (Kd.zP HO536.out).2.1)
 (case side5 => exact aF HO539)
 (case side6 => exact (Kd.zP HO539.out).2.1)
 (case side7 => exact aF HO542)
 (case side8 => exact (Kd.zP HO542.out).2.1)
 rintro e w27 ⟨v555, rfl, ho0, hb⟩
 refine ⟨_, rfl, ?_⟩
 have n0_ := zA.mk (Kd.zQ (aR HO536) hb); have n1_ := zA.mk (Kd.zQ (aR HO539) hb); have n2_ := zA.mk (Kd.zQ (aR HO542) hb); have n3_ := zA.mk (Kd.zQ (aR HO551) hb); have n4_ := zA.mk (Kd.S_lower (Kd.S_new' ho0 (Kd.R_lt (aR HO551))) (zG (aL HB))); have n5_ := zA.mk (zB (g := gb532) (o := .cells #[.int .u8 a1_0, .int .u8 a1_1, .int .u8 a1_2, .int .u16 a1_3, .int .u16 a1_4, .float .f64 a1_5] 26 (0, 0)) (aB BK532) hb); have n6_ := zA.mk (zB (g := gb552) (o := .cells #[.slice Ao15 t534.length co15, .slice Ao19 t537.length co19] 31 (0, 0)) (aB BK552) hb); have n7_ := zA.mk (zB (g := gb553) (o := .cells #[.int .i64 t543, .int .i64 t544, .int .u8 t545, .int .i64 t546, .int .i64 t547, .float .f64 t548] 35 (0, 0)) (aB BK553) hb); have n8_ := zA.mk (zH (aL HB) hb); clear HO536; clear HO539; clear HO542; clear HO551; clear BK532; clear BK552; clear BK553; clear HB; have HO536 := n0_; have HO539 := n1_; have HO542 := n2_; have HO551 := n3_; have HO556 := n4_; have BK532 := n5_; have BK552 := n6_; have BK553 := n7_; have HB := n8_; clear n0_ n1_ n2_ n3_ n4_ n5_ n6_ n7_ n8_; (try clear hb)
 (try clear hb2)
 (try clear hk)
 (try clear hi)
 (try clear ho0)
 refine hK.out _ _ ⟨(zC BK552.out 0).trans rfl, (zC BK552.out 1).trans rfl, (zC BK553.out 0).trans rfl, (zC BK553.out 1).trans rfl, (zC BK553.out 2).trans rfl, (zC BK553.out 3).trans rfl, (zC BK553.out 4).trans rfl, (zC BK553.out 5).trans rfl⟩ (fun hHeld => ?_)
 clear hK K; refine norm_ (a' := ?_) ?_ ?_
 rotate_left
 ·show Act.put _ (some 28) _ = _
  simp only [Act.put, sA_, sB_, sC_, i64_w, i32_w]; rfl
 refine one_ (i := 9) (N := some 33) #[true, true, true, true, true, true, true, true, true, true, false, false] rfl rfl (one_of HT_.out (by kernel_rfl)) (by decide) (fun K hK => ?_)
 refine goes_ Try.func23 (by kernel_rfl) rfl #[.slice Ao25 t549.length co25, .agg #[.slice Ao15 t534.length co15, .slice Ao19 t537.length co19], .slice Ao26 t540.length co26, .agg #[.int .i64 t543, .int .i64 t544, .int .u8 t545, .int .i64 t546, .int .i64 t547, .float .f64 t548], .bool true] (by rfl) rfl rfl aT ?_
 with_reducible refine (draw_All.calls k _ _ t549 _ _ t534 _ _ t537 _ _ t540 t543 t544 t545 t546 t547 t548 true t557 _ ?side1 ?side2 ?side3 ?side4 ?side5 ?side6 ?side7 ?side8 A7.out).mono ?_
 (case side1 => exact aF HO551)
 (case side2 => exact (Kd.zP HO551.out).2.1)
 (case side3 => exact aF HO536)
 (case side4 => exact (Kd.zP HO536.out).2.1)
 (case side5 => exact aF HO539)
 (case side6 => exact (Kd.zP HO539.out).2.1)
 (case side7 => exact aF HO542)
 (case side8 => exact (Kd.zP HO542.out).2.1)
 rintro e w28 ⟨v558, rfl, ho0, hb⟩
 refine ⟨_, rfl, ?_⟩
 have n0_ := zA.mk (Kd.zQ (aR HO536) hb); have n1_ := zA.mk (Kd.zQ (aR HO539) hb); have n2_ := zA.mk (Kd.zQ (aR HO542) hb); have n3_ := zA.mk (Kd.zQ (aR HO551) hb); have n4_ := zA.mk (Kd.S_elder' (aS HO556) (Kd.S_base ho0) hb); have n5_ := zA.mk (Kd.S_lower (Kd.S_new' (Kd.S_new' ho0 (Kd.R_lt (aR HO551))) (Kd.S_lt (aS HO556))) (zG (aL HB))); have n6_ := zA.mk (zB (g := gb532) (o := .cells #[.int .u8 a1_0, .int .u8 a1_1, .int .u8 a1_2, .int .u16 a1_3, .int .u16 a1_4, .float .f64 a1_5] 26 (0, 0)) (aB BK532) hb); have n7_ := zA.mk (zB (g := gb552) (o := .cells #[.slice Ao15 t534.length co15, .slice Ao19 t537.length co19] 31 (0, 0)) (aB BK552) hb); have n8_ := zA.mk (zB (g := gb553) (o := .cells #[.int .i64 t543, .int .i64 t544, .int .u8 t545, .int .i64 t546, .int .i64 t547, .float .f64 t548] 35 (0, 0)) (aB BK553) hb); have n9_ := zA.mk (zH (aL HB) hb); clear HO536; clear HO539; clear HO542; clear HO551; clear HO556; clear BK532; clear BK552; clear BK553; clear HB; have HO536 := n0_; have HO539 := n1_; have HO542 := n2_; have HO551 := n3_; have HO556 := n4_; have HO559 := n5_; have BK532 := n6_; have BK552 := n7_; have BK553 := n8_; have HB := n9_; clear n0_ n1_ n2_ n3_ n4_ n5_ n6_ n7_ n8_ n9_; (try clear hb)
 (try clear hb2)
 (try clear hk)
 (try clear hi)
 (try clear ho0)
 refine hK.out _ _ ⟨(zC BK552.out 0).trans rfl, (zC BK552.out 1).trans rfl, (zC BK553.out 0).trans rfl, (zC BK553.out 1).trans rfl, (zC BK553.out 2).trans rfl, (zC BK553.out 3).trans rfl, (zC BK553.out 4).trans rfl, (zC BK553.out 5).trans rfl⟩ (fun hHeld => ?_)
 clear hK K; refine norm_ (a' := ?_) ?_ ?_
 rotate_left
 ·show Act.put _ (some 33) _ = _
  simp only [Act.put, sA_, sB_, sC_, i64_w, i32_w]; rfl
 refine aP 10 (some 9) (tf_ 11 12) HT_ ?_
 refine aP 11 (some 10) #[true, true, true, true, true, true, true, true, true, true, true, true] HT_ ?_
 refine done_ (done_of HT_.out (by kernel_rfl)) ?_
 go_upto_region 5 with (fail)
 go_cut [45] (fun v45 wc => ∃ (kq : Nat) (x45_7 : Bool), v45 = .bool x45_7 ∧ zA (stanzalaw22_DrawEnds.j0 kq t540 t554 t557 x45_7 = some r) ∧ zA (kq ≤ k) ∧ zA (Kd.R k45 45 wc w.heap.size (fun _ => True) (.slice Ao26 t540.length co26) t540) ∧ zA (Kd.S (Kd.slice 5 (Kd.int .u8)) 51 wc w.heap.size (fun k_ => some k_ ≠ (v558 : Value).ownBlock) v555 t554) ∧ zA (Kd.S (Kd.slice 5 (Kd.int .u8)) 51 wc w.heap.size (fun k_ => some k_ ≠ (v555 : Value).ownBlock) v558 t557) ∧ zA (Kd.R k61 61 wc w.heap.size (fun _ => True) (.slice Ao15 t534.length co15) t534) ∧ zA (Kd.R (Kd.int .u8) 43 wc w.heap.size (fun _ => True) (.slice Ao19 t537.length co19) t537) ∧ zA (wc.heap[gb532]? = some (.cells #[.int .u8 a1_0, .int .u8 a1_1, .int .u8 a1_2, .int .u16 a1_3, .int .u16 a1_4, .float .f64 a1_5] 26 (0, 0))) ∧ zA (wc.heap[gb552]? = some (.cells #[(.slice Ao15 t534.length co15), (.slice Ao19 t537.length co19)] 31 (0, 0))) ∧ zA (wc.heap[gb553]? = some (.cells #[.int .i64 t543, .int .i64 t544, .int .u8 t545, .int .i64 t546, .int .i64 t547, .float .f64 t548] 35 (0, 0))) ∧ zA (Below w.heap.size w wc))
 case first =>
  have H := HC8.out; clear HC8; by_cases c29 : (t554.length : Int) = (t540.length : Int)
  rotate_left
  ·rw [if_neg c29] at H
   have c29b0 : ((t554.length : Int) == (t540.length : Int)) = false := beq_eq_false_iff_ne.mpr c29
   have c29b1 : ((t554.length : Int) != (t540.length : Int)) = true := bne_iff_ne.mpr c29
   have c29b2 : (t554.length == t540.length) = false := by first | simpa using c29 | (simp at c29 ⊢; omega)
   (first | rw [c29b0] | (simp only [i64_w, i32_w]; rw [c29b0]) | skip)
   have H' := zA.mk H
   clear H; obtain ⟨Ao32, co32, eo32⟩ := Kd.S_slice HO556.out; subst eo32; go_wp2
   go_meet
   case rel => exact ⟨_, (true), aZ, H', ⟨by first | omega | exact Nat.le_refl _⟩, ⟨aR HO542⟩, ⟨by (with_reducible repeat (first | apply Kd.S_alloc | apply Kd.S_drewN | apply Kd.S_drew)); exact Kd.S_mono HO556.out (fun _ hk => hk.2)⟩, ⟨by (with_reducible repeat (first | apply Kd.S_alloc | apply Kd.S_drewN | apply Kd.S_drew)); exact Kd.S_mono HO559.out (fun _ hk => hk.2)⟩, ⟨aR HO536⟩, ⟨aR HO539⟩, ⟨aB BK532⟩, ⟨aB BK552⟩, ⟨aB BK553⟩, ⟨aL HB⟩⟩
  rw [if_pos c29] at H; have c29b0 : ((t554.length : Int) == (t540.length : Int)) = true := beq_iff_eq.mpr c29
  have c29b1 : ((t554.length : Int) != (t540.length : Int)) = false := bne_eq_false_iff_eq.mpr c29
  have c29b2 : (t554.length == t540.length) = true := by first | simpa using c29 | (simp at c29 ⊢; omega)
  clear c29; (first | rw [c29b0] | (simp only [i64_w, i32_w]; rw [c29b0]) | skip)
  have H' := zA.mk H
  clear H; obtain ⟨Ao30, co30, eo30⟩ := Kd.S_slice HO556.out; subst eo30; obtain ⟨Ao31, co31, eo31⟩ := Kd.S_slice HO559.out; subst eo31; go_wp2
  go_meet
  case rel => exact ⟨_, (((t557.length : Int) != (t540.length : Int))), aZ, H', ⟨by first | omega | exact Nat.le_refl _⟩, ⟨aR HO542⟩, ⟨by (with_reducible repeat (first | apply Kd.S_alloc | apply Kd.S_drewN | apply Kd.S_drew)); exact Kd.S_mono HO556.out (fun _ hk => hk.2)⟩, ⟨by (with_reducible repeat (first | apply Kd.S_alloc | apply Kd.S_drewN | apply Kd.S_drew)); exact Kd.S_mono HO559.out (fun _ hk => hk.2)⟩, ⟨aR HO536⟩, ⟨aR HO539⟩, ⟨aB BK532⟩, ⟨aB BK552⟩, ⟨aB BK553⟩, ⟨aL HB⟩⟩
 clear HC8; try clear c1
 try clear c2
 try clear p2
 try clear c4
 try clear c11
 try clear c16
 try clear c17
 try clear c21
 try clear c22
 try clear c23
 try clear c29
 try clear c29b0
 try clear c29b1
 try clear c29b2
 try clear hcz11_0
 try clear hcz11_1
 try clear hcz11_2
 try clear hcz11_3
 try clear hcz11_4
 try clear hcz11_5
 try clear hcz18_0
 try clear hcz18_1
 try clear hcz22_0
 try clear hcz22_1
 try clear hcz22_2
 try clear hcz22_3
 try clear hcz22_4
 try clear hcz22_5
 try clear hfz11_0
 try clear hfz11_1
 try clear hfz11_2
 try clear hfz11_3
 try clear hfz11_4
 try clear hfz11_5
 try clear hfz18_0
 try clear hfz18_1
 try clear hfz22_0
 try clear hfz22_1
 try clear hfz22_2
 try clear hfz22_3
 try clear hfz22_4
 try clear hfz22_5
 obtain ⟨kq, x45_7, rfl, HA, HJ7, HO_6, HO_9, HO_10, HO_553000, HO_553001, BK532, BK552, BK553, HB⟩ := hcut; cases kq with
 | zero => exact absurd HA.out (by simp [stanzalaw22_DrawEnds.j0])
 | succ kj7 =>
  have H := HA.out; clear HA; simp only [stanzalaw22_DrawEnds.j0] at H; by_cases c33 : x45_7 = true
  ·subst c33
   have H1 : (some false) = some r := by rw [if_pos rfl] at H; exact H
   clear H; have H := H1; clear H1; exact absurd ((Option.some.inj H).trans hrt_.out) (by decide)
  replace c33 := Bool.eq_false_iff.mpr c33; subst c33; have H1 : (stanzalaw22_DrawEnds.l0 kj7 t554 t557 t540 (t540.length : Int) 0) = some r := by rw [if_neg (show ¬ (false = true) by decide)] at H; exact H
  clear H; have H := H1; clear H1; have H' := zA.mk H
  clear H; go_wp2
  go_loopg [48] kj7 (fun kq v48 w' => ∃ (x48_2 : Int), v48 = .int .i64 x48_2 ∧ zA (stanzalaw22_DrawEnds.l0 kq t554 t557 t540 (t540.length : Int) x48_2 = some r) ∧ zA (kq ≤ kj7) ∧ zA (Kd.S (Kd.slice 5 (Kd.int .u8)) 51 w' w.heap.size (fun k_ => some k_ ≠ (v558 : Value).ownBlock) v555 t554) ∧ zA (Kd.S (Kd.slice 5 (Kd.int .u8)) 51 w' w.heap.size (fun k_ => some k_ ≠ (v555 : Value).ownBlock) v558 t557) ∧ zA (Kd.R k45 45 w' w.heap.size (fun _ => True) (.slice Ao26 t540.length co26) t540) ∧ zA (Kd.R k61 61 w' w.heap.size (fun _ => True) (.slice Ao15 t534.length co15) t534) ∧ zA (Kd.R (Kd.int .u8) 43 w' w.heap.size (fun _ => True) (.slice Ao19 t537.length co19) t537) ∧ zA (w'.heap[gb532]? = some (.cells #[.int .u8 a1_0, .int .u8 a1_1, .int .u8 a1_2, .int .u16 a1_3, .int .u16 a1_4, .float .f64 a1_5] 26 (0, 0))) ∧ zA (w'.heap[gb552]? = some (.cells #[(.slice Ao15 t534.length co15), (.slice Ao19 t537.length co19)] 31 (0, 0))) ∧ zA (w'.heap[gb553]? = some (.cells #[.int .i64 t543, .int .i64 t544, .int .u8 t545, .int .i64 t546, .int .i64 t547, .float .f64 t548] 35 (0, 0))) ∧ zA (Below w.heap.size w w'))
  case atStart => exact ⟨(0), aZ, H', ⟨Nat.le_refl _⟩, ⟨aS HO_9⟩, ⟨aS HO_10⟩, ⟨aR HO_6⟩, ⟨aR HO_553000⟩, ⟨aR HO_553001⟩, ⟨aB BK532⟩, ⟨aB BK552⟩, ⟨aB BK553⟩, ⟨aL HB⟩⟩
  clear H'; try clear c1
  try clear c2
  try clear p2
  try clear c3
  try clear c4
  try clear c11
  try clear c16
  try clear c17
  try clear c21
  try clear c22
  try clear c23
  try clear c29
  try clear c29b0
  try clear c29b1
  try clear c29b2
  try clear c33
  try clear hcz11_0
  try clear hcz11_1
  try clear hcz11_2
  try clear hcz11_3
  try clear hcz11_4
  try clear hcz11_5
  try clear hcz18_0
  try clear hcz18_1
  try clear hcz22_0
  try clear hcz22_1
  try clear hcz22_2
  try clear hcz22_3
  try clear hcz22_4
  try clear hcz22_5
  try clear hfz11_0
  try clear hfz11_1
  try clear hfz11_2
  try clear hfz11_3
  try clear hfz11_4
  try clear hfz11_5
  try clear hfz18_0
  try clear hfz18_1
  try clear hfz22_0
  try clear hfz22_1
  try clear hfz22_2
  try clear hfz22_3
  try clear hfz22_4
  try clear hfz22_5
  try clear p2
  obtain ⟨x48_2, rfl, HA, HK2, HO_9, HO_10, HO_46, HO_553000, HO_553001, BK532, BK552, BK553, HB⟩ := hrel; cases gk with
  | zero => exact absurd HA.out (by simp [stanzalaw22_DrawEnds.l0])
  | succ k2 =>
   have H := HA.out; clear HA; simp only [stanzalaw22_DrawEnds.l0] at H; by_cases c34 : x48_2 < (t540.length : Int)
   rotate_left
   ·rw [if_neg c34] at H
    have c34b0 : decide (x48_2 < (t540.length : Int)) = false := decide_eq_false c34
    clear c34; obtain rfl := Option.some.inj H
    go_wp2
    go_ret
    exact ⟨aX, aL HB⟩
   rw [if_pos c34] at H; have c34b0 : decide (x48_2 < (t540.length : Int)) = true := decide_eq_true c34
   clear c34; by_cases c35 : 0 ≤ x48_2
   rotate_left
   ·rw [if_neg c35] at H
    exact absurd H (by simp)
   rw [if_pos c35] at H; have c35b0 : decide (0 ≤ x48_2) = true := decide_eq_true c35
   clear c35; by_cases c36 : x48_2 < (t540.length : Int)
   rotate_left
   ·rw [if_neg c36] at H
    exact absurd H (by simp)
   rw [if_pos c36] at H; have c36b0 : decide (x48_2 < (t540.length : Int)) = true := decide_eq_true c36
   clear c36; by_cases c37 : ((rd_T45 t540 x48_2).f3) = 2
   ·rw [if_pos c37] at H
    have c37b0 : (((rd_T45 t540 x48_2).f3) == 2) = true := beq_iff_eq.mpr c37
    have c37b1 : (((rd_T45 t540 x48_2).f3) != 2) = false := bne_eq_false_iff_eq.mpr c37
    clear c37; by_cases c38 : x48_2 < (t554.length : Int)
    rotate_left
    ·rw [if_neg c38] at H
     exact absurd H (by simp)
    rw [if_pos c38] at H; have c38b0 : decide (x48_2 < (t554.length : Int)) = true := decide_eq_true c38
    clear c38; by_cases c39 : x48_2 < (t557.length : Int)
    rotate_left
    ·rw [if_neg c39] at H
     exact absurd H (by simp)
    rw [if_pos c39] at H; have c39b0 : decide (x48_2 < (t557.length : Int)) = true := decide_eq_true c39
    clear c39; by_cases c40 : (strOfNums (rd_L5 t554 x48_2)).toList = (strOfNums (rd_L5 t557 x48_2)).toList
    rotate_left
    ·rw [if_neg c40] at H
     have c40b0 : ((strOfNums (rd_L5 t554 x48_2)).toList == (strOfNums (rd_L5 t557 x48_2)).toList) = false := beq_eq_false_iff_ne.mpr c40
     have c40b1 : ((strOfNums (rd_L5 t554 x48_2)).toList != (strOfNums (rd_L5 t557 x48_2)).toList) = true := bne_iff_ne.mpr c40
     exact absurd ((Option.some.inj H).trans hrt_.out) (by decide)
    rw [if_pos c40] at H; have c40b0 : ((strOfNums (rd_L5 t554 x48_2)).toList == (strOfNums (rd_L5 t557 x48_2)).toList) = true := beq_iff_eq.mpr c40
    have c40b1 : ((strOfNums (rd_L5 t554 x48_2)).toList != (strOfNums (rd_L5 t557 x48_2)).toList) = false := bne_eq_false_iff_eq.mpr c40
    clear c40; by_cases c41 : ((rd_L5 t557 x48_2).length : Int) < ((rd_L5 t554 x48_2).length : Int)
    ·rw [if_pos c41] at H
     have c41b0 : decide (((rd_L5 t557 x48_2).length : Int) < ((rd_L5 t554 x48_2).length : Int)) = true := decide_eq_true c41
     have c41b1 : decide ((rd_L5 t557 x48_2).length < (rd_L5 t554 x48_2).length) = true := decide_eq_true (Int.ofNat_lt.mp c41)
     clear c41; exact absurd ((Option.some.inj H).trans hrt_.out) (by decide)
    rw [if_neg c41] at H; have c41b0 : decide (((rd_L5 t557 x48_2).length : Int) < ((rd_L5 t554 x48_2).length : Int)) = false := decide_eq_false c41
    have c41b1 : decide ((rd_L5 t557 x48_2).length < (rd_L5 t554 x48_2).length) = false := decide_eq_false (fun h => c41 (Int.ofNat_lt.mpr h))
    clear c41; have H' := zA.mk H
    clear H; have p560 : 0 ≤ (x48_2 : Int) := aD
    have q560 : x48_2 < (t540.length : Int) := aD
    obtain ⟨ad560, e560, hx560_0, hx560_1, hx560_2, hx560_3⟩ := at_T45 (Kd.zP HO_46.out).2.2 x48_2 p560 q560; cases e560
    replace p560 := eq_true p560; replace q560 := eq_true q560; try go_wp2_with (first | ((with_reducible refine gate_dst (N := 12) rfl ?_); (try (refine gate_guard (by rfl) ?_; dsimp only)); refine box_event ?hg (N := 12) ?hd (cs := #[.int .i64 0, .int .i64 0, .int .i64 0, .int .u8 0]) (t := 45) ?hr ?_; (case hd => rfl); (case hg => rfl); (case hr => first | (go_simp; done) | (go_simp; rfl)); intro gb561 hg w42 hbox hb; have n0_ := zA.mk (Kd.S_below (aS HO_9) hb); have n1_ := zA.mk (Kd.S_below (aS HO_10) hb); have n2_ := zA.mk (Kd.zQ (Kd.R_elderB (aR HO_46) gb561 (Nat.le_of_eq hg.symm)) hb); have n3_ := zA.mk (Kd.zQ (aR HO_553000) hb); have n4_ := zA.mk (Kd.zQ (aR HO_553001) hb); have n5_ := zA.mk (zB (g := gb532) (o := .cells #[.int .u8 a1_0, .int .u8 a1_1, .int .u8 a1_2, .int .u16 a1_3, .int .u16 a1_4, .float .f64 a1_5] 26 (0, 0)) (aB BK532) hb); have n6_ := zA.mk (zB (g := gb552) (o := .cells #[.slice Ao15 t534.length co15, .slice Ao19 t537.length co19] 31 (0, 0)) (aB BK552) hb); have n7_ := zA.mk (zB (g := gb553) (o := .cells #[.int .i64 t543, .int .i64 t544, .int .u8 t545, .int .i64 t546, .int .i64 t547, .float .f64 t548] 35 (0, 0)) (aB BK553) hb); have n8_ := zA.mk (zH (aL HB) hb); have n9_ := zA.mk (hbox); have n10_ := zA.mk ((by rw [hg]; exact (zG (aL HB)) : w.heap.size ≤ gb561)); have n11_ := zA.mk ((by rw [hg]; exact (zG (aL HB)) : w.heap.size ≤ gb561)); have n12_ := zA.mk ((by rw [hg]; exact Nat.ne_of_lt (blk_lt (g := gb532) (o := .cells #[.int .u8 a1_0, .int .u8 a1_1, .int .u8 a1_2, .int .u16 a1_3, .int .u16 a1_4, .float .f64 a1_5] 26 (0, 0)) (aB BK532)) : gb532 ≠ gb561)); have n13_ := zA.mk ((by rw [hg]; exact Nat.ne_of_gt (blk_lt (g := gb532) (o := .cells #[.int .u8 a1_0, .int .u8 a1_1, .int .u8 a1_2, .int .u16 a1_3, .int .u16 a1_4, .float .f64 a1_5] 26 (0, 0)) (aB BK532)) : gb561 ≠ gb532)); have n14_ := zA.mk ((by rw [hg]; exact Nat.ne_of_lt (blk_lt (g := gb552) (o := .cells #[.slice Ao15 t534.length co15, .slice Ao19 t537.length co19] 31 (0, 0)) (aB BK552)) : gb552 ≠ gb561)); have n15_ := zA.mk ((by rw [hg]; exact Nat.ne_of_gt (blk_lt (g := gb552) (o := .cells #[.slice Ao15 t534.length co15, .slice Ao19 t537.length co19] 31 (0, 0)) (aB BK552)) : gb561 ≠ gb552)); have n16_ := zA.mk ((by rw [hg]; exact Nat.ne_of_lt (blk_lt (g := gb553) (o := .cells #[.int .i64 t543, .int .i64 t544, .int .u8 t545, .int .i64 t546, .int .i64 t547, .float .f64 t548] 35 (0, 0)) (aB BK553)) : gb553 ≠ gb561)); have n17_ := zA.mk ((by rw [hg]; exact Nat.ne_of_gt (blk_lt (g := gb553) (o := .cells #[.int .i64 t543, .int .i64 t544, .int .u8 t545, .int .i64 t546, .int .i64 t547, .float .f64 t548] 35 (0, 0)) (aB BK553)) : gb561 ≠ gb553)); clear HO_9; clear HO_10; clear HO_46; clear HO_553000; clear HO_553001; clear BK532; clear BK552; clear BK553; clear HB; have HO_9 := n0_; have HO_10 := n1_; have HO_46 := n2_; have HO_553000 := n3_; have HO_553001 := n4_; have BK532 := n5_; have BK552 := n6_; have BK553 := n7_; have HB := n8_; have BK561 := n9_; have GW561 := n10_; have GE561 := n11_; have NB532_561 := n12_; have NB561_532 := n13_; have NB552_561 := n14_; have NB561_552 := n15_; have NB553_561 := n16_; have NB561_553 := n17_; clear n0_ n1_ n2_ n3_ n4_ n5_ n6_ n7_ n8_ n9_ n10_ n11_ n12_ n13_ n14_ n15_ n16_ n17_; clear hb hbox hg; have hnb43 := NB561_532.out; have hnc43 := NB532_561.out; have hnb44 := NB561_552.out; have hnc44 := NB552_561.out; have hnb45 := NB561_553.out; have hnc45 := NB553_561.out; obtain ⟨hcz46_0, hcz46_1, hcz46_2, hcz46_3, hfz46_0, hfz46_1, hfz46_2, hfz46_3⟩ := aC4 BK561) | ((with_reducible refine gate_store (t := 45) (p := 12) rfl ?_); refine store_event (t := 45) (p := 12) (v := ?vo_w47) (w1 := ((((w42.setCell ⟨gb561, 0, none⟩ (.int .i64 ((rd_T45 t540 x48_2).f0))).setCell ⟨gb561, 1, none⟩ (.int .i64 ((rd_T45 t540 x48_2).f1))).setCell ⟨gb561, 2, none⟩ (.int .i64 ((rd_T45 t540 x48_2).f2))).setCell ⟨gb561, 3, none⟩ (.int .u8 ((rd_T45 t540 x48_2).f3)))) ?hg ?ho ?hn ?hr ?_; (case ho => rfl); (case hg => rfl); (case hn => rfl); (case hr => first | (go_simp; done) | (go_simp; rfl)); intro w47 hw; have n0_ : zA (Kd.S (Kd.slice 5 (Kd.int .u8)) 51 w47 w.heap.size (fun k_ => some k_ ≠ (v558 : Value).ownBlock) v555 t554) := ⟨(by rw [hw]; exact (by (with_reducible repeat (first | apply Kd.S_alloc | apply Kd.S_drewN | apply Kd.S_drew)); exact Kd.S_mono (Kd.S_far (p := ⟨gb561, 3, none⟩) (Kd.S_far (p := ⟨gb561, 2, none⟩) (Kd.S_far (p := ⟨gb561, 1, none⟩) (Kd.S_far (p := ⟨gb561, 0, none⟩) (Kd.S_types HO_9.out BK561.out (by decide)) (fun _ hk => hk.2) (.int .i64 ((rd_T45 t540 x48_2).f0))) (fun _ hk => hk.2) (.int .i64 ((rd_T45 t540 x48_2).f1))) (fun _ hk => hk.2) (.int .i64 ((rd_T45 t540 x48_2).f2))) (fun _ hk => hk.2) (.int .u8 ((rd_T45 t540 x48_2).f3))) (fun _ hk => hk.1)))⟩; have n1_ : zA (Kd.S (Kd.slice 5 (Kd.int .u8)) 51 w47 w.heap.size (fun k_ => some k_ ≠ (v555 : Value).ownBlock) v558 t557) := ⟨(by rw [hw]; exact (by (with_reducible repeat (first | apply Kd.S_alloc | apply Kd.S_drewN | apply Kd.S_drew)); exact Kd.S_mono (Kd.S_far (p := ⟨gb561, 3, none⟩) (Kd.S_far (p := ⟨gb561, 2, none⟩) (Kd.S_far (p := ⟨gb561, 1, none⟩) (Kd.S_far (p := ⟨gb561, 0, none⟩) (Kd.S_types HO_10.out BK561.out (by decide)) (fun _ hk => hk.2) (.int .i64 ((rd_T45 t540 x48_2).f0))) (fun _ hk => hk.2) (.int .i64 ((rd_T45 t540 x48_2).f1))) (fun _ hk => hk.2) (.int .i64 ((rd_T45 t540 x48_2).f2))) (fun _ hk => hk.2) (.int .u8 ((rd_T45 t540 x48_2).f3))) (fun _ hk => hk.1)))⟩; have n2_ : zA (Kd.R k45 45 w47 w.heap.size (fun k_ => k_ ≠ gb561) (.slice (some ad560) t540.length co26) t540) := ⟨(by rw [hw]; exact (by (with_reducible repeat (first | apply Kd.zI | apply Kd.zJ | apply Kd.zK)); exact Kd.zU (Kd.zR (p := ⟨gb561, 3, none⟩) (Kd.zR (p := ⟨gb561, 2, none⟩) (Kd.zR (p := ⟨gb561, 1, none⟩) (Kd.zR (p := ⟨gb561, 0, none⟩) (Kd.zU HO_46.out (fun k_ hk => (⟨hk, hk.2⟩ : _ ∧ k_ ≠ gb561))) (fun _ hk => hk.2) (.int .i64 ((rd_T45 t540 x48_2).f0))) (fun _ hk => hk.2) (.int .i64 ((rd_T45 t540 x48_2).f1))) (fun _ hk => hk.2) (.int .i64 ((rd_T45 t540 x48_2).f2))) (fun _ hk => hk.2) (.int .u8 ((rd_T45 t540 x48_2).f3))) (fun _ hk => hk.1.2)))⟩; have n3_ : zA (Kd.R k61 61 w47 w.heap.size (fun _ => True) (.slice Ao15 t534.length co15) t534) := ⟨(by rw [hw]; exact (by (with_reducible repeat (first | apply Kd.zI | apply Kd.zJ | apply Kd.zK)); exact Kd.zU (Kd.zR (p := ⟨gb561, 3, none⟩) (Kd.zR (p := ⟨gb561, 2, none⟩) (Kd.zR (p := ⟨gb561, 1, none⟩) (Kd.zR (p := ⟨gb561, 0, none⟩) (Kd.zV HO_553000.out BK561.out (by decide)) (fun _ hk => hk.2) (.int .i64 ((rd_T45 t540 x48_2).f0))) (fun _ hk => hk.2) (.int .i64 ((rd_T45 t540 x48_2).f1))) (fun _ hk => hk.2) (.int .i64 ((rd_T45 t540 x48_2).f2))) (fun _ hk => hk.2) (.int .u8 ((rd_T45 t540 x48_2).f3))) (fun _ hk => trivial)))⟩; have n4_ : zA (Kd.R (Kd.int .u8) 43 w47 w.heap.size (fun _ => True) (.slice Ao19 t537.length co19) t537) := ⟨(by rw [hw]; exact (by (with_reducible repeat (first | apply Kd.zI | apply Kd.zJ | apply Kd.zK)); exact Kd.zU (Kd.zR (p := ⟨gb561, 3, none⟩) (Kd.zR (p := ⟨gb561, 2, none⟩) (Kd.zR (p := ⟨gb561, 1, none⟩) (Kd.zR (p := ⟨gb561, 0, none⟩) (Kd.zV HO_553001.out BK561.out (by decide)) (fun _ hk => hk.2) (.int .i64 ((rd_T45 t540 x48_2).f0))) (fun _ hk => hk.2) (.int .i64 ((rd_T45 t540 x48_2).f1))) (fun _ hk => hk.2) (.int .i64 ((rd_T45 t540 x48_2).f2))) (fun _ hk => hk.2) (.int .u8 ((rd_T45 t540 x48_2).f3))) (fun _ hk => trivial)))⟩; have n5_ : zA (w47.heap[gb532]? = some (.cells #[.int .u8 a1_0, .int .u8 a1_1, .int .u8 a1_2, .int .u16 a1_3, .int .u16 a1_4, .float .f64 a1_5] 26 (0, 0))) := ⟨(by rw [hw]; exact (aB BK532))⟩; have n6_ : zA (w47.heap[gb552]? = some (.cells #[.slice Ao15 t534.length co15, .slice Ao19 t537.length co19] 31 (0, 0))) := ⟨(by rw [hw]; exact (aB BK552))⟩; have n7_ : zA (w47.heap[gb553]? = some (.cells #[.int .i64 t543, .int .i64 t544, .int .u8 t545, .int .i64 t546, .int .i64 t547, .float .f64 t548] 35 (0, 0))) := ⟨(by rw [hw]; exact (aB BK553))⟩; have n8_ : zA (w47.heap[gb561]? = some (.cells #[.int .i64 ((rd_T45 t540 x48_2).f0), .int .i64 ((rd_T45 t540 x48_2).f1), .int .i64 ((rd_T45 t540 x48_2).f2), .int .u8 ((rd_T45 t540 x48_2).f3)] 45 (0, 0))) := ⟨(by rw [hw]; exact (by (with_reducible repeat (first | refine zF ?_ _ | refine zD ?_ | refine zE ?_ _)); refine blk_put (cs := #[.int .i64 ((rd_T45 t540 x48_2).f0), .int .i64 ((rd_T45 t540 x48_2).f1), .int .i64 ((rd_T45 t540 x48_2).f2), .int .u8 0]) ?_ 3 _ rfl; (with_reducible repeat (first | refine zF ?_ _ | refine zD ?_ | refine zE ?_ _)); refine blk_put (cs := #[.int .i64 ((rd_T45 t540 x48_2).f0), .int .i64 ((rd_T45 t540 x48_2).f1), .int .i64 0, .int .u8 0]) ?_ 2 _ rfl; (with_reducible repeat (first | refine zF ?_ _ | refine zD ?_ | refine zE ?_ _)); refine blk_put (cs := #[.int .i64 ((rd_T45 t540 x48_2).f0), .int .i64 0, .int .i64 0, .int .u8 0]) ?_ 1 _ rfl; (with_reducible repeat (first | refine zF ?_ _ | refine zD ?_ | refine zE ?_ _)); refine blk_put (cs := #[.int .i64 0, .int .i64 0, .int .i64 0, .int .u8 0]) ?_ 0 _ rfl; (with_reducible repeat (first | refine zF ?_ _ | refine zD ?_ | refine zE ?_ _)); exact BK561.out))⟩; have n9_ : zA (Below w.heap.size w w47) := ⟨(by rw [hw]; exact (aL HB))⟩; clear hw; clear HO_9; clear HO_10; clear HO_46; clear HO_553000; clear HO_553001; clear BK532; clear BK552; clear BK553; clear BK561; clear HB; have HO_9 := n0_; have HO_10 := n1_; have HO_46 := n2_; have HO_553000 := n3_; have HO_553001 := n4_; have BK532 := n5_; have BK552 := n6_; have BK553 := n7_; have BK561 := n8_; have HB := n9_; clear n0_ n1_ n2_ n3_ n4_ n5_ n6_ n7_ n8_ n9_; obtain ⟨hcz48_0, hcz48_1, hcz48_2, hcz48_3, hfz48_0, hfz48_1, hfz48_2, hfz48_3⟩ := aC4 BK561))
    have n0_ := zA.mk (Kd.S_drew HO_9.out); have n1_ := zA.mk (Kd.S_drew HO_10.out); have n2_ := zA.mk (Kd.zK HO_46.out); have n3_ := zA.mk (Kd.zK HO_553000.out); have n4_ := zA.mk (Kd.zK HO_553001.out); have n5_ := zA.mk (zD BK532.out); have n6_ := zA.mk (zD BK552.out); have n7_ := zA.mk (zD BK553.out); have n8_ := zA.mk (zD BK561.out); have n9_ := zA.mk (below_drew1 HB.out); clear HO_9; clear HO_10; clear HO_46; clear HO_553000; clear HO_553001; clear BK532; clear BK552; clear BK553; clear BK561; clear HB; have HO_9 := n0_; have HO_10 := n1_; have HO_46 := n2_; have HO_553000 := n3_; have HO_553001 := n4_; have BK532 := n5_; have BK552 := n6_; have BK553 := n7_; have BK561 := n8_; have HB := n9_; clear n0_ n1_ n2_ n3_ n4_ n5_ n6_ n7_ n8_ n9_; obtain ⟨Ao50, co50, eo50⟩ := Kd.S_slice HO_9.out; (first | subst eo50 | (injection eo50 with f1_ f2_ f3_; have f4_ := f1_.symm; have f5_ := f3_.symm; clear f1_ f2_ f3_; subst f4_; subst f5_))
    have p562 : 0 ≤ (x48_2 : Int) := aD
    have q562 : x48_2 < (t554.length : Int) := aD
    obtain ⟨ad562, A562_0, c562_0, e562, hx562_0, hl562_0, hi562_0⟩ := at_L5 (Kd.S_reads' HO_9.out).2.2 x48_2 p562 q562; cases e562
    obtain ⟨ce562, hce562, hMe562, hcc562⟩ := Kd.S_get HO_9.out [] x48_2 p562 (by first | exact q562 | exact aD | (have e_ := (Kd.S_reads' HO_9.out).1; omega))
    obtain ⟨ve562_0, rfl, ge562_0⟩ := hMe562; have hv562_0 := hcc562 0 _ rfl; rw [Nat.add_zero, show ((Kd.slice 5 (Kd.int .u8))).sz = 1 from rfl, Nat.mul_one] at hv562_0; replace hv562_0 := Option.some.inj (hv562_0.symm.trans hx562_0); rw [hv562_0] at ge562_0; have HL562_0 := zA.mk (show Kd.R (Kd.int .u8) 5 _ _ _ _ (rd_L5 t554 x48_2) from ge562_0); clear hv562_0 ge562_0; clear hcc562 hce562; have HR562_0 := zA.mk hi562_0; have HC562_0 := zA.mk hl562_0; clear hi562_0 hl562_0; replace p562 := eq_true p562; replace q562 := eq_true q562; obtain ⟨Ao51, co51, eo51⟩ := Kd.S_slice HO_10.out; (first | subst eo51 | (injection eo51 with f1_ f2_ f3_; have f4_ := f1_.symm; have f5_ := f3_.symm; clear f1_ f2_ f3_; subst f4_; subst f5_))
    have p563 : 0 ≤ (x48_2 : Int) := aD
    have q563 : x48_2 < (t557.length : Int) := aD
    obtain ⟨ad563, A563_0, c563_0, e563, hx563_0, hl563_0, hi563_0⟩ := at_L5 (Kd.S_reads' HO_10.out).2.2 x48_2 p563 q563; cases e563
    obtain ⟨ce563, hce563, hMe563, hcc563⟩ := Kd.S_get HO_10.out [] x48_2 p563 (by first | exact q563 | exact aD | (have e_ := (Kd.S_reads' HO_10.out).1; omega))
    obtain ⟨ve563_0, rfl, ge563_0⟩ := hMe563; have hv563_0 := hcc563 0 _ rfl; rw [Nat.add_zero, show ((Kd.slice 5 (Kd.int .u8))).sz = 1 from rfl, Nat.mul_one] at hv563_0; replace hv563_0 := Option.some.inj (hv563_0.symm.trans hx563_0); rw [hv563_0] at ge563_0; have HL563_0 := zA.mk (show Kd.R (Kd.int .u8) 5 _ _ _ _ (rd_L5 t557 x48_2) from ge563_0); clear hv563_0 ge563_0; clear hcc563 hce563; have HR563_0 := zA.mk hi563_0; have HC563_0 := zA.mk hl563_0; clear hi563_0 hl563_0; replace p563 := eq_true p563; replace q563 := eq_true q563; have hcv52 := Kd.C_string (P := Try.prog) (A := A562_0) (c := c562_0) Try.underlying51 Try.underlying5 Try.underlying9 (aH HR562_0); have hcv53 := Kd.C_string (P := Try.prog) (A := A563_0) (c := c563_0) Try.underlying51 Try.underlying5 Try.underlying9 (aH HR563_0); have p564 : 0 ≤ (x48_2 : Int) := aD
    have q564 : x48_2 < (t557.length : Int) := aD
    obtain ⟨ad564, A564_0, c564_0, e564, hx564_0, hl564_0, hi564_0⟩ := at_L5 (Kd.S_reads' HO_10.out).2.2 x48_2 p564 q564; obtain rfl : ad563 = ad564 := (by injection e564)
    obtain ⟨ce564, hce564, hMe564, hcc564⟩ := Kd.S_get HO_10.out [] x48_2 p564 (by first | exact q564 | exact aD | (have e_ := (Kd.S_reads' HO_10.out).1; omega))
    obtain ⟨ve564_0, rfl, ge564_0⟩ := hMe564; have hv564_0 := hcc564 0 _ rfl; rw [Nat.add_zero, show ((Kd.slice 5 (Kd.int .u8))).sz = 1 from rfl, Nat.mul_one] at hv564_0; replace hv564_0 := Option.some.inj (hv564_0.symm.trans hx564_0); rw [hv564_0] at ge564_0; have HL564_0 := zA.mk (show Kd.R (Kd.int .u8) 5 _ _ _ _ (rd_L5 t557 x48_2) from ge564_0); clear hv564_0 ge564_0; clear hcc564 hce564; have HR564_0 := zA.mk hi564_0; have HC564_0 := zA.mk hl564_0; clear hi564_0 hl564_0; replace p564 := eq_true p564; replace q564 := eq_true q564; have p565 : 0 ≤ (x48_2 : Int) := aD
    have q565 : x48_2 < (t554.length : Int) := aD
    obtain ⟨ad565, A565_0, c565_0, e565, hx565_0, hl565_0, hi565_0⟩ := at_L5 (Kd.S_reads' HO_9.out).2.2 x48_2 p565 q565; obtain rfl : ad562 = ad565 := (by injection e565)
    obtain ⟨ce565, hce565, hMe565, hcc565⟩ := Kd.S_get HO_9.out [] x48_2 p565 (by first | exact q565 | exact aD | (have e_ := (Kd.S_reads' HO_9.out).1; omega))
    obtain ⟨ve565_0, rfl, ge565_0⟩ := hMe565; have hv565_0 := hcc565 0 _ rfl; rw [Nat.add_zero, show ((Kd.slice 5 (Kd.int .u8))).sz = 1 from rfl, Nat.mul_one] at hv565_0; replace hv565_0 := Option.some.inj (hv565_0.symm.trans hx565_0); rw [hv565_0] at ge565_0; have HL565_0 := zA.mk (show Kd.R (Kd.int .u8) 5 _ _ _ _ (rd_L5 t554 x48_2) from ge565_0); clear hv565_0 ge565_0; clear hcc565 hce565; have HR565_0 := zA.mk hi565_0; have HC565_0 := zA.mk hl565_0; clear hi565_0 hl565_0; replace p565 := eq_true p565; replace q565 := eq_true q565; refine start_ (n := 27) (S := fun w' => w'.cell? (ad562.add (x48_2).toNat) = some (.slice A562_0 (rd_L5 t554 x48_2).length c562_0) ∧ w'.cell? (ad563.add (x48_2).toNat) = some (.slice A563_0 (rd_L5 t557 x48_2).length c563_0) ∧ w'.cell? (ad563.add (x48_2).toNat) = some (.slice A564_0 (rd_L5 t557 x48_2).length c564_0) ∧ w'.cell? (ad562.add (x48_2).toNat) = some (.slice A565_0 (rd_L5 t554 x48_2).length c565_0) ∧ Kd.C (Kd.int .u8) w' A562_0 (rd_L5 t554 x48_2).length (rd_L5 t554 x48_2) ∧ Kd.C (Kd.int .u8) w' A563_0 (rd_L5 t557 x48_2).length (rd_L5 t557 x48_2)) (ds := []) #[false, false, false, false, false, false, false, false, false, false, false, false, false, false, false, false, false, false, false, false, false, false, false, false, false, false, false] (by kernel_rfl) rfl rfl ⟨hx562_0, hx563_0, hx564_0, hx565_0, aH HR562_0, aH HR563_0⟩ (fun hHeld => ?_); refine with_tabW stanzalaw22_DrawEnds.tab11 stanzalaw22_DrawEnds.bits11 (fun HT_ HW_ => ?_)
    generalize w47.drew = w49 at HO_9 HO_10 HO_46 HO_553000 HO_553001 BK532 BK552 BK553 BK561 HB HL562_0 HL563_0 HL564_0 HL565_0 HR562_0 HR563_0 HR564_0 HR565_0 hx562_0 hx563_0 hx564_0 hx565_0 hHeld ⊢
    refine aP 0 (some 61) (tf_ 1 27) HT_ ?_
    refine aP 1 (some 62) (tf_ 2 27) HT_ ?_
    refine aP 2 (some 63) (tf_ 3 27) HT_ ?_
    refine aP 3 (some 64) (tf_ 4 27) HT_ ?_
    refine aP 4 (some 65) (tf_ 5 27) HT_ ?_
    refine aP 7 (some 68) #[true, true, true, true, true, false, false, true, false, false, false, false, false, false, false, false, false, false, false, false, false, false, false, false, false, false, false] HT_ ?_
    refine aP 8 (some 69) #[true, true, true, true, true, false, false, true, true, false, false, false, false, false, false, false, false, false, false, false, false, false, false, false, false, false, false] HT_ ?_
    refine aP 9 (some 70) #[true, true, true, true, true, false, false, true, true, true, false, false, false, false, false, false, false, false, false, false, false, false, false, false, false, false, false] HT_ ?_
    refine take_ (i := 5) (N := some 66) (v := ?_) (a' := ?_) #[true, true, true, true, true, true, false, true, true, true, false, false, false, false, false, false, false, false, false, false, false, false, false, false, false, false, false] rfl rfl (take_ofW HT_.out HW_.out (by kernel_rfl)) (fun _ _ _ h => h) (Or.inl ⟨by rfl, ?_⟩) hHeld ?_ ?_
    rotate_left
    ·rintro w' ⟨s0, s1, s2, s3, s4, s5⟩
     go_simp
     with_reducible rfl
    rotate_left
    ·simp only [Act.put, sA_, sB_, sC_, i64_w, i32_w]
     rfl
    refine take_ (i := 6) (N := some 67) (v := ?_) (a' := ?_) (tf_ 10 27) rfl rfl (take_ofW HT_.out HW_.out (by kernel_rfl)) (fun _ _ _ h => h) (Or.inl ⟨by rfl, ?_⟩) hHeld ?_ ?_
    rotate_left
    ·rintro w' ⟨s0, s1, s2, s3, s4, s5⟩
     have hcv_ := Kd.C_string (P := Try.prog) (A := A562_0) (c := c562_0) Try.underlying51 Try.underlying5 Try.underlying9 s4; go_simp
     with_reducible rfl
    rotate_left
    ·simp only [Act.put, sA_, sB_, sC_, i64_w, i32_w]
     rfl
    refine take_ (i := 10) (N := some 71) (v := ?_) (a' := ?_) (tf_ 11 27) rfl rfl (take_ofW HT_.out HW_.out (by kernel_rfl)) (fun _ _ _ h => h) (Or.inl ⟨by rfl, ?_⟩) hHeld ?_ ?_
    rotate_left
    ·rintro w' ⟨s0, s1, s2, s3, s4, s5⟩
     go_simp
     with_reducible rfl
    rotate_left
    ·simp only [Act.put, sA_, sB_, sC_, i64_w, i32_w]
     rfl
    refine take_ (i := 11) (N := some 72) (v := ?_) (a' := ?_) (tf_ 12 27) rfl rfl (take_ofW HT_.out HW_.out (by kernel_rfl)) (fun _ _ _ h => h) (Or.inl ⟨by rfl, ?_⟩) hHeld ?_ ?_
    rotate_left
    ·rintro w' ⟨s0, s1, s2, s3, s4, s5⟩
     have hcv_ := Kd.C_string (P := Try.prog) (A := A563_0) (c := c563_0) Try.underlying51 Try.underlying5 Try.underlying9 s5; go_simp
     with_reducible rfl
    rotate_left
    ·simp only [Act.put, sA_, sB_, sC_, i64_w, i32_w]
     rfl
    refine aP 12 (some 73) (tf_ 13 27) HT_ ?_
    refine aP 13 (some 74) (tf_ 14 27) HT_ ?_
    refine aP 14 (some 75) (tf_ 15 27) HT_ ?_
    refine aP 15 (some 76) (tf_ 16 27) HT_ ?_
    refine aP 16 (some 77) (tf_ 17 27) HT_ ?_
    refine aP 17 (some 78) (tf_ 18 27) HT_ ?_
    refine aP 20 (some 81) #[true, true, true, true, true, true, true, true, true, true, true, true, true, true, true, true, true, true, false, false, true, false, false, false, false, false, false] HT_ ?_
    refine aP 21 (some 82) #[true, true, true, true, true, true, true, true, true, true, true, true, true, true, true, true, true, true, false, false, true, true, false, false, false, false, false] HT_ ?_
    refine aP 22 (some 83) #[true, true, true, true, true, true, true, true, true, true, true, true, true, true, true, true, true, true, false, false, true, true, true, false, false, false, false] HT_ ?_
    refine take_ (i := 18) (N := some 79) (v := ?_) (a' := ?_) #[true, true, true, true, true, true, true, true, true, true, true, true, true, true, true, true, true, true, true, false, true, true, true, false, false, false, false] rfl rfl (take_ofW HT_.out HW_.out (by kernel_rfl)) (fun _ _ _ h => h) (Or.inl ⟨by rfl, ?_⟩) hHeld ?_ ?_
    rotate_left
    ·rintro w' ⟨s0, s1, s2, s3, s4, s5⟩
     go_simp
     with_reducible rfl
    rotate_left
    ·simp only [Act.put, sA_, sB_, sC_, i64_w, i32_w]
     rfl
    refine aP 19 (some 80) (tf_ 23 27) HT_ ?_
    refine take_ (i := 23) (N := some 84) (v := ?_) (a' := ?_) (tf_ 24 27) rfl rfl (take_ofW HT_.out HW_.out (by kernel_rfl)) (fun _ _ _ h => h) (Or.inl ⟨by rfl, ?_⟩) hHeld ?_ ?_
    rotate_left
    ·rintro w' ⟨s0, s1, s2, s3, s4, s5⟩
     go_simp
     with_reducible rfl
    rotate_left
    ·simp only [Act.put, sA_, sB_, sC_, i64_w, i32_w]
     rfl
    refine aP 24 (some 85) (tf_ 25 27) HT_ ?_
    refine aP 25 (some 86) (tf_ 26 27) HT_ ?_
    refine aP 26 (some 87) #[true, true, true, true, true, true, true, true, true, true, true, true, true, true, true, true, true, true, true, true, true, true, true, true, true, true, true] HT_ ?_
    refine done_ (done_of HT_.out (by kernel_rfl)) ?_
    try go_wp2
    go_roundg k2
    case measure => have := HJ7.out; have := HK2.out; omega
    case rel => exact ⟨(wrap64 (x48_2 + 1)), aZ, H', ⟨by have := HJ7.out; have := HK2.out; omega⟩, ⟨aS HO_9⟩, ⟨aS HO_10⟩, ⟨by (with_reducible repeat (first | apply Kd.zI | apply Kd.zJ | apply Kd.zK)); exact Kd.zU HO_46.out (fun _ hk => trivial)⟩, ⟨aR HO_553000⟩, ⟨aR HO_553001⟩, ⟨aB BK532⟩, ⟨aB BK552⟩, ⟨aB BK553⟩, ⟨aL HB⟩⟩
   rw [if_neg c37] at H; have c37b0 : (((rd_T45 t540 x48_2).f3) == 2) = false := beq_eq_false_iff_ne.mpr c37
   have c37b1 : (((rd_T45 t540 x48_2).f3) != 2) = true := bne_iff_ne.mpr c37
   by_cases c55 : ((rd_T45 t540 x48_2).f3) = 4
   rotate_left
   ·rw [if_neg c55] at H
    have c55b0 : (((rd_T45 t540 x48_2).f3) == 4) = false := beq_eq_false_iff_ne.mpr c55
    have c55b1 : (((rd_T45 t540 x48_2).f3) != 4) = true := bne_iff_ne.mpr c55
    by_cases c73 : x48_2 < (t557.length : Int)
    rotate_left
    ·rw [if_neg c73] at H
     exact absurd H (by simp)
    rw [if_pos c73] at H; have c73b0 : decide (x48_2 < (t557.length : Int)) = true := decide_eq_true c73
    clear c73; by_cases c74 : x48_2 < (t554.length : Int)
    rotate_left
    ·rw [if_neg c74] at H
     exact absurd H (by simp)
    rw [if_pos c74] at H; have c74b0 : decide (x48_2 < (t554.length : Int)) = true := decide_eq_true c74
    clear c74; by_cases c75 : ((rd_L5 t557 x48_2).length : Int) < ((rd_L5 t554 x48_2).length : Int)
    ·rw [if_pos c75] at H
     have c75b0 : decide (((rd_L5 t557 x48_2).length : Int) < ((rd_L5 t554 x48_2).length : Int)) = true := decide_eq_true c75
     have c75b1 : decide ((rd_L5 t557 x48_2).length < (rd_L5 t554 x48_2).length) = true := decide_eq_true (Int.ofNat_lt.mp c75)
     clear c75; exact absurd ((Option.some.inj H).trans hrt_.out) (by decide)
    rw [if_neg c75] at H; have c75b0 : decide (((rd_L5 t557 x48_2).length : Int) < ((rd_L5 t554 x48_2).length : Int)) = false := decide_eq_false c75
    have c75b1 : decide ((rd_L5 t557 x48_2).length < (rd_L5 t554 x48_2).length) = false := decide_eq_false (fun h => c75 (Int.ofNat_lt.mpr h))
    clear c75; have H' := zA.mk H
    clear H; have p560 : 0 ≤ (x48_2 : Int) := aD
    have q560 : x48_2 < (t540.length : Int) := aD
    obtain ⟨ad560, e560, hx560_0, hx560_1, hx560_2, hx560_3⟩ := at_T45 (Kd.zP HO_46.out).2.2 x48_2 p560 q560; cases e560
    replace p560 := eq_true p560; replace q560 := eq_true q560; try go_wp2_with (first | ((with_reducible refine gate_dst (N := 12) rfl ?_); (try (refine gate_guard (by rfl) ?_; dsimp only)); refine box_event ?hg (N := 12) ?hd (cs := #[.int .i64 0, .int .i64 0, .int .i64 0, .int .u8 0]) (t := 45) ?hr ?_; (case hd => rfl); (case hg => rfl); (case hr => first | (go_simp; done) | (go_simp; rfl)); intro gb561 hg w76 hbox hb; have n0_ := zA.mk (Kd.S_below (aS HO_9) hb); have n1_ := zA.mk (Kd.S_below (aS HO_10) hb); have n2_ := zA.mk (Kd.zQ (Kd.R_elderB (aR HO_46) gb561 (Nat.le_of_eq hg.symm)) hb); have n3_ := zA.mk (Kd.zQ (aR HO_553000) hb); have n4_ := zA.mk (Kd.zQ (aR HO_553001) hb); have n5_ := zA.mk (zB (g := gb532) (o := .cells #[.int .u8 a1_0, .int .u8 a1_1, .int .u8 a1_2, .int .u16 a1_3, .int .u16 a1_4, .float .f64 a1_5] 26 (0, 0)) (aB BK532) hb); have n6_ := zA.mk (zB (g := gb552) (o := .cells #[.slice Ao15 t534.length co15, .slice Ao19 t537.length co19] 31 (0, 0)) (aB BK552) hb); have n7_ := zA.mk (zB (g := gb553) (o := .cells #[.int .i64 t543, .int .i64 t544, .int .u8 t545, .int .i64 t546, .int .i64 t547, .float .f64 t548] 35 (0, 0)) (aB BK553) hb); have n8_ := zA.mk (zH (aL HB) hb); have n9_ := zA.mk (hbox); have n10_ := zA.mk ((by rw [hg]; exact (zG (aL HB)) : w.heap.size ≤ gb561)); have n11_ := zA.mk ((by rw [hg]; exact (zG (aL HB)) : w.heap.size ≤ gb561)); have n12_ := zA.mk ((by rw [hg]; exact Nat.ne_of_lt (blk_lt (g := gb532) (o := .cells #[.int .u8 a1_0, .int .u8 a1_1, .int .u8 a1_2, .int .u16 a1_3, .int .u16 a1_4, .float .f64 a1_5] 26 (0, 0)) (aB BK532)) : gb532 ≠ gb561)); have n13_ := zA.mk ((by rw [hg]; exact Nat.ne_of_gt (blk_lt (g := gb532) (o := .cells #[.int .u8 a1_0, .int .u8 a1_1, .int .u8 a1_2, .int .u16 a1_3, .int .u16 a1_4, .float .f64 a1_5] 26 (0, 0)) (aB BK532)) : gb561 ≠ gb532)); have n14_ := zA.mk ((by rw [hg]; exact Nat.ne_of_lt (blk_lt (g := gb552) (o := .cells #[.slice Ao15 t534.length co15, .slice Ao19 t537.length co19] 31 (0, 0)) (aB BK552)) : gb552 ≠ gb561)); have n15_ := zA.mk ((by rw [hg]; exact Nat.ne_of_gt (blk_lt (g := gb552) (o := .cells #[.slice Ao15 t534.length co15, .slice Ao19 t537.length co19] 31 (0, 0)) (aB BK552)) : gb561 ≠ gb552)); have n16_ := zA.mk ((by rw [hg]; exact Nat.ne_of_lt (blk_lt (g := gb553) (o := .cells #[.int .i64 t543, .int .i64 t544, .int .u8 t545, .int .i64 t546, .int .i64 t547, .float .f64 t548] 35 (0, 0)) (aB BK553)) : gb553 ≠ gb561)); have n17_ := zA.mk ((by rw [hg]; exact Nat.ne_of_gt (blk_lt (g := gb553) (o := .cells #[.int .i64 t543, .int .i64 t544, .int .u8 t545, .int .i64 t546, .int .i64 t547, .float .f64 t548] 35 (0, 0)) (aB BK553)) : gb561 ≠ gb553)); clear HO_9; clear HO_10; clear HO_46; clear HO_553000; clear HO_553001; clear BK532; clear BK552; clear BK553; clear HB; have HO_9 := n0_; have HO_10 := n1_; have HO_46 := n2_; have HO_553000 := n3_; have HO_553001 := n4_; have BK532 := n5_; have BK552 := n6_; have BK553 := n7_; have HB := n8_; have BK561 := n9_; have GW561 := n10_; have GE561 := n11_; have NB532_561 := n12_; have NB561_532 := n13_; have NB552_561 := n14_; have NB561_552 := n15_; have NB553_561 := n16_; have NB561_553 := n17_; clear n0_ n1_ n2_ n3_ n4_ n5_ n6_ n7_ n8_ n9_ n10_ n11_ n12_ n13_ n14_ n15_ n16_ n17_; clear hb hbox hg; have hnb77 := NB561_532.out; have hnc77 := NB532_561.out; have hnb78 := NB561_552.out; have hnc78 := NB552_561.out; have hnb79 := NB561_553.out; have hnc79 := NB553_561.out; obtain ⟨hcz80_0, hcz80_1, hcz80_2, hcz80_3, hfz80_0, hfz80_1, hfz80_2, hfz80_3⟩ := aC4 BK561) | ((with_reducible refine gate_store (t := 45) (p := 12) rfl ?_); refine store_event (t := 45) (p := 12) (v := ?vo_w81) (w1 := ((((w76.setCell ⟨gb561, 0, none⟩ (.int .i64 ((rd_T45 t540 x48_2).f0))).setCell ⟨gb561, 1, none⟩ (.int .i64 ((rd_T45 t540 x48_2).f1))).setCell ⟨gb561, 2, none⟩ (.int .i64 ((rd_T45 t540 x48_2).f2))).setCell ⟨gb561, 3, none⟩ (.int .u8 ((rd_T45 t540 x48_2).f3)))) ?hg ?ho ?hn ?hr ?_; (case ho => rfl); (case hg => rfl); (case hn => rfl); (case hr => first | (go_simp; done) | (go_simp; rfl)); intro w81 hw; have n0_ : zA (Kd.S (Kd.slice 5 (Kd.int .u8)) 51 w81 w.heap.size (fun k_ => some k_ ≠ (v558 : Value).ownBlock) v555 t554) := ⟨(by rw [hw]; exact (by (with_reducible repeat (first | apply Kd.S_alloc | apply Kd.S_drewN | apply Kd.S_drew)); exact Kd.S_mono (Kd.S_far (p := ⟨gb561, 3, none⟩) (Kd.S_far (p := ⟨gb561, 2, none⟩) (Kd.S_far (p := ⟨gb561, 1, none⟩) (Kd.S_far (p := ⟨gb561, 0, none⟩) (Kd.S_types HO_9.out BK561.out (by decide)) (fun _ hk => hk.2) (.int .i64 ((rd_T45 t540 x48_2).f0))) (fun _ hk => hk.2) (.int .i64 ((rd_T45 t540 x48_2).f1))) (fun _ hk => hk.2) (.int .i64 ((rd_T45 t540 x48_2).f2))) (fun _ hk => hk.2) (.int .u8 ((rd_T45 t540 x48_2).f3))) (fun _ hk => hk.1)))⟩; have n1_ : zA (Kd.S (Kd.slice 5 (Kd.int .u8)) 51 w81 w.heap.size (fun k_ => some k_ ≠ (v555 : Value).ownBlock) v558 t557) := ⟨(by rw [hw]; exact (by (with_reducible repeat (first | apply Kd.S_alloc | apply Kd.S_drewN | apply Kd.S_drew)); exact Kd.S_mono (Kd.S_far (p := ⟨gb561, 3, none⟩) (Kd.S_far (p := ⟨gb561, 2, none⟩) (Kd.S_far (p := ⟨gb561, 1, none⟩) (Kd.S_far (p := ⟨gb561, 0, none⟩) (Kd.S_types HO_10.out BK561.out (by decide)) (fun _ hk => hk.2) (.int .i64 ((rd_T45 t540 x48_2).f0))) (fun _ hk => hk.2) (.int .i64 ((rd_T45 t540 x48_2).f1))) (fun _ hk => hk.2) (.int .i64 ((rd_T45 t540 x48_2).f2))) (fun _ hk => hk.2) (.int .u8 ((rd_T45 t540 x48_2).f3))) (fun _ hk => hk.1)))⟩; have n2_ : zA (Kd.R k45 45 w81 w.heap.size (fun k_ => k_ ≠ gb561) (.slice (some ad560) t540.length co26) t540) := ⟨(by rw [hw]; exact (by (with_reducible repeat (first | apply Kd.zI | apply Kd.zJ | apply Kd.zK)); exact Kd.zU (Kd.zR (p := ⟨gb561, 3, none⟩) (Kd.zR (p := ⟨gb561, 2, none⟩) (Kd.zR (p := ⟨gb561, 1, none⟩) (Kd.zR (p := ⟨gb561, 0, none⟩) (Kd.zU HO_46.out (fun k_ hk => (⟨hk, hk.2⟩ : _ ∧ k_ ≠ gb561))) (fun _ hk => hk.2) (.int .i64 ((rd_T45 t540 x48_2).f0))) (fun _ hk => hk.2) (.int .i64 ((rd_T45 t540 x48_2).f1))) (fun _ hk => hk.2) (.int .i64 ((rd_T45 t540 x48_2).f2))) (fun _ hk => hk.2) (.int .u8 ((rd_T45 t540 x48_2).f3))) (fun _ hk => hk.1.2)))⟩; have n3_ : zA (Kd.R k61 61 w81 w.heap.size (fun _ => True) (.slice Ao15 t534.length co15) t534) := ⟨(by rw [hw]; exact (by (with_reducible repeat (first | apply Kd.zI | apply Kd.zJ | apply Kd.zK)); exact Kd.zU (Kd.zR (p := ⟨gb561, 3, none⟩) (Kd.zR (p := ⟨gb561, 2, none⟩) (Kd.zR (p := ⟨gb561, 1, none⟩) (Kd.zR (p := ⟨gb561, 0, none⟩) (Kd.zV HO_553000.out BK561.out (by decide)) (fun _ hk => hk.2) (.int .i64 ((rd_T45 t540 x48_2).f0))) (fun _ hk => hk.2) (.int .i64 ((rd_T45 t540 x48_2).f1))) (fun _ hk => hk.2) (.int .i64 ((rd_T45 t540 x48_2).f2))) (fun _ hk => hk.2) (.int .u8 ((rd_T45 t540 x48_2).f3))) (fun _ hk => trivial)))⟩; have n4_ : zA (Kd.R (Kd.int .u8) 43 w81 w.heap.size (fun _ => True) (.slice Ao19 t537.length co19) t537) := ⟨(by rw [hw]; exact (by (with_reducible repeat (first | apply Kd.zI | apply Kd.zJ | apply Kd.zK)); exact Kd.zU (Kd.zR (p := ⟨gb561, 3, none⟩) (Kd.zR (p := ⟨gb561, 2, none⟩) (Kd.zR (p := ⟨gb561, 1, none⟩) (Kd.zR (p := ⟨gb561, 0, none⟩) (Kd.zV HO_553001.out BK561.out (by decide)) (fun _ hk => hk.2) (.int .i64 ((rd_T45 t540 x48_2).f0))) (fun _ hk => hk.2) (.int .i64 ((rd_T45 t540 x48_2).f1))) (fun _ hk => hk.2) (.int .i64 ((rd_T45 t540 x48_2).f2))) (fun _ hk => hk.2) (.int .u8 ((rd_T45 t540 x48_2).f3))) (fun _ hk => trivial)))⟩; have n5_ : zA (w81.heap[gb532]? = some (.cells #[.int .u8 a1_0, .int .u8 a1_1, .int .u8 a1_2, .int .u16 a1_3, .int .u16 a1_4, .float .f64 a1_5] 26 (0, 0))) := ⟨(by rw [hw]; exact (aB BK532))⟩; have n6_ : zA (w81.heap[gb552]? = some (.cells #[.slice Ao15 t534.length co15, .slice Ao19 t537.length co19] 31 (0, 0))) := ⟨(by rw [hw]; exact (aB BK552))⟩; have n7_ : zA (w81.heap[gb553]? = some (.cells #[.int .i64 t543, .int .i64 t544, .int .u8 t545, .int .i64 t546, .int .i64 t547, .float .f64 t548] 35 (0, 0))) := ⟨(by rw [hw]; exact (aB BK553))⟩; have n8_ : zA (w81.heap[gb561]? = some (.cells #[.int .i64 ((rd_T45 t540 x48_2).f0), .int .i64 ((rd_T45 t540 x48_2).f1), .int .i64 ((rd_T45 t540 x48_2).f2), .int .u8 ((rd_T45 t540 x48_2).f3)] 45 (0, 0))) := ⟨(by rw [hw]; exact (by (with_reducible repeat (first | refine zF ?_ _ | refine zD ?_ | refine zE ?_ _)); refine blk_put (cs := #[.int .i64 ((rd_T45 t540 x48_2).f0), .int .i64 ((rd_T45 t540 x48_2).f1), .int .i64 ((rd_T45 t540 x48_2).f2), .int .u8 0]) ?_ 3 _ rfl; (with_reducible repeat (first | refine zF ?_ _ | refine zD ?_ | refine zE ?_ _)); refine blk_put (cs := #[.int .i64 ((rd_T45 t540 x48_2).f0), .int .i64 ((rd_T45 t540 x48_2).f1), .int .i64 0, .int .u8 0]) ?_ 2 _ rfl; (with_reducible repeat (first | refine zF ?_ _ | refine zD ?_ | refine zE ?_ _)); refine blk_put (cs := #[.int .i64 ((rd_T45 t540 x48_2).f0), .int .i64 0, .int .i64 0, .int .u8 0]) ?_ 1 _ rfl; (with_reducible repeat (first | refine zF ?_ _ | refine zD ?_ | refine zE ?_ _)); refine blk_put (cs := #[.int .i64 0, .int .i64 0, .int .i64 0, .int .u8 0]) ?_ 0 _ rfl; (with_reducible repeat (first | refine zF ?_ _ | refine zD ?_ | refine zE ?_ _)); exact BK561.out))⟩; have n9_ : zA (Below w.heap.size w w81) := ⟨(by rw [hw]; exact (aL HB))⟩; clear hw; clear HO_9; clear HO_10; clear HO_46; clear HO_553000; clear HO_553001; clear BK532; clear BK552; clear BK553; clear BK561; clear HB; have HO_9 := n0_; have HO_10 := n1_; have HO_46 := n2_; have HO_553000 := n3_; have HO_553001 := n4_; have BK532 := n5_; have BK552 := n6_; have BK553 := n7_; have BK561 := n8_; have HB := n9_; clear n0_ n1_ n2_ n3_ n4_ n5_ n6_ n7_ n8_ n9_; obtain ⟨hcz82_0, hcz82_1, hcz82_2, hcz82_3, hfz82_0, hfz82_1, hfz82_2, hfz82_3⟩ := aC4 BK561))
    have n0_ := zA.mk (Kd.S_drew HO_9.out); have n1_ := zA.mk (Kd.S_drew HO_10.out); have n2_ := zA.mk (Kd.zK HO_46.out); have n3_ := zA.mk (Kd.zK HO_553000.out); have n4_ := zA.mk (Kd.zK HO_553001.out); have n5_ := zA.mk (zD BK532.out); have n6_ := zA.mk (zD BK552.out); have n7_ := zA.mk (zD BK553.out); have n8_ := zA.mk (zD BK561.out); have n9_ := zA.mk (below_drew1 HB.out); clear HO_9; clear HO_10; clear HO_46; clear HO_553000; clear HO_553001; clear BK532; clear BK552; clear BK553; clear BK561; clear HB; have HO_9 := n0_; have HO_10 := n1_; have HO_46 := n2_; have HO_553000 := n3_; have HO_553001 := n4_; have BK532 := n5_; have BK552 := n6_; have BK553 := n7_; have BK561 := n8_; have HB := n9_; clear n0_ n1_ n2_ n3_ n4_ n5_ n6_ n7_ n8_ n9_; obtain ⟨Ao84, co84, eo84⟩ := Kd.S_slice HO_10.out; (first | subst eo84 | (injection eo84 with f1_ f2_ f3_; have f4_ := f1_.symm; have f5_ := f3_.symm; clear f1_ f2_ f3_; subst f4_; subst f5_))
    have p570 : 0 ≤ (x48_2 : Int) := aD
    have q570 : x48_2 < (t557.length : Int) := aD
    obtain ⟨ad570, A570_0, c570_0, e570, hx570_0, hl570_0, hi570_0⟩ := at_L5 (Kd.S_reads' HO_10.out).2.2 x48_2 p570 q570; cases e570
    obtain ⟨ce570, hce570, hMe570, hcc570⟩ := Kd.S_get HO_10.out [] x48_2 p570 (by first | exact q570 | exact aD | (have e_ := (Kd.S_reads' HO_10.out).1; omega))
    obtain ⟨ve570_0, rfl, ge570_0⟩ := hMe570; have hv570_0 := hcc570 0 _ rfl; rw [Nat.add_zero, show ((Kd.slice 5 (Kd.int .u8))).sz = 1 from rfl, Nat.mul_one] at hv570_0; replace hv570_0 := Option.some.inj (hv570_0.symm.trans hx570_0); rw [hv570_0] at ge570_0; have HL570_0 := zA.mk (show Kd.R (Kd.int .u8) 5 _ _ _ _ (rd_L5 t557 x48_2) from ge570_0); clear hv570_0 ge570_0; clear hcc570 hce570; have HR570_0 := zA.mk hi570_0; have HC570_0 := zA.mk hl570_0; clear hi570_0 hl570_0; replace p570 := eq_true p570; replace q570 := eq_true q570; obtain ⟨Ao85, co85, eo85⟩ := Kd.S_slice HO_9.out; (first | subst eo85 | (injection eo85 with f1_ f2_ f3_; have f4_ := f1_.symm; have f5_ := f3_.symm; clear f1_ f2_ f3_; subst f4_; subst f5_))
    have p571 : 0 ≤ (x48_2 : Int) := aD
    have q571 : x48_2 < (t554.length : Int) := aD
    obtain ⟨ad571, A571_0, c571_0, e571, hx571_0, hl571_0, hi571_0⟩ := at_L5 (Kd.S_reads' HO_9.out).2.2 x48_2 p571 q571; cases e571
    obtain ⟨ce571, hce571, hMe571, hcc571⟩ := Kd.S_get HO_9.out [] x48_2 p571 (by first | exact q571 | exact aD | (have e_ := (Kd.S_reads' HO_9.out).1; omega))
    obtain ⟨ve571_0, rfl, ge571_0⟩ := hMe571; have hv571_0 := hcc571 0 _ rfl; rw [Nat.add_zero, show ((Kd.slice 5 (Kd.int .u8))).sz = 1 from rfl, Nat.mul_one] at hv571_0; replace hv571_0 := Option.some.inj (hv571_0.symm.trans hx571_0); rw [hv571_0] at ge571_0; have HL571_0 := zA.mk (show Kd.R (Kd.int .u8) 5 _ _ _ _ (rd_L5 t554 x48_2) from ge571_0); clear hv571_0 ge571_0; clear hcc571 hce571; have HR571_0 := zA.mk hi571_0; have HC571_0 := zA.mk hl571_0; clear hi571_0 hl571_0; replace p571 := eq_true p571; replace q571 := eq_true q571; refine start_ (n := 27) (S := fun w' => w'.cell? (ad570.add (x48_2).toNat) = some (.slice A570_0 (rd_L5 t557 x48_2).length c570_0) ∧ w'.cell? (ad571.add (x48_2).toNat) = some (.slice A571_0 (rd_L5 t554 x48_2).length c571_0)) (ds := []) #[false, false, false, false, false, false, false, false, false, false, false, false, false, false, false, false, false, false, false, false, false, false, false, false, false, false, false] (by kernel_rfl) rfl rfl ⟨hx570_0, hx571_0⟩ (fun hHeld => ?_); refine with_tabW stanzalaw22_DrawEnds.tab11 stanzalaw22_DrawEnds.bits11 (fun HT_ HW_ => ?_)
    generalize w81.drew = w83 at HO_9 HO_10 HO_46 HO_553000 HO_553001 BK532 BK552 BK553 BK561 HB HL570_0 HL571_0 HR570_0 HR571_0 hx570_0 hx571_0 hHeld ⊢
    refine aP 0 (some 61) (tf_ 1 27) HT_ ?_
    refine aP 1 (some 62) (tf_ 2 27) HT_ ?_
    refine pure_ (i := 2) (N := some 63) (v := undef) (a' := ?_) (tf_ 3 27) rfl rfl (any_of HT_.out (by kernel_rfl)) (fun _ _ _ h => h) (Or.inr ⟨by rfl, rfl⟩) ?_ ?_
    rotate_left
    ·simp only [Act.put, sA_, sB_, sC_, i64_w, i32_w]
     rfl
    refine pure_ (i := 3) (N := some 64) (v := undef) (a' := ?_) (tf_ 4 27) rfl rfl (any_of HT_.out (by kernel_rfl)) (fun _ _ _ h => h) (Or.inr ⟨by rfl, rfl⟩) ?_ ?_
    rotate_left
    ·simp only [Act.put, sA_, sB_, sC_, i64_w, i32_w]
     rfl
    refine pure_ (i := 4) (N := some 65) (v := undef) (a' := ?_) (tf_ 5 27) rfl rfl (any_of HT_.out (by kernel_rfl)) (fun _ _ _ h => h) (Or.inr ⟨by rfl, rfl⟩) ?_ ?_
    rotate_left
    ·simp only [Act.put, sA_, sB_, sC_, i64_w, i32_w]
     rfl
    refine pure_ (i := 5) (N := some 66) (v := undef) (a' := ?_) (tf_ 6 27) rfl rfl (any_of HT_.out (by kernel_rfl)) (fun _ _ _ h => h) (Or.inr ⟨by rfl, rfl⟩) ?_ ?_
    rotate_left
    ·simp only [Act.put, sA_, sB_, sC_, i64_w, i32_w]
     rfl
    refine pure_ (i := 6) (N := some 67) (v := undef) (a' := ?_) (tf_ 7 27) rfl rfl (any_of HT_.out (by kernel_rfl)) (fun _ _ _ h => h) (Or.inr ⟨by rfl, rfl⟩) ?_ ?_
    rotate_left
    ·simp only [Act.put, sA_, sB_, sC_, i64_w, i32_w]
     rfl
    refine pure_ (i := 7) (N := some 68) (v := undef) (a' := ?_) (tf_ 8 27) rfl rfl (any_of HT_.out (by kernel_rfl)) (fun _ _ _ h => h) (Or.inr ⟨by rfl, rfl⟩) ?_ ?_
    rotate_left
    ·simp only [Act.put, sA_, sB_, sC_, i64_w, i32_w]
     rfl
    refine pure_ (i := 8) (N := some 69) (v := undef) (a' := ?_) (tf_ 9 27) rfl rfl (any_of HT_.out (by kernel_rfl)) (fun _ _ _ h => h) (Or.inr ⟨by rfl, rfl⟩) ?_ ?_
    rotate_left
    ·simp only [Act.put, sA_, sB_, sC_, i64_w, i32_w]
     rfl
    refine pure_ (i := 9) (N := some 70) (v := undef) (a' := ?_) (tf_ 10 27) rfl rfl (any_of HT_.out (by kernel_rfl)) (fun _ _ _ h => h) (Or.inr ⟨by rfl, rfl⟩) ?_ ?_
    rotate_left
    ·simp only [Act.put, sA_, sB_, sC_, i64_w, i32_w]
     rfl
    refine pure_ (i := 10) (N := some 71) (v := undef) (a' := ?_) (tf_ 11 27) rfl rfl (any_of HT_.out (by kernel_rfl)) (fun _ _ _ h => h) (Or.inr ⟨by rfl, rfl⟩) ?_ ?_
    rotate_left
    ·simp only [Act.put, sA_, sB_, sC_, i64_w, i32_w]
     rfl
    refine pure_ (i := 11) (N := some 72) (v := undef) (a' := ?_) (tf_ 12 27) rfl rfl (any_of HT_.out (by kernel_rfl)) (fun _ _ _ h => h) (Or.inr ⟨by rfl, rfl⟩) ?_ ?_
    rotate_left
    ·simp only [Act.put, sA_, sB_, sC_, i64_w, i32_w]
     rfl
    refine pure_ (i := 12) (N := some 73) (v := undef) (a' := ?_) (tf_ 13 27) rfl rfl (any_of HT_.out (by kernel_rfl)) (fun _ _ _ h => h) (Or.inr ⟨by rfl, rfl⟩) ?_ ?_
    rotate_left
    ·simp only [Act.put, sA_, sB_, sC_, i64_w, i32_w]
     rfl
    refine aP 13 (some 74) (tf_ 14 27) HT_ ?_
    refine aP 14 (some 75) (tf_ 15 27) HT_ ?_
    refine aP 15 (some 76) (tf_ 16 27) HT_ ?_
    refine aP 16 (some 77) (tf_ 17 27) HT_ ?_
    refine aP 17 (some 78) (tf_ 18 27) HT_ ?_
    refine aP 20 (some 81) #[true, true, true, true, true, true, true, true, true, true, true, true, true, true, true, true, true, true, false, false, true, false, false, false, false, false, false] HT_ ?_
    refine aP 21 (some 82) #[true, true, true, true, true, true, true, true, true, true, true, true, true, true, true, true, true, true, false, false, true, true, false, false, false, false, false] HT_ ?_
    refine aP 22 (some 83) #[true, true, true, true, true, true, true, true, true, true, true, true, true, true, true, true, true, true, false, false, true, true, true, false, false, false, false] HT_ ?_
    refine take_ (i := 18) (N := some 79) (v := ?_) (a' := ?_) #[true, true, true, true, true, true, true, true, true, true, true, true, true, true, true, true, true, true, true, false, true, true, true, false, false, false, false] rfl rfl (take_ofW HT_.out HW_.out (by kernel_rfl)) (fun _ _ _ h => h) (Or.inl ⟨by rfl, ?_⟩) hHeld ?_ ?_
    rotate_left
    ·rintro w' ⟨s0, s1⟩
     go_simp
     with_reducible rfl
    rotate_left
    ·simp only [Act.put, sA_, sB_, sC_, i64_w, i32_w]
     rfl
    refine aP 19 (some 80) (tf_ 23 27) HT_ ?_
    refine take_ (i := 23) (N := some 84) (v := ?_) (a' := ?_) (tf_ 24 27) rfl rfl (take_ofW HT_.out HW_.out (by kernel_rfl)) (fun _ _ _ h => h) (Or.inl ⟨by rfl, ?_⟩) hHeld ?_ ?_
    rotate_left
    ·rintro w' ⟨s0, s1⟩
     go_simp
     with_reducible rfl
    rotate_left
    ·simp only [Act.put, sA_, sB_, sC_, i64_w, i32_w]
     rfl
    refine aP 24 (some 85) (tf_ 25 27) HT_ ?_
    refine aP 25 (some 86) (tf_ 26 27) HT_ ?_
    refine aP 26 (some 87) #[true, true, true, true, true, true, true, true, true, true, true, true, true, true, true, true, true, true, true, true, true, true, true, true, true, true, true] HT_ ?_
    refine done_ (done_of HT_.out (by kernel_rfl)) ?_
    try go_wp2
    go_roundg k2
    case measure => have := HJ7.out; have := HK2.out; omega
    case rel => exact ⟨(wrap64 (x48_2 + 1)), aZ, H', ⟨by have := HJ7.out; have := HK2.out; omega⟩, ⟨aS HO_9⟩, ⟨aS HO_10⟩, ⟨by (with_reducible repeat (first | apply Kd.zI | apply Kd.zJ | apply Kd.zK)); exact Kd.zU HO_46.out (fun _ hk => trivial)⟩, ⟨aR HO_553000⟩, ⟨aR HO_553001⟩, ⟨aB BK532⟩, ⟨aB BK552⟩, ⟨aB BK553⟩, ⟨aL HB⟩⟩
   rw [if_pos c55] at H; have c55b0 : (((rd_T45 t540 x48_2).f3) == 4) = true := beq_iff_eq.mpr c55
   have c55b1 : (((rd_T45 t540 x48_2).f3) != 4) = false := bne_eq_false_iff_eq.mpr c55
   clear c55; by_cases c56 : x48_2 < (t554.length : Int)
   rotate_left
   ·rw [if_neg c56] at H
    exact absurd H (by simp)
   rw [if_pos c56] at H; have c56b0 : decide (x48_2 < (t554.length : Int)) = true := decide_eq_true c56
   clear c56; by_cases c57 : x48_2 < (t557.length : Int)
   rotate_left
   ·rw [if_neg c57] at H
    exact absurd H (by simp)
   rw [if_pos c57] at H; have c57b0 : decide (x48_2 < (t557.length : Int)) = true := decide_eq_true c57
   clear c57; by_cases c58 : (strOfNums (rd_L5 t554 x48_2)).toList = (strOfNums (rd_L5 t557 x48_2)).toList
   rotate_left
   ·rw [if_neg c58] at H
    have c58b0 : ((strOfNums (rd_L5 t554 x48_2)).toList == (strOfNums (rd_L5 t557 x48_2)).toList) = false := beq_eq_false_iff_ne.mpr c58
    have c58b1 : ((strOfNums (rd_L5 t554 x48_2)).toList != (strOfNums (rd_L5 t557 x48_2)).toList) = true := bne_iff_ne.mpr c58
    exact absurd ((Option.some.inj H).trans hrt_.out) (by decide)
   rw [if_pos c58] at H; have c58b0 : ((strOfNums (rd_L5 t554 x48_2)).toList == (strOfNums (rd_L5 t557 x48_2)).toList) = true := beq_iff_eq.mpr c58
   have c58b1 : ((strOfNums (rd_L5 t554 x48_2)).toList != (strOfNums (rd_L5 t557 x48_2)).toList) = false := bne_eq_false_iff_eq.mpr c58
   clear c58; by_cases c59 : ((rd_L5 t557 x48_2).length : Int) < ((rd_L5 t554 x48_2).length : Int)
   ·rw [if_pos c59] at H
    have c59b0 : decide (((rd_L5 t557 x48_2).length : Int) < ((rd_L5 t554 x48_2).length : Int)) = true := decide_eq_true c59
    have c59b1 : decide ((rd_L5 t557 x48_2).length < (rd_L5 t554 x48_2).length) = true := decide_eq_true (Int.ofNat_lt.mp c59)
    clear c59; exact absurd ((Option.some.inj H).trans hrt_.out) (by decide)
   rw [if_neg c59] at H; have c59b0 : decide (((rd_L5 t557 x48_2).length : Int) < ((rd_L5 t554 x48_2).length : Int)) = false := decide_eq_false c59
   have c59b1 : decide ((rd_L5 t557 x48_2).length < (rd_L5 t554 x48_2).length) = false := decide_eq_false (fun h => c59 (Int.ofNat_lt.mpr h))
   clear c59; have H' := zA.mk H
   clear H; have p560 : 0 ≤ (x48_2 : Int) := aD
   have q560 : x48_2 < (t540.length : Int) := aD
   obtain ⟨ad560, e560, hx560_0, hx560_1, hx560_2, hx560_3⟩ := at_T45 (Kd.zP HO_46.out).2.2 x48_2 p560 q560; cases e560
   replace p560 := eq_true p560; replace q560 := eq_true q560; try go_wp2_with (first | ((with_reducible refine gate_dst (N := 12) rfl ?_); (try (refine gate_guard (by rfl) ?_; dsimp only)); refine box_event ?hg (N := 12) ?hd (cs := #[.int .i64 0, .int .i64 0, .int .i64 0, .int .u8 0]) (t := 45) ?hr ?_; (case hd => rfl); (case hg => rfl); (case hr => first | (go_simp; done) | (go_simp; rfl)); intro gb561 hg w60 hbox hb; have n0_ := zA.mk (Kd.S_below (aS HO_9) hb); have n1_ := zA.mk (Kd.S_below (aS HO_10) hb); have n2_ := zA.mk (Kd.zQ (Kd.R_elderB (aR HO_46) gb561 (Nat.le_of_eq hg.symm)) hb); have n3_ := zA.mk (Kd.zQ (aR HO_553000) hb); have n4_ := zA.mk (Kd.zQ (aR HO_553001) hb); have n5_ := zA.mk (zB (g := gb532) (o := .cells #[.int .u8 a1_0, .int .u8 a1_1, .int .u8 a1_2, .int .u16 a1_3, .int .u16 a1_4, .float .f64 a1_5] 26 (0, 0)) (aB BK532) hb); have n6_ := zA.mk (zB (g := gb552) (o := .cells #[.slice Ao15 t534.length co15, .slice Ao19 t537.length co19] 31 (0, 0)) (aB BK552) hb); have n7_ := zA.mk (zB (g := gb553) (o := .cells #[.int .i64 t543, .int .i64 t544, .int .u8 t545, .int .i64 t546, .int .i64 t547, .float .f64 t548] 35 (0, 0)) (aB BK553) hb); have n8_ := zA.mk (zH (aL HB) hb); have n9_ := zA.mk (hbox); have n10_ := zA.mk ((by rw [hg]; exact (zG (aL HB)) : w.heap.size ≤ gb561)); have n11_ := zA.mk ((by rw [hg]; exact (zG (aL HB)) : w.heap.size ≤ gb561)); have n12_ := zA.mk ((by rw [hg]; exact Nat.ne_of_lt (blk_lt (g := gb532) (o := .cells #[.int .u8 a1_0, .int .u8 a1_1, .int .u8 a1_2, .int .u16 a1_3, .int .u16 a1_4, .float .f64 a1_5] 26 (0, 0)) (aB BK532)) : gb532 ≠ gb561)); have n13_ := zA.mk ((by rw [hg]; exact Nat.ne_of_gt (blk_lt (g := gb532) (o := .cells #[.int .u8 a1_0, .int .u8 a1_1, .int .u8 a1_2, .int .u16 a1_3, .int .u16 a1_4, .float .f64 a1_5] 26 (0, 0)) (aB BK532)) : gb561 ≠ gb532)); have n14_ := zA.mk ((by rw [hg]; exact Nat.ne_of_lt (blk_lt (g := gb552) (o := .cells #[.slice Ao15 t534.length co15, .slice Ao19 t537.length co19] 31 (0, 0)) (aB BK552)) : gb552 ≠ gb561)); have n15_ := zA.mk ((by rw [hg]; exact Nat.ne_of_gt (blk_lt (g := gb552) (o := .cells #[.slice Ao15 t534.length co15, .slice Ao19 t537.length co19] 31 (0, 0)) (aB BK552)) : gb561 ≠ gb552)); have n16_ := zA.mk ((by rw [hg]; exact Nat.ne_of_lt (blk_lt (g := gb553) (o := .cells #[.int .i64 t543, .int .i64 t544, .int .u8 t545, .int .i64 t546, .int .i64 t547, .float .f64 t548] 35 (0, 0)) (aB BK553)) : gb553 ≠ gb561)); have n17_ := zA.mk ((by rw [hg]; exact Nat.ne_of_gt (blk_lt (g := gb553) (o := .cells #[.int .i64 t543, .int .i64 t544, .int .u8 t545, .int .i64 t546, .int .i64 t547, .float .f64 t548] 35 (0, 0)) (aB BK553)) : gb561 ≠ gb553)); clear HO_9; clear HO_10; clear HO_46; clear HO_553000; clear HO_553001; clear BK532; clear BK552; clear BK553; clear HB; have HO_9 := n0_; have HO_10 := n1_; have HO_46 := n2_; have HO_553000 := n3_; have HO_553001 := n4_; have BK532 := n5_; have BK552 := n6_; have BK553 := n7_; have HB := n8_; have BK561 := n9_; have GW561 := n10_; have GE561 := n11_; have NB532_561 := n12_; have NB561_532 := n13_; have NB552_561 := n14_; have NB561_552 := n15_; have NB553_561 := n16_; have NB561_553 := n17_; clear n0_ n1_ n2_ n3_ n4_ n5_ n6_ n7_ n8_ n9_ n10_ n11_ n12_ n13_ n14_ n15_ n16_ n17_; clear hb hbox hg; have hnb61 := NB561_532.out; have hnc61 := NB532_561.out; have hnb62 := NB561_552.out; have hnc62 := NB552_561.out; have hnb63 := NB561_553.out; have hnc63 := NB553_561.out; obtain ⟨hcz64_0, hcz64_1, hcz64_2, hcz64_3, hfz64_0, hfz64_1, hfz64_2, hfz64_3⟩ := aC4 BK561) | ((with_reducible refine gate_store (t := 45) (p := 12) rfl ?_); refine store_event (t := 45) (p := 12) (v := ?vo_w65) (w1 := ((((w60.setCell ⟨gb561, 0, none⟩ (.int .i64 ((rd_T45 t540 x48_2).f0))).setCell ⟨gb561, 1, none⟩ (.int .i64 ((rd_T45 t540 x48_2).f1))).setCell ⟨gb561, 2, none⟩ (.int .i64 ((rd_T45 t540 x48_2).f2))).setCell ⟨gb561, 3, none⟩ (.int .u8 ((rd_T45 t540 x48_2).f3)))) ?hg ?ho ?hn ?hr ?_; (case ho => rfl); (case hg => rfl); (case hn => rfl); (case hr => first | (go_simp; done) | (go_simp; rfl)); intro w65 hw; have n0_ : zA (Kd.S (Kd.slice 5 (Kd.int .u8)) 51 w65 w.heap.size (fun k_ => some k_ ≠ (v558 : Value).ownBlock) v555 t554) := ⟨(by rw [hw]; exact (by (with_reducible repeat (first | apply Kd.S_alloc | apply Kd.S_drewN | apply Kd.S_drew)); exact Kd.S_mono (Kd.S_far (p := ⟨gb561, 3, none⟩) (Kd.S_far (p := ⟨gb561, 2, none⟩) (Kd.S_far (p := ⟨gb561, 1, none⟩) (Kd.S_far (p := ⟨gb561, 0, none⟩) (Kd.S_types HO_9.out BK561.out (by decide)) (fun _ hk => hk.2) (.int .i64 ((rd_T45 t540 x48_2).f0))) (fun _ hk => hk.2) (.int .i64 ((rd_T45 t540 x48_2).f1))) (fun _ hk => hk.2) (.int .i64 ((rd_T45 t540 x48_2).f2))) (fun _ hk => hk.2) (.int .u8 ((rd_T45 t540 x48_2).f3))) (fun _ hk => hk.1)))⟩; have n1_ : zA (Kd.S (Kd.slice 5 (Kd.int .u8)) 51 w65 w.heap.size (fun k_ => some k_ ≠ (v555 : Value).ownBlock) v558 t557) := ⟨(by rw [hw]; exact (by (with_reducible repeat (first | apply Kd.S_alloc | apply Kd.S_drewN | apply Kd.S_drew)); exact Kd.S_mono (Kd.S_far (p := ⟨gb561, 3, none⟩) (Kd.S_far (p := ⟨gb561, 2, none⟩) (Kd.S_far (p := ⟨gb561, 1, none⟩) (Kd.S_far (p := ⟨gb561, 0, none⟩) (Kd.S_types HO_10.out BK561.out (by decide)) (fun _ hk => hk.2) (.int .i64 ((rd_T45 t540 x48_2).f0))) (fun _ hk => hk.2) (.int .i64 ((rd_T45 t540 x48_2).f1))) (fun _ hk => hk.2) (.int .i64 ((rd_T45 t540 x48_2).f2))) (fun _ hk => hk.2) (.int .u8 ((rd_T45 t540 x48_2).f3))) (fun _ hk => hk.1)))⟩; have n2_ : zA (Kd.R k45 45 w65 w.heap.size (fun k_ => k_ ≠ gb561) (.slice (some ad560) t540.length co26) t540) := ⟨(by rw [hw]; exact (by (with_reducible repeat (first | apply Kd.zI | apply Kd.zJ | apply Kd.zK)); exact Kd.zU (Kd.zR (p := ⟨gb561, 3, none⟩) (Kd.zR (p := ⟨gb561, 2, none⟩) (Kd.zR (p := ⟨gb561, 1, none⟩) (Kd.zR (p := ⟨gb561, 0, none⟩) (Kd.zU HO_46.out (fun k_ hk => (⟨hk, hk.2⟩ : _ ∧ k_ ≠ gb561))) (fun _ hk => hk.2) (.int .i64 ((rd_T45 t540 x48_2).f0))) (fun _ hk => hk.2) (.int .i64 ((rd_T45 t540 x48_2).f1))) (fun _ hk => hk.2) (.int .i64 ((rd_T45 t540 x48_2).f2))) (fun _ hk => hk.2) (.int .u8 ((rd_T45 t540 x48_2).f3))) (fun _ hk => hk.1.2)))⟩; have n3_ : zA (Kd.R k61 61 w65 w.heap.size (fun _ => True) (.slice Ao15 t534.length co15) t534) := ⟨(by rw [hw]; exact (by (with_reducible repeat (first | apply Kd.zI | apply Kd.zJ | apply Kd.zK)); exact Kd.zU (Kd.zR (p := ⟨gb561, 3, none⟩) (Kd.zR (p := ⟨gb561, 2, none⟩) (Kd.zR (p := ⟨gb561, 1, none⟩) (Kd.zR (p := ⟨gb561, 0, none⟩) (Kd.zV HO_553000.out BK561.out (by decide)) (fun _ hk => hk.2) (.int .i64 ((rd_T45 t540 x48_2).f0))) (fun _ hk => hk.2) (.int .i64 ((rd_T45 t540 x48_2).f1))) (fun _ hk => hk.2) (.int .i64 ((rd_T45 t540 x48_2).f2))) (fun _ hk => hk.2) (.int .u8 ((rd_T45 t540 x48_2).f3))) (fun _ hk => trivial)))⟩; have n4_ : zA (Kd.R (Kd.int .u8) 43 w65 w.heap.size (fun _ => True) (.slice Ao19 t537.length co19) t537) := ⟨(by rw [hw]; exact (by (with_reducible repeat (first | apply Kd.zI | apply Kd.zJ | apply Kd.zK)); exact Kd.zU (Kd.zR (p := ⟨gb561, 3, none⟩) (Kd.zR (p := ⟨gb561, 2, none⟩) (Kd.zR (p := ⟨gb561, 1, none⟩) (Kd.zR (p := ⟨gb561, 0, none⟩) (Kd.zV HO_553001.out BK561.out (by decide)) (fun _ hk => hk.2) (.int .i64 ((rd_T45 t540 x48_2).f0))) (fun _ hk => hk.2) (.int .i64 ((rd_T45 t540 x48_2).f1))) (fun _ hk => hk.2) (.int .i64 ((rd_T45 t540 x48_2).f2))) (fun _ hk => hk.2) (.int .u8 ((rd_T45 t540 x48_2).f3))) (fun _ hk => trivial)))⟩; have n5_ : zA (w65.heap[gb532]? = some (.cells #[.int .u8 a1_0, .int .u8 a1_1, .int .u8 a1_2, .int .u16 a1_3, .int .u16 a1_4, .float .f64 a1_5] 26 (0, 0))) := ⟨(by rw [hw]; exact (aB BK532))⟩; have n6_ : zA (w65.heap[gb552]? = some (.cells #[.slice Ao15 t534.length co15, .slice Ao19 t537.length co19] 31 (0, 0))) := ⟨(by rw [hw]; exact (aB BK552))⟩; have n7_ : zA (w65.heap[gb553]? = some (.cells #[.int .i64 t543, .int .i64 t544, .int .u8 t545, .int .i64 t546, .int .i64 t547, .float .f64 t548] 35 (0, 0))) := ⟨(by rw [hw]; exact (aB BK553))⟩; have n8_ : zA (w65.heap[gb561]? = some (.cells #[.int .i64 ((rd_T45 t540 x48_2).f0), .int .i64 ((rd_T45 t540 x48_2).f1), .int .i64 ((rd_T45 t540 x48_2).f2), .int .u8 ((rd_T45 t540 x48_2).f3)] 45 (0, 0))) := ⟨(by rw [hw]; exact (by (with_reducible repeat (first | refine zF ?_ _ | refine zD ?_ | refine zE ?_ _)); refine blk_put (cs := #[.int .i64 ((rd_T45 t540 x48_2).f0), .int .i64 ((rd_T45 t540 x48_2).f1), .int .i64 ((rd_T45 t540 x48_2).f2), .int .u8 0]) ?_ 3 _ rfl; (with_reducible repeat (first | refine zF ?_ _ | refine zD ?_ | refine zE ?_ _)); refine blk_put (cs := #[.int .i64 ((rd_T45 t540 x48_2).f0), .int .i64 ((rd_T45 t540 x48_2).f1), .int .i64 0, .int .u8 0]) ?_ 2 _ rfl; (with_reducible repeat (first | refine zF ?_ _ | refine zD ?_ | refine zE ?_ _)); refine blk_put (cs := #[.int .i64 ((rd_T45 t540 x48_2).f0), .int .i64 0, .int .i64 0, .int .u8 0]) ?_ 1 _ rfl; (with_reducible repeat (first | refine zF ?_ _ | refine zD ?_ | refine zE ?_ _)); refine blk_put (cs := #[.int .i64 0, .int .i64 0, .int .i64 0, .int .u8 0]) ?_ 0 _ rfl; (with_reducible repeat (first | refine zF ?_ _ | refine zD ?_ | refine zE ?_ _)); exact BK561.out))⟩; have n9_ : zA (Below w.heap.size w w65) := ⟨(by rw [hw]; exact (aL HB))⟩; clear hw; clear HO_9; clear HO_10; clear HO_46; clear HO_553000; clear HO_553001; clear BK532; clear BK552; clear BK553; clear BK561; clear HB; have HO_9 := n0_; have HO_10 := n1_; have HO_46 := n2_; have HO_553000 := n3_; have HO_553001 := n4_; have BK532 := n5_; have BK552 := n6_; have BK553 := n7_; have BK561 := n8_; have HB := n9_; clear n0_ n1_ n2_ n3_ n4_ n5_ n6_ n7_ n8_ n9_; obtain ⟨hcz66_0, hcz66_1, hcz66_2, hcz66_3, hfz66_0, hfz66_1, hfz66_2, hfz66_3⟩ := aC4 BK561))
   have n0_ := zA.mk (Kd.S_drew HO_9.out); have n1_ := zA.mk (Kd.S_drew HO_10.out); have n2_ := zA.mk (Kd.zK HO_46.out); have n3_ := zA.mk (Kd.zK HO_553000.out); have n4_ := zA.mk (Kd.zK HO_553001.out); have n5_ := zA.mk (zD BK532.out); have n6_ := zA.mk (zD BK552.out); have n7_ := zA.mk (zD BK553.out); have n8_ := zA.mk (zD BK561.out); have n9_ := zA.mk (below_drew1 HB.out); clear HO_9; clear HO_10; clear HO_46; clear HO_553000; clear HO_553001; clear BK532; clear BK552; clear BK553; clear BK561; clear HB; have HO_9 := n0_; have HO_10 := n1_; have HO_46 := n2_; have HO_553000 := n3_; have HO_553001 := n4_; have BK532 := n5_; have BK552 := n6_; have BK553 := n7_; have BK561 := n8_; have HB := n9_; clear n0_ n1_ n2_ n3_ n4_ n5_ n6_ n7_ n8_ n9_; obtain ⟨Ao68, co68, eo68⟩ := Kd.S_slice HO_9.out; (first | subst eo68 | (injection eo68 with f1_ f2_ f3_; have f4_ := f1_.symm; have f5_ := f3_.symm; clear f1_ f2_ f3_; subst f4_; subst f5_))
   have p566 : 0 ≤ (x48_2 : Int) := aD
   have q566 : x48_2 < (t554.length : Int) := aD
   obtain ⟨ad566, A566_0, c566_0, e566, hx566_0, hl566_0, hi566_0⟩ := at_L5 (Kd.S_reads' HO_9.out).2.2 x48_2 p566 q566; cases e566
   obtain ⟨ce566, hce566, hMe566, hcc566⟩ := Kd.S_get HO_9.out [] x48_2 p566 (by first | exact q566 | exact aD | (have e_ := (Kd.S_reads' HO_9.out).1; omega))
   obtain ⟨ve566_0, rfl, ge566_0⟩ := hMe566; have hv566_0 := hcc566 0 _ rfl; rw [Nat.add_zero, show ((Kd.slice 5 (Kd.int .u8))).sz = 1 from rfl, Nat.mul_one] at hv566_0; replace hv566_0 := Option.some.inj (hv566_0.symm.trans hx566_0); rw [hv566_0] at ge566_0; have HL566_0 := zA.mk (show Kd.R (Kd.int .u8) 5 _ _ _ _ (rd_L5 t554 x48_2) from ge566_0); clear hv566_0 ge566_0; clear hcc566 hce566; have HR566_0 := zA.mk hi566_0; have HC566_0 := zA.mk hl566_0; clear hi566_0 hl566_0; replace p566 := eq_true p566; replace q566 := eq_true q566; obtain ⟨Ao69, co69, eo69⟩ := Kd.S_slice HO_10.out; (first | subst eo69 | (injection eo69 with f1_ f2_ f3_; have f4_ := f1_.symm; have f5_ := f3_.symm; clear f1_ f2_ f3_; subst f4_; subst f5_))
   have p567 : 0 ≤ (x48_2 : Int) := aD
   have q567 : x48_2 < (t557.length : Int) := aD
   obtain ⟨ad567, A567_0, c567_0, e567, hx567_0, hl567_0, hi567_0⟩ := at_L5 (Kd.S_reads' HO_10.out).2.2 x48_2 p567 q567; cases e567
   obtain ⟨ce567, hce567, hMe567, hcc567⟩ := Kd.S_get HO_10.out [] x48_2 p567 (by first | exact q567 | exact aD | (have e_ := (Kd.S_reads' HO_10.out).1; omega))
   obtain ⟨ve567_0, rfl, ge567_0⟩ := hMe567; have hv567_0 := hcc567 0 _ rfl; rw [Nat.add_zero, show ((Kd.slice 5 (Kd.int .u8))).sz = 1 from rfl, Nat.mul_one] at hv567_0; replace hv567_0 := Option.some.inj (hv567_0.symm.trans hx567_0); rw [hv567_0] at ge567_0; have HL567_0 := zA.mk (show Kd.R (Kd.int .u8) 5 _ _ _ _ (rd_L5 t557 x48_2) from ge567_0); clear hv567_0 ge567_0; clear hcc567 hce567; have HR567_0 := zA.mk hi567_0; have HC567_0 := zA.mk hl567_0; clear hi567_0 hl567_0; replace p567 := eq_true p567; replace q567 := eq_true q567; have hcv70 := Kd.C_string (P := Try.prog) (A := A566_0) (c := c566_0) Try.underlying51 Try.underlying5 Try.underlying9 (aH HR566_0); have hcv71 := Kd.C_string (P := Try.prog) (A := A567_0) (c := c567_0) Try.underlying51 Try.underlying5 Try.underlying9 (aH HR567_0); have p568 : 0 ≤ (x48_2 : Int) := aD
   have q568 : x48_2 < (t557.length : Int) := aD
   obtain ⟨ad568, A568_0, c568_0, e568, hx568_0, hl568_0, hi568_0⟩ := at_L5 (Kd.S_reads' HO_10.out).2.2 x48_2 p568 q568; obtain rfl : ad567 = ad568 := (by injection e568)
   obtain ⟨ce568, hce568, hMe568, hcc568⟩ := Kd.S_get HO_10.out [] x48_2 p568 (by first | exact q568 | exact aD | (have e_ := (Kd.S_reads' HO_10.out).1; omega))
   obtain ⟨ve568_0, rfl, ge568_0⟩ := hMe568; have hv568_0 := hcc568 0 _ rfl; rw [Nat.add_zero, show ((Kd.slice 5 (Kd.int .u8))).sz = 1 from rfl, Nat.mul_one] at hv568_0; replace hv568_0 := Option.some.inj (hv568_0.symm.trans hx568_0); rw [hv568_0] at ge568_0; have HL568_0 := zA.mk (show Kd.R (Kd.int .u8) 5 _ _ _ _ (rd_L5 t557 x48_2) from ge568_0); clear hv568_0 ge568_0; clear hcc568 hce568; have HR568_0 := zA.mk hi568_0; have HC568_0 := zA.mk hl568_0; clear hi568_0 hl568_0; replace p568 := eq_true p568; replace q568 := eq_true q568; have p569 : 0 ≤ (x48_2 : Int) := aD
   have q569 : x48_2 < (t554.length : Int) := aD
   obtain ⟨ad569, A569_0, c569_0, e569, hx569_0, hl569_0, hi569_0⟩ := at_L5 (Kd.S_reads' HO_9.out).2.2 x48_2 p569 q569; obtain rfl : ad566 = ad569 := (by injection e569)
   obtain ⟨ce569, hce569, hMe569, hcc569⟩ := Kd.S_get HO_9.out [] x48_2 p569 (by first | exact q569 | exact aD | (have e_ := (Kd.S_reads' HO_9.out).1; omega))
   obtain ⟨ve569_0, rfl, ge569_0⟩ := hMe569; have hv569_0 := hcc569 0 _ rfl; rw [Nat.add_zero, show ((Kd.slice 5 (Kd.int .u8))).sz = 1 from rfl, Nat.mul_one] at hv569_0; replace hv569_0 := Option.some.inj (hv569_0.symm.trans hx569_0); rw [hv569_0] at ge569_0; have HL569_0 := zA.mk (show Kd.R (Kd.int .u8) 5 _ _ _ _ (rd_L5 t554 x48_2) from ge569_0); clear hv569_0 ge569_0; clear hcc569 hce569; have HR569_0 := zA.mk hi569_0; have HC569_0 := zA.mk hl569_0; clear hi569_0 hl569_0; replace p569 := eq_true p569; replace q569 := eq_true q569; refine start_ (n := 27) (S := fun w' => w'.cell? (ad566.add (x48_2).toNat) = some (.slice A566_0 (rd_L5 t554 x48_2).length c566_0) ∧ w'.cell? (ad567.add (x48_2).toNat) = some (.slice A567_0 (rd_L5 t557 x48_2).length c567_0) ∧ w'.cell? (ad567.add (x48_2).toNat) = some (.slice A568_0 (rd_L5 t557 x48_2).length c568_0) ∧ w'.cell? (ad566.add (x48_2).toNat) = some (.slice A569_0 (rd_L5 t554 x48_2).length c569_0) ∧ Kd.C (Kd.int .u8) w' A566_0 (rd_L5 t554 x48_2).length (rd_L5 t554 x48_2) ∧ Kd.C (Kd.int .u8) w' A567_0 (rd_L5 t557 x48_2).length (rd_L5 t557 x48_2)) (ds := []) #[false, false, false, false, false, false, false, false, false, false, false, false, false, false, false, false, false, false, false, false, false, false, false, false, false, false, false] (by kernel_rfl) rfl rfl ⟨hx566_0, hx567_0, hx568_0, hx569_0, aH HR566_0, aH HR567_0⟩ (fun hHeld => ?_); refine with_tabW stanzalaw22_DrawEnds.tab11 stanzalaw22_DrawEnds.bits11 (fun HT_ HW_ => ?_)
   generalize w65.drew = w67 at HO_9 HO_10 HO_46 HO_553000 HO_553001 BK532 BK552 BK553 BK561 HB HL566_0 HL567_0 HL568_0 HL569_0 HR566_0 HR567_0 HR568_0 HR569_0 hx566_0 hx567_0 hx568_0 hx569_0 hHeld ⊢
   refine aP 0 (some 61) (tf_ 1 27) HT_ ?_
   refine aP 1 (some 62) (tf_ 2 27) HT_ ?_
   refine aP 2 (some 63) (tf_ 3 27) HT_ ?_
   refine aP 3 (some 64) (tf_ 4 27) HT_ ?_
   refine aP 4 (some 65) (tf_ 5 27) HT_ ?_
   refine aP 7 (some 68) #[true, true, true, true, true, false, false, true, false, false, false, false, false, false, false, false, false, false, false, false, false, false, false, false, false, false, false] HT_ ?_
   refine aP 8 (some 69) #[true, true, true, true, true, false, false, true, true, false, false, false, false, false, false, false, false, false, false, false, false, false, false, false, false, false, false] HT_ ?_
   refine aP 9 (some 70) #[true, true, true, true, true, false, false, true, true, true, false, false, false, false, false, false, false, false, false, false, false, false, false, false, false, false, false] HT_ ?_
   refine take_ (i := 5) (N := some 66) (v := ?_) (a' := ?_) #[true, true, true, true, true, true, false, true, true, true, false, false, false, false, false, false, false, false, false, false, false, false, false, false, false, false, false] rfl rfl (take_ofW HT_.out HW_.out (by kernel_rfl)) (fun _ _ _ h => h) (Or.inl ⟨by rfl, ?_⟩) hHeld ?_ ?_
   rotate_left
   ·rintro w' ⟨s0, s1, s2, s3, s4, s5⟩
    go_simp
    with_reducible rfl
   rotate_left
   ·simp only [Act.put, sA_, sB_, sC_, i64_w, i32_w]
    rfl
   refine take_ (i := 6) (N := some 67) (v := ?_) (a' := ?_) (tf_ 10 27) rfl rfl (take_ofW HT_.out HW_.out (by kernel_rfl)) (fun _ _ _ h => h) (Or.inl ⟨by rfl, ?_⟩) hHeld ?_ ?_
   rotate_left
   ·rintro w' ⟨s0, s1, s2, s3, s4, s5⟩
    have hcv_ := Kd.C_string (P := Try.prog) (A := A566_0) (c := c566_0) Try.underlying51 Try.underlying5 Try.underlying9 s4; go_simp
    with_reducible rfl
   rotate_left
   ·simp only [Act.put, sA_, sB_, sC_, i64_w, i32_w]
    rfl
   refine take_ (i := 10) (N := some 71) (v := ?_) (a' := ?_) (tf_ 11 27) rfl rfl (take_ofW HT_.out HW_.out (by kernel_rfl)) (fun _ _ _ h => h) (Or.inl ⟨by rfl, ?_⟩) hHeld ?_ ?_
   rotate_left
   ·rintro w' ⟨s0, s1, s2, s3, s4, s5⟩
    go_simp
    with_reducible rfl
   rotate_left
   ·simp only [Act.put, sA_, sB_, sC_, i64_w, i32_w]
    rfl
   refine take_ (i := 11) (N := some 72) (v := ?_) (a' := ?_) (tf_ 12 27) rfl rfl (take_ofW HT_.out HW_.out (by kernel_rfl)) (fun _ _ _ h => h) (Or.inl ⟨by rfl, ?_⟩) hHeld ?_ ?_
   rotate_left
   ·rintro w' ⟨s0, s1, s2, s3, s4, s5⟩
    have hcv_ := Kd.C_string (P := Try.prog) (A := A567_0) (c := c567_0) Try.underlying51 Try.underlying5 Try.underlying9 s5; go_simp
    with_reducible rfl
   rotate_left
   ·simp only [Act.put, sA_, sB_, sC_, i64_w, i32_w]
    rfl
   refine aP 12 (some 73) (tf_ 13 27) HT_ ?_
   refine aP 13 (some 74) (tf_ 14 27) HT_ ?_
   refine aP 14 (some 75) (tf_ 15 27) HT_ ?_
   refine aP 15 (some 76) (tf_ 16 27) HT_ ?_
   refine aP 16 (some 77) (tf_ 17 27) HT_ ?_
   refine aP 17 (some 78) (tf_ 18 27) HT_ ?_
   refine aP 20 (some 81) #[true, true, true, true, true, true, true, true, true, true, true, true, true, true, true, true, true, true, false, false, true, false, false, false, false, false, false] HT_ ?_
   refine aP 21 (some 82) #[true, true, true, true, true, true, true, true, true, true, true, true, true, true, true, true, true, true, false, false, true, true, false, false, false, false, false] HT_ ?_
   refine aP 22 (some 83) #[true, true, true, true, true, true, true, true, true, true, true, true, true, true, true, true, true, true, false, false, true, true, true, false, false, false, false] HT_ ?_
   refine take_ (i := 18) (N := some 79) (v := ?_) (a' := ?_) #[true, true, true, true, true, true, true, true, true, true, true, true, true, true, true, true, true, true, true, false, true, true, true, false, false, false, false] rfl rfl (take_ofW HT_.out HW_.out (by kernel_rfl)) (fun _ _ _ h => h) (Or.inl ⟨by rfl, ?_⟩) hHeld ?_ ?_
   rotate_left
   ·rintro w' ⟨s0, s1, s2, s3, s4, s5⟩
    go_simp
    with_reducible rfl
   rotate_left
   ·simp only [Act.put, sA_, sB_, sC_, i64_w, i32_w]
    rfl
   refine aP 19 (some 80) (tf_ 23 27) HT_ ?_
   refine take_ (i := 23) (N := some 84) (v := ?_) (a' := ?_) (tf_ 24 27) rfl rfl (take_ofW HT_.out HW_.out (by kernel_rfl)) (fun _ _ _ h => h) (Or.inl ⟨by rfl, ?_⟩) hHeld ?_ ?_
   rotate_left
   ·rintro w' ⟨s0, s1, s2, s3, s4, s5⟩
    go_simp
    with_reducible rfl
   rotate_left
   ·simp only [Act.put, sA_, sB_, sC_, i64_w, i32_w]
    rfl
   refine aP 24 (some 85) (tf_ 25 27) HT_ ?_
   refine aP 25 (some 86) (tf_ 26 27) HT_ ?_
   refine aP 26 (some 87) #[true, true, true, true, true, true, true, true, true, true, true, true, true, true, true, true, true, true, true, true, true, true, true, true, true, true, true] HT_ ?_
   refine done_ (done_of HT_.out (by kernel_rfl)) ?_
   try go_wp2
   go_roundg k2
   case measure => have := HJ7.out; have := HK2.out; omega
   case rel => exact ⟨(wrap64 (x48_2 + 1)), aZ, H', ⟨by have := HJ7.out; have := HK2.out; omega⟩, ⟨aS HO_9⟩, ⟨aS HO_10⟩, ⟨by (with_reducible repeat (first | apply Kd.zI | apply Kd.zJ | apply Kd.zK)); exact Kd.zU HO_46.out (fun _ hk => trivial)⟩, ⟨aR HO_553000⟩, ⟨aR HO_553001⟩, ⟨aB BK532⟩, ⟨aB BK552⟩, ⟨aB BK553⟩, ⟨aL HB⟩⟩
def stanzalaw22_DrawEnds.Pure : Prop := ∀ (l0 : List (S49)) (a1_0 : Int) (a1_1 : Int) (a1_2 : Int) (a1_3 : Int) (a1_4 : Int) (a1_5 : Nat), (l0.length * 4 ≤ 140737488351232 ∧ ∀ y0 ∈ l0, ((Lit.int .u8 y0.f0).wf = true ∧ ((Lit.int .u8 y0.f1).wf = true ∧ ((Lit.int .u8 y0.f2).wf = true ∧ (Lit.int .u8 y0.f3).wf = true)))) → ((Lit.int .u8 a1_0).wf = true ∧ ((Lit.int .u8 a1_1).wf = true ∧ ((Lit.int .u8 a1_2).wf = true ∧ ((Lit.int .u16 a1_3).wf = true ∧ ((Lit.int .u16 a1_4).wf = true ∧ (Lit.float .f64 a1_5).wf = true))))) → ∃ k, stanzalaw22_DrawEnds.f k l0 a1_0 a1_1 a1_2 a1_3 a1_4 a1_5 = some true
mutual
def r3_Spread.j0 : Nat → Int → Int → Bool → Option (List Int)
 | 0, _, _, _ => none
 | k + 1, x0, x1, x22 => if x22 = true then (some ([] : List Int)) else (r3_Spread.l0 k x0 x1 ([] : List Int) 0 1)
def r3_Spread.l0 : Nat → Int → Int → List Int → Int → Int → Option (List Int)
 | 0, _, _, _, _, _ => none
 | k + 1, x0, x1, x5, x6, x7 => if x7 ≤ x1 then (if x1 = 0 then (none) else (if x5.length < 17592186044416 then (r3_Spread.l0 k x0 x1 (x5 ++ [wrap64 ((wrap64 (Int.tdiv (wrap64 (x0 * x7)) x1)) - x6)]) (wrap64 (Int.tdiv (wrap64 (x0 * x7)) x1)) (wrap64 (x7 + 1))) else (none))) else (some x5)
end
def r3_Spread.f (k : Nat) (a0 : Int) (a1 : Int) : Option (List Int) := if a0 < 0 then (r3_Spread.j0 k a0 a1 true) else (if a0 > 1048576 then (r3_Spread.j0 k a0 a1 true) else (if a1 < 1 then (r3_Spread.j0 k a0 a1 true) else (r3_Spread.j0 k a0 a1 (decide (a1 > 4096)))))
theorem r3_Spread.mono_l : ∀ k, (∀ y0 y1 y2, LeO (r3_Spread.j0 k y0 y1 y2) (r3_Spread.j0 (k + 1) y0 y1 y2)) ∧ (∀ y0 y1 y2 y3 y4, LeO (r3_Spread.l0 k y0 y1 y2 y3 y4) (r3_Spread.l0 (k + 1) y0 y1 y2 y3 y4))
 | 0 => ⟨fun _ _ _ r h => by simp [r3_Spread.j0] at h, fun _ _ _ _ _ r h => by simp [r3_Spread.l0] at h⟩
 | k + 1 => by
  obtain ⟨ih0, ih1⟩ := r3_Spread.mono_l k; refine ⟨?_, ?_⟩
  ·intro y0 y1 y2
   unfold r3_Spread.j0
   repeat' (with_reducible first | exact ih0 _ _ _ | exact ih1 _ _ _ _ _ | exact LeO.refl _ | exact LeO.none _ | refine LeO.ite ?_ ?_ | refine LeO.bind ?_ (fun _ => ?_))
  ·intro y0 y1 y2 y3 y4
   unfold r3_Spread.l0
   repeat' (with_reducible first | exact ih0 _ _ _ | exact ih1 _ _ _ _ _ | exact LeO.refl _ | exact LeO.none _ | refine LeO.ite ?_ ?_ | refine LeO.bind ?_ (fun _ => ?_))
theorem r3_Spread.mono : ∀ a0 a1 k, LeO (r3_Spread.f k a0 a1) (r3_Spread.f (k + 1) a0 a1) := by
 intro a0 a1 k
 obtain ⟨ih0, ih1⟩ := r3_Spread.mono_l k; unfold r3_Spread.f
 repeat' (with_reducible first | exact ih0 _ _ _ | exact ih1 _ _ _ _ _ | exact LeO.refl _ | exact LeO.none _ | refine LeO.ite ?_ ?_ | refine LeO.bind ?_ (fun _ => ?_))
set_option maxHeartbeats 8000000 in
set_option maxRecDepth 100000 in
theorem r3_Spread.calls (k : Nat) (a0 : Int) (a1 : Int) (r : List Int) (w : World) (h : r3_Spread.f k a0 a1 = some r) :
  Calls Try.prog 45 #[.int .i64 a0, .int .i64 a1] w fun e w' => ∃ v0_ : Value, e = .returned (v0_) ∧ Kd.R (Kd.int .i64) 3 w' w.heap.size (fun _ => True) v0_ r ∧ Below w.heap.size w w' := by
 have HB := zA.mk (Below.refl w.heap.size w); have H : (if a0 < 0 then (r3_Spread.j0 k a0 a1 true) else (if a0 > 1048576 then (r3_Spread.j0 k a0 a1 true) else (if a1 < 1 then (r3_Spread.j0 k a0 a1 true) else (r3_Spread.j0 k a0 a1 (decide (a1 > 4096)))))) = some r := h
 clear h; have HC3 := zA.mk H; clear H; go_enter Try.func45, Try.ntmps45
 go_upto_region 1 with (fail)
 go_cut [22] (fun v22 wc => ∃ (kq : Nat) (x22_2 : Bool), v22 = .bool x22_2 ∧ zA (r3_Spread.j0 kq a0 a1 x22_2 = some r) ∧ zA (kq ≤ k) ∧ zA (Below w.heap.size w wc))
 case first =>
  have H := HC3.out; clear HC3; by_cases c4 : a0 < 0
  ·rw [if_pos c4] at H
   have c4b0 : decide (a0 < 0) = true := decide_eq_true c4
   clear c4; (first | rw [c4b0] | (simp only [i64_w, i32_w]; rw [c4b0]) | skip)
   have H' := zA.mk H
   clear H; go_wp2
   go_meet
   case rel => exact ⟨_, (true), aZ, H', ⟨by first | omega | exact Nat.le_refl _⟩, ⟨aL HB⟩⟩
  rw [if_neg c4] at H; have c4b0 : decide (a0 < 0) = false := decide_eq_false c4
  clear c4; (first | rw [c4b0] | (simp only [i64_w, i32_w]; rw [c4b0]) | skip)
  by_cases c5 : a0 > 1048576
  ·rw [if_pos c5] at H
   have c5b0 : decide (1048576 < a0) = true := decide_eq_true c5
   clear c5; have H' := zA.mk H
   clear H; go_wp2
   go_meet
   case rel => exact ⟨_, (true), aZ, H', ⟨by first | omega | exact Nat.le_refl _⟩, ⟨aL HB⟩⟩
  rw [if_neg c5] at H; have c5b0 : decide (1048576 < a0) = false := decide_eq_false c5
  clear c5; by_cases c6 : a1 < 1
  ·rw [if_pos c6] at H
   have c6b0 : decide (a1 < 1) = true := decide_eq_true c6
   clear c6; have H' := zA.mk H
   clear H; go_wp2
   go_meet
   case rel => exact ⟨_, (true), aZ, H', ⟨by first | omega | exact Nat.le_refl _⟩, ⟨aL HB⟩⟩
  rw [if_neg c6] at H; have c6b0 : decide (a1 < 1) = false := decide_eq_false c6
  clear c6; have H' := zA.mk H
  clear H; go_wp2
  go_meet
  case rel => exact ⟨_, (decide (a1 > 4096)), aZ, H', ⟨by first | omega | exact Nat.le_refl _⟩, ⟨aL HB⟩⟩
 clear HC3; obtain ⟨kq, x22_2, rfl, HA, HJ2, HB⟩ := hcut; cases kq with
 | zero => exact absurd HA.out (by simp [r3_Spread.j0])
 | succ kj2 =>
  have H := HA.out; clear HA; simp only [r3_Spread.j0] at H; by_cases c7 : x22_2 = true
  ·subst c7
   have H1 : (some ([] : List Int)) = some r := by rw [if_pos rfl] at H; exact H
   clear H; have H := H1; clear H1; obtain rfl := Option.some.inj H
   go_wp2
   go_ret
   exact ⟨_, aX, by first | exact Kd.R_nil _ _ _ _ _ | exact Kd.N_nil _ _ _ _ _ | exact Kd.V_nil _ _ _ _ _ | exact Kd.Q_nil _ _ _ _ _ | exact Kd.S_nil _ _ _ _ _, aL HB⟩
  replace c7 := Bool.eq_false_iff.mpr c7; subst c7; have H1 : (r3_Spread.l0 kj2 a0 a1 ([] : List Int) 0 1) = some r := by rw [if_neg (show ¬ (false = true) by decide)] at H; exact H
  clear H; have H := H1; clear H1; have H' := zA.mk H
  clear H; go_wp2
  go_loopg [5, 6, 7] kj2 (fun kq v5 v6 v7 w' => ∃ (x5_2 : List Int) (x6_2 : Int) (x7_2 : Int), v6 = .int .i64 x6_2 ∧ v7 = .int .i64 x7_2 ∧ zA (r3_Spread.l0 kq a0 a1 x5_2 x6_2 x7_2 = some r) ∧ zA (kq ≤ kj2) ∧ zA (Kd.R (Kd.int .i64) 3 w' w.heap.size (fun _ => True) v5 x5_2) ∧ zA (Below w.heap.size w w'))
  case atStart => exact ⟨(([] : List Int)), (0), (1), aZ, aZ, H', ⟨Nat.le_refl _⟩, ⟨by first | exact Kd.R_nil _ _ _ _ _ | exact Kd.N_nil _ _ _ _ _ | exact Kd.V_nil _ _ _ _ _ | exact Kd.Q_nil _ _ _ _ _ | exact Kd.S_nil _ _ _ _ _⟩, ⟨aL HB⟩⟩
  clear H'; obtain ⟨x5_2, x6_2, x7_2, rfl, rfl, HA, HK2, HO_5, HB⟩ := hrel; cases gk with
  | zero => exact absurd HA.out (by simp [r3_Spread.l0])
  | succ k2 =>
   have H := HA.out; clear HA; simp only [r3_Spread.l0] at H; by_cases c8 : x7_2 ≤ a1
   rotate_left
   ·rw [if_neg c8] at H
    have c8b0 : decide (x7_2 ≤ a1) = false := decide_eq_false c8
    clear c8; obtain rfl := Option.some.inj H
    go_wp2
    go_ret
    exact ⟨_, aX, aR HO_5, aL HB⟩
   rw [if_pos c8] at H; have c8b0 : decide (x7_2 ≤ a1) = true := decide_eq_true c8
   clear c8; by_cases c9 : a1 = 0
   ·rw [if_pos c9] at H
    exact absurd H (by simp)
   rw [if_neg c9] at H; have c9b0 : (a1 == 0) = false := beq_eq_false_iff_ne.mpr c9
   have c9b1 : (a1 != 0) = true := bne_iff_ne.mpr c9
   by_cases c10 : x5_2.length < 17592186044416
   rotate_left
   ·rw [if_neg c10] at H
    exact absurd H (by simp)
   rw [if_pos c10] at H; have LMc10 := zA.mk c10; clear c10; obtain ⟨y400, hy400⟩ : ∃ y_ : List Int, y_ = (x5_2 ++ [wrap64 ((wrap64 (Int.tdiv (wrap64 (a0 * x7_2)) a1)) - x6_2)]) := ⟨_, rfl⟩; replace H : (r3_Spread.l0 k2 a0 a1 y400 (wrap64 (Int.tdiv (wrap64 (a0 * x7_2)) a1)) (wrap64 (x7_2 + 1))) = some r := by first | (rw [hy400]; with_reducible exact H) | (have H2_ := (Option.bind_some _ _).symm.trans H; rw [hy400]; with_reducible exact H2_) | (have H2_ := (Option.bind_some _ _).symm.trans H; with_reducible exact H2_) | with_reducible exact H | (rw [hy400]; exact H) | exact H
   have Ny400 := zA.mk hy400; clear hy400; have H' := zA.mk H
   clear H; go_wp2_with (first | ((with_reducible refine gate_builtin (b := .append) (xs := #[.tmp 33, .tmp 37]) rfl ?_); at_builtin; refine Kd.R_append (Kd.int .i64) (w0 := w) w.heap.size rfl (.tmp 33) (.tmp 37) 37 3 (.int .i64 0) 8 rfl Try.underlying37 info3 rfl (by decide) (by omega) u5 x5_2 (wrap64 ((wrap64 (Int.tdiv (wrap64 (a0 * x7_2)) a1)) - x6_2)) [.int .i64 (wrap64 ((wrap64 (Int.tdiv (wrap64 (a0 * x7_2)) a1)) - x6_2))] (fun _ => True) (fun _ => False) rfl rfl ?aP (fun _ hk => hk.elim) ?aF ?aO ?aB ?aS ?aL ?_; (case aP => exact rfl); (case aB => exact (aL HB)); (case aF => exact (fun _ _ => trivial)); (case aO => exact (aR HO_5)); (case aS => exact (zG (aL HB))); (case aL => have := LMc10.out; omega); intro v401 w11 ho hb hg hat; rw [← Ny400.out] at ho; replace HB := zA.mk (hb); have HO402 := zA.mk (ho); clear HO_5; clear ho hb hg hat))
   go_roundg k2
   case measure => have := HJ2.out; have := HK2.out; omega
   case rel => exact ⟨(y400), (wrap64 (Int.tdiv (wrap64 (a0 * x7_2)) a1)), (wrap64 (x7_2 + 1)), aZ, aZ, H', ⟨by have := HJ2.out; have := HK2.out; omega⟩, ⟨aR HO402⟩, ⟨aL HB⟩⟩
end Go.Proofs.Ytfeidhmkmbgnoaa.F
end
