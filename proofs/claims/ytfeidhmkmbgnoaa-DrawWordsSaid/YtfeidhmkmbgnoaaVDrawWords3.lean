/- Printed by a program: Lean functions that answer as the Go functions do, and the proofs of it. -/
import Derived.Test.YtfeidhmkmbgnoaaXDrawWords0
import Derived.Test.YtfeidhmkmbgnoaaVDrawWords0
import Derived.Test.YtfeidhmkmbgnoaaVDrawWords1
import Derived.Test.YtfeidhmkmbgnoaaVDrawWords2
section
namespace Go.Proofs.Ytfeidhmkmbgnoaa.F
open Go.RowKit Go.Proofs.YtfeidhmkmbgnoaaW.PrintWords Go.Proofs.YtfeidhmkmbgnoaaW.PrintLast Go.Proofs.YtfeidhmkmbgnoaaW.PrintMore
attribute [local go_sem] max2_int min2_int max_two min_two max_three min_three max_four min_four   -- for this text's walks alone
set_option linter.unusedVariables false
set_option linter.unusedSimpArgs false
mutual
def stanzalaw22_DrawWords.l0 : Nat → List (S45) → List Int → List (List Int) → Int → Int → List (S61) → List Int → Option (Bool)
 | 0, _, _, _, _, _, _, _ => none
 | k + 1, x8, x10, x35, x36, x37, x421000, x421001 => if x37 < x36 then (if 0 ≤ x37 then (if x37 < (x35.length : Int) then (if x37 < (x8.length : Int) then ((r3_Trim.f k x421000 x421001 ((rd_T45 x8 x37).f0) ((rd_T45 x8 x37).f1)).bind fun t428 => (if 0 ≤ ((rd_T45 x8 x37).f0) then (if ((rd_T45 x8 x37).f0) ≤ t428 then (if t428 ≤ (x421000.length : Int) then ((some ((x421000.take (t428 : Int).toNat).drop (((rd_T45 x8 x37).f0) : Int).toNat : List (S61))).bind fun y429 => (stanzalaw22_DrawWords.l1 k x8 x10 (rd_L5 x35 x37) ([] : List Int) x35 x36 x37 y429 (y429.length : Int) 0 x421000 x421001 ((rd_T45 x8 x37).f0) ((rd_T45 x8 x37).f1) ((rd_T45 x8 x37).f2) ((rd_T45 x8 x37).f3))) else (none)) else (none)) else (none))) else (none)) else (none)) else (none)) else (some true)
def stanzalaw22_DrawWords.l1 : Nat → List (S45) → List Int → List Int → List Int → List (List Int) → Int → Int → List (S61) → Int → Int → List (S61) → List Int → Int → Int → Int → Int → Option (Bool)
 | 0, _, _, _, _, _, _, _, _, _, _, _, _, _, _, _, _ => none
 | k + 1, x8, x10, x12, x14, x35, x36, x37, x56, x57, x58, x421000, x421001, x428000, x428001, x428002, x428003 => if x58 < x57 then (if 0 ≤ x58 then (if x58 < (x56.length : Int) then (if ((rd_T61 x56 x58).f3) = 0 then (if 0 ≤ ((rd_T61 x56 x58).f0) then (if ((rd_T61 x56 x58).f0) ≤ (wrap64 (((rd_T61 x56 x58).f0) + ((rd_T61 x56 x58).f1))) then (if (wrap64 (((rd_T61 x56 x58).f0) + ((rd_T61 x56 x58).f1))) ≤ (x10.length : Int) then ((some ((x10.take ((wrap64 (((rd_T61 x56 x58).f0) + ((rd_T61 x56 x58).f1))) : Int).toNat).drop (((rd_T61 x56 x58).f0) : Int).toNat : List Int)).bind fun y435 => (if x14.length + y435.length < 140737488355328 then (stanzalaw22_DrawWords.l1 k x8 x10 x12 (x14 ++ y435) x35 x36 x37 x56 x57 (wrap64 (x58 + 1)) x421000 x421001 x428000 x428001 x428002 x428003) else (none))) else (none)) else (none)) else (none)) else (stanzalaw22_DrawWords.l1 k x8 x10 x12 x14 x35 x36 x37 x56 x57 (wrap64 (x58 + 1)) x421000 x421001 x428000 x428001 x428002 x428003)) else (none)) else (none)) else (stanzalaw22_DrawWords.l2 k x8 x10 x12 x14 ([] : List Int) x35 x36 x37 x12 (x12.length : Int) 0 x421000 x421001 x428000 x428001 x428002 x428003)
def stanzalaw22_DrawWords.l2 : Nat → List (S45) → List Int → List Int → List Int → List Int → List (List Int) → Int → Int → List Int → Int → Int → List (S61) → List Int → Int → Int → Int → Int → Option (Bool)
 | 0, _, _, _, _, _, _, _, _, _, _, _, _, _, _, _, _, _ => none
 | k + 1, x8, x10, x12, x14, x15, x35, x36, x37, x77, x78, x79, x421000, x421001, x428000, x428001, x428002, x428003 => if x79 < x78 then (if 0 ≤ x79 then (if x79 < (x77.length : Int) then (if (rd x77 x79) = 32 then (stanzalaw22_DrawWords.l2 k x8 x10 x12 x14 x15 x35 x36 x37 x77 x78 (wrap64 (x79 + 1)) x421000 x421001 x428000 x428001 x428002 x428003) else (if (rd x77 x79) = 45 then (stanzalaw22_DrawWords.l2 k x8 x10 x12 x14 x15 x35 x36 x37 x77 x78 (wrap64 (x79 + 1)) x421000 x421001 x428000 x428001 x428002 x428003) else (if x15.length < 140737488355328 then (stanzalaw22_DrawWords.l2 k x8 x10 x12 x14 (x15 ++ [rd x77 x79]) x35 x36 x37 x77 x78 (wrap64 (x79 + 1)) x421000 x421001 x428000 x428001 x428002 x428003) else (none)))) else (none)) else (none)) else (if (strOfNums x15).toList = (strOfNums x14).toList then (if x428003 = 3 then (if (x12.length : Int) = 0 then (some false) else (if 0 ≤ (wrap64 ((x12.length : Int) - 1)) then (if (wrap64 ((x12.length : Int) - 1)) < (x12.length : Int) then (if (rd x12 (wrap64 ((x12.length : Int) - 1))) = 45 then (stanzalaw22_DrawWords.l0 k x8 x10 x35 x36 (wrap64 (x37 + 1)) x421000 x421001) else (some false)) else (none)) else (none))) else (stanzalaw22_DrawWords.l0 k x8 x10 x35 x36 (wrap64 (x37 + 1)) x421000 x421001)) else (some false))
end
def stanzalaw22_DrawWords.f (k : Nat) (l0 : List (S49)) (a1_0 : Int) (a1_1 : Int) (a1_2 : Int) (a1_3 : Int) (a1_4 : Int) (a1_5 : Nat) (a2 : Bool) : Option (Bool) := (stanzalaw22_Awake.f k).bind fun t401 => (if t401 = true then ((stanzalaw22_lined.f k l0 a1_0 a1_1 a1_2 a1_3 a1_4 a1_5).bind fun bt402 => ((draw_All.f k bt402.2.2.2.2.2.2.2.2.2 bt402.1 bt402.2.1 bt402.2.2.1 bt402.2.2.2.1 bt402.2.2.2.2.1 bt402.2.2.2.2.2.1 bt402.2.2.2.2.2.2.1 bt402.2.2.2.2.2.2.2.1 bt402.2.2.2.2.2.2.2.2.1 a2).bind fun t422 => (stanzalaw22_DrawWords.l0 k bt402.2.2.1 bt402.2.2.2.2.2.2.2.2.2 t422 (t422.length : Int) 0 bt402.1 bt402.2.1))) else (some false))
theorem stanzalaw22_DrawWords.mono_l : ∀ k, (∀ y0 y1 y2 y3 y4 y5 y6, LeO (stanzalaw22_DrawWords.l0 k y0 y1 y2 y3 y4 y5 y6) (stanzalaw22_DrawWords.l0 (k + 1) y0 y1 y2 y3 y4 y5 y6)) ∧ (∀ y0 y1 y2 y3 y4 y5 y6 y7 y8 y9 y10 y11 y12 y13 y14 y15, LeO (stanzalaw22_DrawWords.l1 k y0 y1 y2 y3 y4 y5 y6 y7 y8 y9 y10 y11 y12 y13 y14 y15) (stanzalaw22_DrawWords.l1 (k + 1) y0 y1 y2 y3 y4 y5 y6 y7 y8 y9 y10 y11 y12 y13 y14 y15)) ∧ (∀ y0 y1 y2 y3 y4 y5 y6 y7 y8 y9 y10 y11 y12 y13 y14 y15 y16, LeO (stanzalaw22_DrawWords.l2 k y0 y1 y2 y3 y4 y5 y6 y7 y8 y9 y10 y11 y12 y13 y14 y15 y16) (stanzalaw22_DrawWords.l2 (k + 1) y0 y1 y2 y3 y4 y5 y6 y7 y8 y9 y10 y11 y12 y13 y14 y15 y16))
 | 0 => ⟨fun _ _ _ _ _ _ _ r h => by simp [stanzalaw22_DrawWords.l0] at h, fun _ _ _ _ _ _ _ _ _ _ _ _ _ _ _ _ r h => by simp [stanzalaw22_DrawWords.l1] at h, fun _ _ _ _ _ _ _ _ _ _ _ _ _ _ _ _ _ r h => by simp [stanzalaw22_DrawWords.l2] at h⟩
 | k + 1 => by
  obtain ⟨ih0, ih1, ih2⟩ := stanzalaw22_DrawWords.mono_l k; refine ⟨?_, ?_, ?_⟩
  ·intro y0 y1 y2 y3 y4 y5 y6
   unfold stanzalaw22_DrawWords.l0
   repeat' (with_reducible first | exact ih0 _ _ _ _ _ _ _ | exact ih1 _ _ _ _ _ _ _ _ _ _ _ _ _ _ _ _ | exact ih2 _ _ _ _ _ _ _ _ _ _ _ _ _ _ _ _ _ | exact draw_All.mono _ _ _ _ _ _ _ _ _ _ _ _ | exact stanzalaw22_Awake.mono _ | exact stanzalaw22_lined.mono _ _ _ _ _ _ _ _ | exact r3_Trim.mono _ _ _ _ _ | exact LeO.refl _ | exact LeO.none _ | refine LeO.ite ?_ ?_ | refine LeO.bind ?_ (fun _ => ?_))
  ·intro y0 y1 y2 y3 y4 y5 y6 y7 y8 y9 y10 y11 y12 y13 y14 y15
   unfold stanzalaw22_DrawWords.l1
   repeat' (with_reducible first | exact ih0 _ _ _ _ _ _ _ | exact ih1 _ _ _ _ _ _ _ _ _ _ _ _ _ _ _ _ | exact ih2 _ _ _ _ _ _ _ _ _ _ _ _ _ _ _ _ _ | exact draw_All.mono _ _ _ _ _ _ _ _ _ _ _ _ | exact stanzalaw22_Awake.mono _ | exact stanzalaw22_lined.mono _ _ _ _ _ _ _ _ | exact r3_Trim.mono _ _ _ _ _ | exact LeO.refl _ | exact LeO.none _ | refine LeO.ite ?_ ?_ | refine LeO.bind ?_ (fun _ => ?_))
  ·intro y0 y1 y2 y3 y4 y5 y6 y7 y8 y9 y10 y11 y12 y13 y14 y15 y16
   unfold stanzalaw22_DrawWords.l2
   repeat' (with_reducible first | exact ih0 _ _ _ _ _ _ _ | exact ih1 _ _ _ _ _ _ _ _ _ _ _ _ _ _ _ _ | exact ih2 _ _ _ _ _ _ _ _ _ _ _ _ _ _ _ _ _ | exact draw_All.mono _ _ _ _ _ _ _ _ _ _ _ _ | exact stanzalaw22_Awake.mono _ | exact stanzalaw22_lined.mono _ _ _ _ _ _ _ _ | exact r3_Trim.mono _ _ _ _ _ | exact LeO.refl _ | exact LeO.none _ | refine LeO.ite ?_ ?_ | refine LeO.bind ?_ (fun _ => ?_))
theorem stanzalaw22_DrawWords.mono : ∀ a0 a1 a2 a3 a4 a5 a6 a7 k, LeO (stanzalaw22_DrawWords.f k a0 a1 a2 a3 a4 a5 a6 a7) (stanzalaw22_DrawWords.f (k + 1) a0 a1 a2 a3 a4 a5 a6 a7) := by
 intro a0 a1 a2 a3 a4 a5 a6 a7 k
 obtain ⟨ih0, ih1, ih2⟩ := stanzalaw22_DrawWords.mono_l k; unfold stanzalaw22_DrawWords.f
 repeat' (with_reducible first | exact ih0 _ _ _ _ _ _ _ | exact ih1 _ _ _ _ _ _ _ _ _ _ _ _ _ _ _ _ | exact ih2 _ _ _ _ _ _ _ _ _ _ _ _ _ _ _ _ _ | exact draw_All.mono _ _ _ _ _ _ _ _ _ _ _ _ | exact stanzalaw22_Awake.mono _ | exact stanzalaw22_lined.mono _ _ _ _ _ _ _ _ | exact r3_Trim.mono _ _ _ _ _ | exact LeO.refl _ | exact LeO.none _ | refine LeO.ite ?_ ?_ | refine LeO.bind ?_ (fun _ => ?_))
def stanzalaw22_DrawWords.T9 : Bool × List (List Nat × List Nat) := (true, [([], []), ([0], [0]), ([], []), ([2], [2]), ([], []), ([], []), ([5], [5]), ([], []), ([7], [7]), ([4, 6, 8], [4, 6, 8]), ([1, 3, 9], [1, 3, 9]), ([10], [10]), ([], [])])
def stanzalaw22_DrawWords.B9 : List Nat := [0, 1, 0, 4, 0, 0, 32, 0, 128, 496, 1023, 2047, 0]
theorem stanzalaw22_DrawWords.tab9 : rtab .any (opsOf Try.f10 9) = stanzalaw22_DrawWords.T9 := by kernel_rfl
theorem stanzalaw22_DrawWords.bits9 : waitsOk stanzalaw22_DrawWords.T9.2 stanzalaw22_DrawWords.B9 = true := by kernel_rfl
set_option maxHeartbeats 8000000 in
set_option maxRecDepth 100000 in
theorem stanzalaw22_DrawWords.calls (k : Nat) (A0 : Option Addr) (c0 : Nat) (l0 : List (S49)) (a1_0 : Int) (a1_1 : Int) (a1_2 : Int) (a1_3 : Int) (a1_4 : Int) (a1_5 : Nat) (a2 : Bool) (r : Bool) (w : World) (hr0 : Kd.C k49 w A0 l0.length l0) (hc0 : l0.length ≤ c0) (h : stanzalaw22_DrawWords.f k l0 a1_0 a1_1 a1_2 a1_3 a1_4 a1_5 a2 = some r) (hrt_ : zA (r = true)) :
  Calls Try.prog 10 #[.slice A0 l0.length c0, .agg #[.int .u8 a1_0, .int .u8 a1_1, .int .u8 a1_2, .int .u16 a1_3, .int .u16 a1_4, .float .f64 a1_5], .bool a2] w fun e w' => e = .returned (.bool r) ∧ Below w.heap.size w w' := by
 have hu26 := Try.underlying26; have hu31 := Try.underlying31; have hu35 := Try.underlying35; have hu45 := Try.underlying45; have hu61 := Try.underlying61; have HR0 := zA.mk hr0; have HC0 := zA.mk hc0; clear hr0 hc0; have HB := zA.mk (Below.refl w.heap.size w); have H : ((stanzalaw22_Awake.f k).bind fun t401 => (if t401 = true then ((stanzalaw22_lined.f k l0 a1_0 a1_1 a1_2 a1_3 a1_4 a1_5).bind fun bt402 => ((draw_All.f k bt402.2.2.2.2.2.2.2.2.2 bt402.1 bt402.2.1 bt402.2.2.1 bt402.2.2.2.1 bt402.2.2.2.2.1 bt402.2.2.2.2.2.1 bt402.2.2.2.2.2.2.1 bt402.2.2.2.2.2.2.2.1 bt402.2.2.2.2.2.2.2.2.1 a2).bind fun t422 => (stanzalaw22_DrawWords.l0 k bt402.2.2.1 bt402.2.2.2.2.2.2.2.2.2 t422 (t422.length : Int) 0 bt402.1 bt402.2.1))) else (some false))) = some r := h
 clear h; replace H := Option.bind_eq_some_iff.mp H; obtain ⟨t401, A40, H⟩ := H; replace H : (if t401 = true then ((stanzalaw22_lined.f k l0 a1_0 a1_1 a1_2 a1_3 a1_4 a1_5).bind fun bt402 => ((draw_All.f k bt402.2.2.2.2.2.2.2.2.2 bt402.1 bt402.2.1 bt402.2.2.1 bt402.2.2.2.1 bt402.2.2.2.2.1 bt402.2.2.2.2.2.1 bt402.2.2.2.2.2.2.1 bt402.2.2.2.2.2.2.2.1 bt402.2.2.2.2.2.2.2.2.1 a2).bind fun t422 => (stanzalaw22_DrawWords.l0 k bt402.2.2.1 bt402.2.2.2.2.2.2.2.2.2 t422 (t422.length : Int) 0 bt402.1 bt402.2.1))) else (some false)) = some r := H
 have A4 := zA.mk A40; clear A40; by_cases c5 : t401 = true
 rotate_left
 ·replace c5 := Bool.eq_false_iff.mpr c5
  subst c5; have H1 : (some false) = some r := by rw [if_neg (show ¬ (false = true) by decide)] at H; exact H
  clear H; have H := H1; clear H1; exact absurd ((Option.some.inj H).trans hrt_.out) (by decide)
 subst c5; have H1 : ((stanzalaw22_lined.f k l0 a1_0 a1_1 a1_2 a1_3 a1_4 a1_5).bind fun bt402 => ((draw_All.f k bt402.2.2.2.2.2.2.2.2.2 bt402.1 bt402.2.1 bt402.2.2.1 bt402.2.2.2.1 bt402.2.2.2.2.1 bt402.2.2.2.2.2.1 bt402.2.2.2.2.2.2.1 bt402.2.2.2.2.2.2.2.1 bt402.2.2.2.2.2.2.2.2.1 a2).bind fun t422 => (stanzalaw22_DrawWords.l0 k bt402.2.2.1 bt402.2.2.2.2.2.2.2.2.2 t422 (t422.length : Int) 0 bt402.1 bt402.2.1))) = some r := by rw [if_pos rfl] at H; exact H
 clear H; have H := H1; clear H1; replace H := Option.bind_eq_some_iff.mp H; obtain ⟨⟨t402, t405, t408, t411, t412, t413, t414, t415, t416, t417⟩, A60, H⟩ := H; replace H : ((draw_All.f k t417 t402 t405 t408 t411 t412 t413 t414 t415 t416 a2).bind fun t422 => (stanzalaw22_DrawWords.l0 k t408 t417 t422 (t422.length : Int) 0 t402 t405)) = some r := H
 have A6 := zA.mk A60; clear A60; replace H := Option.bind_eq_some_iff.mp H; obtain ⟨t422, A70, H⟩ := H; replace H : (stanzalaw22_DrawWords.l0 k t408 t417 t422 (t422.length : Int) 0 t402 t405) = some r := H; have A7 := zA.mk A70; clear A70; have H' := zA.mk H
 clear H; go_enter Try.func10, Try.ntmps10
 go_wp2_with (first | ((with_reducible refine gate_dst (N := 4) rfl ?_); (try (refine gate_guard (by rfl) ?_; dsimp only)); refine box_event ?hg (N := 4) ?hd (cs := #[.int .u8 a1_0, .int .u8 a1_1, .int .u8 a1_2, .int .u16 a1_3, .int .u16 a1_4, .float .f64 a1_5]) (t := 26) ?hr ?_; (case hd => rfl); (case hg => rfl); (case hr => first | (go_simp; done) | (go_simp; rfl)); intro gb400 hg w8 hbox hb; have n0_ := zA.mk (zH (aL HB) hb); have n1_ := zA.mk (hbox); have n2_ := zA.mk ((by rw [hg]; exact (zE (aL HB)) : w.heap.size ≤ gb400)); have n3_ := zA.mk ((by rw [hg]; exact (zE (aL HB)) : w.heap.size ≤ gb400)); clear HB; have HB := n0_; have BK400 := n1_; have GW400 := n2_; have GE400 := n3_; clear n0_ n1_ n2_ n3_; clear hb hbox hg) | ((with_reducible refine gate_callee (f := 21) rfl ?_); refine goesL_ (some 20) rfl rfl Try.func21 (by kernel_rfl) rfl #[] rfl aT ?_; (with_reducible refine (stanzalaw22_Awake.calls k  true _ A4.out (by first | exact ⟨rfl⟩ | exact hrt_)).mono ?_); rintro e w9 ⟨rfl, hb⟩; refine ⟨_, rfl, ?_⟩; have n0_ := zA.mk (zB (g := gb400) (o := .cells #[.int .u8 a1_0, .int .u8 a1_1, .int .u8 a1_2, .int .u16 a1_3, .int .u16 a1_4, .float .f64 a1_5] 26 (0, 0)) (aB BK400) hb); have n1_ := zA.mk (zH (aL HB) hb); clear BK400; clear HB; have BK400 := n0_; have HB := n1_; clear n0_ n1_; (try clear hb); (try clear hb2); (try clear hk); (try clear hi); obtain ⟨hcz10_0, hcz10_1, hcz10_2, hcz10_3, hcz10_4, hcz10_5, hfz10_0, hfz10_1, hfz10_2, hfz10_3, hfz10_4, hfz10_5⟩ := aC6 BK400) | ((with_reducible refine gate_callee (f := 22) rfl ?_); refine goesL_ (some 25) rfl rfl Try.func22 (by kernel_rfl) rfl #[.slice A0 l0.length c0, .agg #[.int .u8 a1_0, .int .u8 a1_1, .int .u8 a1_2, .int .u16 a1_3, .int .u16 a1_4, .float .f64 a1_5]] rfl aT ?_; (with_reducible refine (stanzalaw22_lined.calls k _ _ l0 a1_0 a1_1 a1_2 a1_3 a1_4 a1_5 t402 t405 t408 t411 t412 t413 t414 t415 t416 t417 _ ?side1 ?side2 A6.out).mono ?_); (case side1 => exact aA HR0 HB); (case side2 => exact HC0.out); rintro e w11 ⟨v403, v406, v409, v418, rfl, ho0, ho1, ho2, ho3, hb⟩; refine ⟨_, rfl, ?_⟩; have n0_ := zA.mk (Kd.zT ho0 (zE (aL HB))); have n1_ := zA.mk (Kd.zT ho1 (zE (aL HB))); have n2_ := zA.mk (Kd.zT ho2 (zE (aL HB))); have n3_ := zA.mk (Kd.zT ho3 (zE (aL HB))); have n4_ := zA.mk (zB (g := gb400) (o := .cells #[.int .u8 a1_0, .int .u8 a1_1, .int .u8 a1_2, .int .u16 a1_3, .int .u16 a1_4, .float .f64 a1_5] 26 (0, 0)) (aB BK400) hb); have n5_ := zA.mk (zH (aL HB) hb); clear BK400; clear HB; have HO404 := n0_; have HO407 := n1_; have HO410 := n2_; have HO419 := n3_; have BK400 := n4_; have HB := n5_; clear n0_ n1_ n2_ n3_ n4_ n5_; (try clear hb); (try clear hb2); (try clear hk); (try clear hi); (try clear ho0); (try clear ho1); (try clear ho2); (try clear ho3)) | ((with_reducible refine gate_dst (N := 7) rfl ?_); (try (refine gate_guard (by rfl) ?_; dsimp only)); refine box_event ?hg (N := 7) ?hd (cs := #[.slice none 0 0, .slice none 0 0]) (t := 31) ?hr ?_; (case hd => rfl); (case hg => rfl); (case hr => first | (go_simp; done) | (go_simp; rfl)); intro gb420 hg w12 hbox hb; have n0_ := zA.mk (Kd.zQ (aR HO404) hb); have n1_ := zA.mk (Kd.zQ (aR HO407) hb); have n2_ := zA.mk (Kd.zQ (aR HO410) hb); have n3_ := zA.mk (Kd.zQ (aR HO419) hb); have n4_ := zA.mk (zB (g := gb400) (o := .cells #[.int .u8 a1_0, .int .u8 a1_1, .int .u8 a1_2, .int .u16 a1_3, .int .u16 a1_4, .float .f64 a1_5] 26 (0, 0)) (aB BK400) hb); have n5_ := zA.mk (zH (aL HB) hb); have n6_ := zA.mk (hbox); have n7_ := zA.mk ((by rw [hg]; exact (zE (aL HB)) : w.heap.size ≤ gb420)); have n8_ := zA.mk ((by rw [hg]; exact (zE (aL HB)) : w.heap.size ≤ gb420)); have n9_ := zA.mk ((by rw [hg]; exact Nat.ne_of_lt (blk_lt (g := gb400) (o := .cells #[.int .u8 a1_0, .int .u8 a1_1, .int .u8 a1_2, .int .u16 a1_3, .int .u16 a1_4, .float .f64 a1_5] 26 (0, 0)) (aB BK400)) : gb400 ≠ gb420)); have n10_ := zA.mk ((by rw [hg]; exact Nat.ne_of_gt (blk_lt (g := gb400) (o := .cells #[.int .u8 a1_0, .int .u8 a1_1, .int .u8 a1_2, .int .u16 a1_3, .int .u16 a1_4, .float .f64 a1_5] 26 (0, 0)) (aB BK400)) : gb420 ≠ gb400)); clear HO404; clear HO407; clear HO410; clear HO419; clear BK400; clear HB; have HO404 := n0_; have HO407 := n1_; have HO410 := n2_; have HO419 := n3_; have BK400 := n4_; have HB := n5_; have BK420 := n6_; have GW420 := n7_; have GE420 := n8_; have NB400_420 := n9_; have NB420_400 := n10_; clear n0_ n1_ n2_ n3_ n4_ n5_ n6_ n7_ n8_ n9_ n10_; clear hb hbox hg) | ((with_reducible refine gate_dst (N := 9) rfl ?_); (try (refine gate_guard (by rfl) ?_; dsimp only)); refine box_event ?hg (N := 9) ?hd (cs := #[.int .i64 0, .int .i64 0, .int .u8 0, .int .i64 0, .int .i64 0, .float .f64 0]) (t := 35) ?hr ?_; (case hd => rfl); (case hg => rfl); (case hr => first | (go_simp; done) | (go_simp; rfl)); intro gb421 hg w13 hbox hb; have n0_ := zA.mk (Kd.zQ (aR HO404) hb); have n1_ := zA.mk (Kd.zQ (aR HO407) hb); have n2_ := zA.mk (Kd.zQ (aR HO410) hb); have n3_ := zA.mk (Kd.zQ (aR HO419) hb); have n4_ := zA.mk (zB (g := gb400) (o := .cells #[.int .u8 a1_0, .int .u8 a1_1, .int .u8 a1_2, .int .u16 a1_3, .int .u16 a1_4, .float .f64 a1_5] 26 (0, 0)) (aB BK400) hb); have n5_ := zA.mk (zB (g := gb420) (o := .cells #[.slice none 0 0, .slice none 0 0] 31 (0, 0)) (aB BK420) hb); have n6_ := zA.mk (zH (aL HB) hb); have n7_ := zA.mk (hbox); have n8_ := zA.mk ((by rw [hg]; exact (zE (aL HB)) : w.heap.size ≤ gb421)); have n9_ := zA.mk ((by rw [hg]; exact (zE (aL HB)) : w.heap.size ≤ gb421)); have n10_ := zA.mk ((by rw [hg]; exact Nat.ne_of_lt (blk_lt (g := gb400) (o := .cells #[.int .u8 a1_0, .int .u8 a1_1, .int .u8 a1_2, .int .u16 a1_3, .int .u16 a1_4, .float .f64 a1_5] 26 (0, 0)) (aB BK400)) : gb400 ≠ gb421)); have n11_ := zA.mk ((by rw [hg]; exact Nat.ne_of_gt (blk_lt (g := gb400) (o := .cells #[.int .u8 a1_0, .int .u8 a1_1, .int .u8 a1_2, .int .u16 a1_3, .int .u16 a1_4, .float .f64 a1_5] 26 (0, 0)) (aB BK400)) : gb421 ≠ gb400)); have n12_ := zA.mk ((by rw [hg]; exact Nat.ne_of_lt (blk_lt (g := gb420) (o := .cells #[.slice none 0 0, .slice none 0 0] 31 (0, 0)) (aB BK420)) : gb420 ≠ gb421)); have n13_ := zA.mk ((by rw [hg]; exact Nat.ne_of_gt (blk_lt (g := gb420) (o := .cells #[.slice none 0 0, .slice none 0 0] 31 (0, 0)) (aB BK420)) : gb421 ≠ gb420)); clear HO404; clear HO407; clear HO410; clear HO419; clear BK400; clear BK420; clear HB; have HO404 := n0_; have HO407 := n1_; have HO410 := n2_; have HO419 := n3_; have BK400 := n4_; have BK420 := n5_; have HB := n6_; have BK421 := n7_; have GW421 := n8_; have GE421 := n9_; have NB400_421 := n10_; have NB421_400 := n11_; have NB420_421 := n12_; have NB421_420 := n13_; clear n0_ n1_ n2_ n3_ n4_ n5_ n6_ n7_ n8_ n9_ n10_ n11_ n12_ n13_; clear hb hbox hg; obtain ⟨Ao14, co14, eo14⟩ := Kd.zS HO404.out; subst eo14; have hnb15 := NB420_400.out; have hnc15 := NB400_420.out; have hnb16 := NB420_421.out; have hnc16 := NB421_420.out; obtain ⟨hcz17_0, hcz17_1, hfz17_0, hfz17_1⟩ := aC2 BK420; obtain ⟨Ao18, co18, eo18⟩ := Kd.zS HO407.out; subst eo18) | ((with_reducible refine gate_store (t := 31) (p := 7) rfl ?_); refine store_event (t := 31) (p := 7) (v := ?vo_w19) (w1 := ((w13.setCell ⟨gb420, 0, none⟩ (.slice Ao14 t402.length co14)).setCell ⟨gb420, 1, none⟩ (.slice Ao18 t405.length co18))) ?hg ?ho ?hn ?hr ?_; (case ho => rfl); (case hg => rfl); (case hn => rfl); (case hr => first | (go_simp; done) | (go_simp; rfl)); intro w19 hw; have n0_ : zA (Kd.R k61 61 w19 w.heap.size (fun _ => True) (.slice Ao14 t402.length co14) t402) := ⟨(by rw [hw]; exact (by (with_reducible repeat (first | apply Kd.zI | apply Kd.zJ | apply Kd.zK)); exact Kd.zU (Kd.zR (p := ⟨gb420, 1, none⟩) (Kd.zR (p := ⟨gb420, 0, none⟩) (Kd.zV HO404.out BK420.out (by decide)) (fun _ hk => hk.2) (.slice Ao14 t402.length co14)) (fun _ hk => hk.2) (.slice Ao18 t405.length co18)) (fun _ hk => trivial)))⟩; have n1_ : zA (Kd.R (Kd.int .u8) 43 w19 w.heap.size (fun _ => True) (.slice Ao18 t405.length co18) t405) := ⟨(by rw [hw]; exact (by (with_reducible repeat (first | apply Kd.zI | apply Kd.zJ | apply Kd.zK)); exact Kd.zU (Kd.zR (p := ⟨gb420, 1, none⟩) (Kd.zR (p := ⟨gb420, 0, none⟩) (Kd.zV HO407.out BK420.out (by decide)) (fun _ hk => hk.2) (.slice Ao14 t402.length co14)) (fun _ hk => hk.2) (.slice Ao18 t405.length co18)) (fun _ hk => trivial)))⟩; have n2_ : zA (Kd.R k45 45 w19 w.heap.size (fun _ => True) v409 t408) := ⟨(by rw [hw]; exact (by (with_reducible repeat (first | apply Kd.zI | apply Kd.zJ | apply Kd.zK)); exact Kd.zU (Kd.zR (p := ⟨gb420, 1, none⟩) (Kd.zR (p := ⟨gb420, 0, none⟩) (Kd.zV HO410.out BK420.out (by decide)) (fun _ hk => hk.2) (.slice Ao14 t402.length co14)) (fun _ hk => hk.2) (.slice Ao18 t405.length co18)) (fun _ hk => trivial)))⟩; have n3_ : zA (Kd.R (Kd.int .u8) 5 w19 w.heap.size (fun _ => True) v418 t417) := ⟨(by rw [hw]; exact (by (with_reducible repeat (first | apply Kd.zI | apply Kd.zJ | apply Kd.zK)); exact Kd.zU (Kd.zR (p := ⟨gb420, 1, none⟩) (Kd.zR (p := ⟨gb420, 0, none⟩) (Kd.zV HO419.out BK420.out (by decide)) (fun _ hk => hk.2) (.slice Ao14 t402.length co14)) (fun _ hk => hk.2) (.slice Ao18 t405.length co18)) (fun _ hk => trivial)))⟩; have n4_ : zA (w19.heap[gb400]? = some (.cells #[.int .u8 a1_0, .int .u8 a1_1, .int .u8 a1_2, .int .u16 a1_3, .int .u16 a1_4, .float .f64 a1_5] 26 (0, 0))) := ⟨(by rw [hw]; exact (aB BK400))⟩; have n5_ : zA (w19.heap[gb420]? = some (.cells #[.slice Ao14 t402.length co14, .slice Ao18 t405.length co18] 31 (0, 0))) := ⟨(by rw [hw]; exact (by (with_reducible repeat (first | refine zF ?_ _ | refine zD ?_ | refine zG ?_ _)); refine blk_put (cs := #[.slice Ao14 t402.length co14, .slice none 0 0]) ?_ 1 _ rfl; (with_reducible repeat (first | refine zF ?_ _ | refine zD ?_ | refine zG ?_ _)); refine blk_put (cs := #[.slice none 0 0, .slice none 0 0]) ?_ 0 _ rfl; (with_reducible repeat (first | refine zF ?_ _ | refine zD ?_ | refine zG ?_ _)); exact BK420.out))⟩; have n6_ : zA (w19.heap[gb421]? = some (.cells #[.int .i64 0, .int .i64 0, .int .u8 0, .int .i64 0, .int .i64 0, .float .f64 0] 35 (0, 0))) := ⟨(by rw [hw]; exact (aB BK421))⟩; have n7_ : zA (Below w.heap.size w w19) := ⟨(by rw [hw]; exact (aL HB))⟩; clear hw; clear HO404; clear HO407; clear HO410; clear HO419; clear BK400; clear BK420; clear BK421; clear HB; have HO404 := n0_; have HO407 := n1_; have HO410 := n2_; have HO419 := n3_; have BK400 := n4_; have BK420 := n5_; have BK421 := n6_; have HB := n7_; clear n0_ n1_ n2_ n3_ n4_ n5_ n6_ n7_; have hnb20 := NB421_400.out; have hnc20 := NB400_421.out; obtain ⟨hcz21_0, hcz21_1, hcz21_2, hcz21_3, hcz21_4, hcz21_5, hfz21_0, hfz21_1, hfz21_2, hfz21_3, hfz21_4, hfz21_5⟩ := aC6 BK421) | ((with_reducible refine gate_store (t := 35) (p := 9) rfl ?_); refine store_event (t := 35) (p := 9) (v := ?vo_w22) (w1 := ((((((w19.setCell ⟨gb421, 0, none⟩ (.int .i64 t411)).setCell ⟨gb421, 1, none⟩ (.int .i64 t412)).setCell ⟨gb421, 2, none⟩ (.int .u8 t413)).setCell ⟨gb421, 3, none⟩ (.int .i64 t414)).setCell ⟨gb421, 4, none⟩ (.int .i64 t415)).setCell ⟨gb421, 5, none⟩ (.float .f64 t416))) ?hg ?ho ?hn ?hr ?_; (case ho => rfl); (case hg => rfl); (case hn => rfl); (case hr => first | (go_simp; done) | (go_simp; rfl)); intro w22 hw; have n0_ : zA (Kd.R k61 61 w22 w.heap.size (fun _ => True) (.slice Ao14 t402.length co14) t402) := ⟨(by rw [hw]; exact (by (with_reducible repeat (first | apply Kd.zI | apply Kd.zJ | apply Kd.zK)); exact Kd.zU (Kd.zR (p := ⟨gb421, 5, none⟩) (Kd.zR (p := ⟨gb421, 4, none⟩) (Kd.zR (p := ⟨gb421, 3, none⟩) (Kd.zR (p := ⟨gb421, 2, none⟩) (Kd.zR (p := ⟨gb421, 1, none⟩) (Kd.zR (p := ⟨gb421, 0, none⟩) (Kd.zV HO404.out BK421.out (by decide)) (fun _ hk => hk.2) (.int .i64 t411)) (fun _ hk => hk.2) (.int .i64 t412)) (fun _ hk => hk.2) (.int .u8 t413)) (fun _ hk => hk.2) (.int .i64 t414)) (fun _ hk => hk.2) (.int .i64 t415)) (fun _ hk => hk.2) (.float .f64 t416)) (fun _ hk => trivial)))⟩; have n1_ : zA (Kd.R (Kd.int .u8) 43 w22 w.heap.size (fun _ => True) (.slice Ao18 t405.length co18) t405) := ⟨(by rw [hw]; exact (by (with_reducible repeat (first | apply Kd.zI | apply Kd.zJ | apply Kd.zK)); exact Kd.zU (Kd.zR (p := ⟨gb421, 5, none⟩) (Kd.zR (p := ⟨gb421, 4, none⟩) (Kd.zR (p := ⟨gb421, 3, none⟩) (Kd.zR (p := ⟨gb421, 2, none⟩) (Kd.zR (p := ⟨gb421, 1, none⟩) (Kd.zR (p := ⟨gb421, 0, none⟩) (Kd.zV HO407.out BK421.out (by decide)) (fun _ hk => hk.2) (.int .i64 t411)) (fun _ hk => hk.2) (.int .i64 t412)) (fun _ hk => hk.2) (.int .u8 t413)) (fun _ hk => hk.2) (.int .i64 t414)) (fun _ hk => hk.2) (.int .i64 t415)) (fun _ hk => hk.2) (.float .f64 t416)) (fun _ hk => trivial)))⟩; have n2_ : zA (Kd.R k45 45 w22 w.heap.size (fun _ => True) v409 t408) := ⟨(by rw [hw]; exact (by (with_reducible repeat (first | apply Kd.zI | apply Kd.zJ | apply Kd.zK)); exact Kd.zU (Kd.zR (p := ⟨gb421, 5, none⟩) (Kd.zR (p := ⟨gb421, 4, none⟩) (Kd.zR (p := ⟨gb421, 3, none⟩) (Kd.zR (p := ⟨gb421, 2, none⟩) (Kd.zR (p := ⟨gb421, 1, none⟩) (Kd.zR (p := ⟨gb421, 0, none⟩) (Kd.zV HO410.out BK421.out (by decide)) (fun _ hk => hk.2) (.int .i64 t411)) (fun _ hk => hk.2) (.int .i64 t412)) (fun _ hk => hk.2) (.int .u8 t413)) (fun _ hk => hk.2) (.int .i64 t414)) (fun _ hk => hk.2) (.int .i64 t415)) (fun _ hk => hk.2) (.float .f64 t416)) (fun _ hk => trivial)))⟩; have n3_ : zA (Kd.R (Kd.int .u8) 5 w22 w.heap.size (fun _ => True) v418 t417) := ⟨(by rw [hw]; exact (by (with_reducible repeat (first | apply Kd.zI | apply Kd.zJ | apply Kd.zK)); exact Kd.zU (Kd.zR (p := ⟨gb421, 5, none⟩) (Kd.zR (p := ⟨gb421, 4, none⟩) (Kd.zR (p := ⟨gb421, 3, none⟩) (Kd.zR (p := ⟨gb421, 2, none⟩) (Kd.zR (p := ⟨gb421, 1, none⟩) (Kd.zR (p := ⟨gb421, 0, none⟩) (Kd.zV HO419.out BK421.out (by decide)) (fun _ hk => hk.2) (.int .i64 t411)) (fun _ hk => hk.2) (.int .i64 t412)) (fun _ hk => hk.2) (.int .u8 t413)) (fun _ hk => hk.2) (.int .i64 t414)) (fun _ hk => hk.2) (.int .i64 t415)) (fun _ hk => hk.2) (.float .f64 t416)) (fun _ hk => trivial)))⟩; have n4_ : zA (w22.heap[gb400]? = some (.cells #[.int .u8 a1_0, .int .u8 a1_1, .int .u8 a1_2, .int .u16 a1_3, .int .u16 a1_4, .float .f64 a1_5] 26 (0, 0))) := ⟨(by rw [hw]; exact (aB BK400))⟩; have n5_ : zA (w22.heap[gb420]? = some (.cells #[.slice Ao14 t402.length co14, .slice Ao18 t405.length co18] 31 (0, 0))) := ⟨(by rw [hw]; exact (aB BK420))⟩; have n6_ : zA (w22.heap[gb421]? = some (.cells #[.int .i64 t411, .int .i64 t412, .int .u8 t413, .int .i64 t414, .int .i64 t415, .float .f64 t416] 35 (0, 0))) := ⟨(by rw [hw]; exact (by (with_reducible repeat (first | refine zF ?_ _ | refine zD ?_ | refine zG ?_ _)); refine blk_put (cs := #[.int .i64 t411, .int .i64 t412, .int .u8 t413, .int .i64 t414, .int .i64 t415, .float .f64 0]) ?_ 5 _ rfl; (with_reducible repeat (first | refine zF ?_ _ | refine zD ?_ | refine zG ?_ _)); refine blk_put (cs := #[.int .i64 t411, .int .i64 t412, .int .u8 t413, .int .i64 t414, .int .i64 0, .float .f64 0]) ?_ 4 _ rfl; (with_reducible repeat (first | refine zF ?_ _ | refine zD ?_ | refine zG ?_ _)); refine blk_put (cs := #[.int .i64 t411, .int .i64 t412, .int .u8 t413, .int .i64 0, .int .i64 0, .float .f64 0]) ?_ 3 _ rfl; (with_reducible repeat (first | refine zF ?_ _ | refine zD ?_ | refine zG ?_ _)); refine blk_put (cs := #[.int .i64 t411, .int .i64 t412, .int .u8 0, .int .i64 0, .int .i64 0, .float .f64 0]) ?_ 2 _ rfl; (with_reducible repeat (first | refine zF ?_ _ | refine zD ?_ | refine zG ?_ _)); refine blk_put (cs := #[.int .i64 t411, .int .i64 0, .int .u8 0, .int .i64 0, .int .i64 0, .float .f64 0]) ?_ 1 _ rfl; (with_reducible repeat (first | refine zF ?_ _ | refine zD ?_ | refine zG ?_ _)); refine blk_put (cs := #[.int .i64 0, .int .i64 0, .int .u8 0, .int .i64 0, .int .i64 0, .float .f64 0]) ?_ 0 _ rfl; (with_reducible repeat (first | refine zF ?_ _ | refine zD ?_ | refine zG ?_ _)); exact BK421.out))⟩; have n7_ : zA (Below w.heap.size w w22) := ⟨(by rw [hw]; exact (aL HB))⟩; clear hw; clear HO404; clear HO407; clear HO410; clear HO419; clear BK400; clear BK420; clear BK421; clear HB; have HO404 := n0_; have HO407 := n1_; have HO410 := n2_; have HO419 := n3_; have BK400 := n4_; have BK420 := n5_; have BK421 := n6_; have HB := n7_; clear n0_ n1_ n2_ n3_ n4_ n5_ n6_ n7_; obtain ⟨hcz23_0, hcz23_1, hfz23_0, hfz23_1⟩ := aC2 BK420; obtain ⟨hcz24_0, hcz24_1, hcz24_2, hcz24_3, hcz24_4, hcz24_5, hfz24_0, hfz24_1, hfz24_2, hfz24_3, hfz24_4, hfz24_5⟩ := aC6 BK421; obtain ⟨Ao25, co25, eo25⟩ := Kd.zS HO419.out; subst eo25; obtain ⟨Ao26, co26, eo26⟩ := Kd.zS HO410.out; subst eo26) | ((with_reducible refine gate_callee (f := 23) rfl ?_); refine goesL_ (some 35) rfl rfl Try.func23 (by kernel_rfl) rfl #[.slice Ao25 t417.length co25, .agg #[.slice Ao14 t402.length co14, .slice Ao18 t405.length co18], .slice Ao26 t408.length co26, .agg #[.int .i64 t411, .int .i64 t412, .int .u8 t413, .int .i64 t414, .int .i64 t415, .float .f64 t416], .bool a2] rfl aT ?_; (with_reducible refine (draw_All.calls k _ _ t417 _ _ t402 _ _ t405 _ _ t408 t411 t412 t413 t414 t415 t416 a2 t422 _ ?side1 ?side2 ?side3 ?side4 ?side5 ?side6 ?side7 ?side8 A7.out).mono ?_); (case side1 => exact aF HO419); (case side2 => exact (Kd.zP HO419.out).2.1); (case side3 => exact aF HO404); (case side4 => exact (Kd.zP HO404.out).2.1); (case side5 => exact aF HO407); (case side6 => exact (Kd.zP HO407.out).2.1); (case side7 => exact aF HO410); (case side8 => exact (Kd.zP HO410.out).2.1); rintro e w27 ⟨v423, rfl, ho0, hb⟩; refine ⟨_, rfl, ?_⟩; have n0_ := zA.mk (Kd.zQ (aR HO404) hb); have n1_ := zA.mk (Kd.zQ (aR HO407) hb); have n2_ := zA.mk (Kd.zQ (aR HO410) hb); have n3_ := zA.mk (Kd.zQ (aR HO419) hb); have n4_ := zA.mk (Kd.S_lower (Kd.S_new' ho0 (Kd.R_lt (aR HO419))) (zE (aL HB))); have n5_ := zA.mk (zB (g := gb400) (o := .cells #[.int .u8 a1_0, .int .u8 a1_1, .int .u8 a1_2, .int .u16 a1_3, .int .u16 a1_4, .float .f64 a1_5] 26 (0, 0)) (aB BK400) hb); have n6_ := zA.mk (zB (g := gb420) (o := .cells #[.slice Ao14 t402.length co14, .slice Ao18 t405.length co18] 31 (0, 0)) (aB BK420) hb); have n7_ := zA.mk (zB (g := gb421) (o := .cells #[.int .i64 t411, .int .i64 t412, .int .u8 t413, .int .i64 t414, .int .i64 t415, .float .f64 t416] 35 (0, 0)) (aB BK421) hb); have n8_ := zA.mk (zH (aL HB) hb); clear HO404; clear HO407; clear HO410; clear HO419; clear BK400; clear BK420; clear BK421; clear HB; have HO404 := n0_; have HO407 := n1_; have HO410 := n2_; have HO419 := n3_; have HO424 := n4_; have BK400 := n5_; have BK420 := n6_; have BK421 := n7_; have HB := n8_; clear n0_ n1_ n2_ n3_ n4_ n5_ n6_ n7_ n8_; (try clear hb); (try clear hb2); (try clear hk); (try clear hi); (try clear ho0); obtain ⟨Ao28, co28, eo28⟩ := Kd.S_slice HO424.out; subst eo28))
 go_loopg [37] k (fun kq v37 w' => ∃ (x37_1 : Int), v37 = .int .i64 x37_1 ∧ zA (stanzalaw22_DrawWords.l0 kq t408 t417 t422 (t422.length : Int) x37_1 t402 t405 = some r) ∧ zA (kq ≤ k) ∧ zA (Kd.R k45 45 w' w.heap.size (fun _ => True) (.slice Ao26 t408.length co26) t408) ∧ zA (Kd.R (Kd.int .u8) 5 w' w.heap.size (fun _ => True) (.slice Ao25 t417.length co25) t417) ∧ zA (Kd.S (Kd.slice 5 (Kd.int .u8)) 51 w' w.heap.size (fun _ => True) (.slice Ao28 t422.length co28) t422) ∧ zA (Kd.R k61 61 w' w.heap.size (fun _ => True) (.slice Ao14 t402.length co14) t402) ∧ zA (Kd.R (Kd.int .u8) 43 w' w.heap.size (fun _ => True) (.slice Ao18 t405.length co18) t405) ∧ zA (w'.heap[gb400]? = some (.cells #[.int .u8 a1_0, .int .u8 a1_1, .int .u8 a1_2, .int .u16 a1_3, .int .u16 a1_4, .float .f64 a1_5] 26 (0, 0))) ∧ zA (w'.heap[gb420]? = some (.cells #[(.slice Ao14 t402.length co14), (.slice Ao18 t405.length co18)] 31 (0, 0))) ∧ zA (w'.heap[gb421]? = some (.cells #[.int .i64 t411, .int .i64 t412, .int .u8 t413, .int .i64 t414, .int .i64 t415, .float .f64 t416] 35 (0, 0))) ∧ zA (Below w.heap.size w w'))
 case atStart => exact ⟨(0), aZ, H', ⟨Nat.le_refl _⟩, ⟨aR HO410⟩, ⟨aR HO419⟩, ⟨by (with_reducible repeat (first | apply Kd.S_alloc | apply Kd.S_drewN | apply Kd.S_drew)); exact Kd.S_mono HO424.out (fun _ hk => trivial)⟩, ⟨aR HO404⟩, ⟨aR HO407⟩, ⟨aB BK400⟩, ⟨aB BK420⟩, ⟨aB BK421⟩, ⟨aL HB⟩⟩
 clear H'; try clear c1
 try clear c2
 try clear p2
 try clear c5
 try clear c10
 try clear c15
 try clear c16
 try clear c20
 try clear c21
 try clear c22
 try clear c23
 try clear hcz10_0
 try clear hcz10_1
 try clear hcz10_2
 try clear hcz10_3
 try clear hcz10_4
 try clear hcz10_5
 try clear hcz17_0
 try clear hcz17_1
 try clear hcz21_0
 try clear hcz21_1
 try clear hcz21_2
 try clear hcz21_3
 try clear hcz21_4
 try clear hcz21_5
 try clear hcz23_0
 try clear hcz23_1
 try clear hcz24_0
 try clear hcz24_1
 try clear hcz24_2
 try clear hcz24_3
 try clear hcz24_4
 try clear hcz24_5
 try clear hfz10_0
 try clear hfz10_1
 try clear hfz10_2
 try clear hfz10_3
 try clear hfz10_4
 try clear hfz10_5
 try clear hfz17_0
 try clear hfz17_1
 try clear hfz21_0
 try clear hfz21_1
 try clear hfz21_2
 try clear hfz21_3
 try clear hfz21_4
 try clear hfz21_5
 try clear hfz23_0
 try clear hfz23_1
 try clear hfz24_0
 try clear hfz24_1
 try clear hfz24_2
 try clear hfz24_3
 try clear hfz24_4
 try clear hfz24_5
 obtain ⟨x37_1, rfl, HA, HK1, HO_8, HO_10, HO_35, HO_421000, HO_421001, BK400, BK420, BK421, HB⟩ := hrel; cases gk with
 | zero => exact absurd HA.out (by simp [stanzalaw22_DrawWords.l0])
 | succ k1 =>
  have H := HA.out; clear HA; simp only [stanzalaw22_DrawWords.l0] at H; by_cases c29 : x37_1 < (t422.length : Int)
  rotate_left
  ·rw [if_neg c29] at H
   have c29b0 : decide (x37_1 < (t422.length : Int)) = false := decide_eq_false c29
   clear c29; obtain rfl := Option.some.inj H
   go_wp2
   go_ret
   exact ⟨aX, aL HB⟩
  rw [if_pos c29] at H; have c29b0 : decide (x37_1 < (t422.length : Int)) = true := decide_eq_true c29
  clear c29; by_cases c30 : 0 ≤ x37_1
  rotate_left
  ·rw [if_neg c30] at H
   exact absurd H (by simp)
  rw [if_pos c30] at H; have c30b0 : decide (0 ≤ x37_1) = true := decide_eq_true c30
  clear c30; by_cases c31 : x37_1 < (t422.length : Int)
  rotate_left
  ·rw [if_neg c31] at H
   exact absurd H (by simp)
  rw [if_pos c31] at H; have c31b0 : decide (x37_1 < (t422.length : Int)) = true := decide_eq_true c31
  clear c31; by_cases c32 : x37_1 < (t408.length : Int)
  rotate_left
  ·rw [if_neg c32] at H
   exact absurd H (by simp)
  rw [if_pos c32] at H; have c32b0 : decide (x37_1 < (t408.length : Int)) = true := decide_eq_true c32
  clear c32; replace H := Option.bind_eq_some_iff.mp H; obtain ⟨t428, A330, H⟩ := H; replace H : (if 0 ≤ ((rd_T45 t408 x37_1).f0) then (if ((rd_T45 t408 x37_1).f0) ≤ t428 then (if t428 ≤ (t402.length : Int) then ((some ((t402.take (t428 : Int).toNat).drop (((rd_T45 t408 x37_1).f0) : Int).toNat : List (S61))).bind fun y429 => (stanzalaw22_DrawWords.l1 k1 t408 t417 (rd_L5 t422 x37_1) ([] : List Int) t422 (t422.length : Int) x37_1 y429 (y429.length : Int) 0 t402 t405 ((rd_T45 t408 x37_1).f0) ((rd_T45 t408 x37_1).f1) ((rd_T45 t408 x37_1).f2) ((rd_T45 t408 x37_1).f3))) else (none)) else (none)) else (none)) = some r := H
  have A33 := zA.mk A330; clear A330; by_cases c34 : 0 ≤ ((rd_T45 t408 x37_1).f0)
  rotate_left
  ·rw [if_neg c34] at H
   exact absurd H (by simp)
  rw [if_pos c34] at H; have c34b0 := eq_true c34; have c34b1 : decide (0 ≤ ((rd_T45 t408 x37_1).f0)) = true := decide_eq_true c34
  clear c34; by_cases c35 : ((rd_T45 t408 x37_1).f0) ≤ t428
  rotate_left
  ·rw [if_neg c35] at H
   exact absurd H (by simp)
  rw [if_pos c35] at H; have c35b0 := eq_true c35; have c35b1 : decide (((rd_T45 t408 x37_1).f0) ≤ t428) = true := decide_eq_true c35
  clear c35; by_cases c36 : t428 ≤ (t402.length : Int)
  rotate_left
  ·rw [if_neg c36] at H
   exact absurd H (by simp)
  rw [if_pos c36] at H; have c36b0 := eq_true c36; have c36b1 : decide (t428 ≤ (t402.length : Int)) = true := decide_eq_true c36
  clear c36; obtain ⟨y429, hy429⟩ : ∃ y_ : List (S61), y_ = ((t402.take (t428 : Int).toNat).drop (((rd_T45 t408 x37_1).f0) : Int).toNat) := ⟨_, rfl⟩; replace H : (stanzalaw22_DrawWords.l1 k1 t408 t417 (rd_L5 t422 x37_1) ([] : List Int) t422 (t422.length : Int) x37_1 y429 (y429.length : Int) 0 t402 t405 ((rd_T45 t408 x37_1).f0) ((rd_T45 t408 x37_1).f1) ((rd_T45 t408 x37_1).f2) ((rd_T45 t408 x37_1).f3)) = some r := by first | (rw [hy429]; with_reducible exact H) | (have H2_ := (Option.bind_some _ _).symm.trans H; rw [hy429]; with_reducible exact H2_) | (have H2_ := (Option.bind_some _ _).symm.trans H; with_reducible exact H2_) | with_reducible exact H | (rw [hy429]; exact H) | exact H
  have Ny429 := zA.mk hy429; clear hy429; have H' := zA.mk H
  clear H; have p425 : 0 ≤ (x37_1 : Int) := aD
  have q425 : x37_1 < (t422.length : Int) := aD
  obtain ⟨ad425, A425_0, c425_0, e425, hx425_0, hl425_0, hi425_0⟩ := at_L5 (Kd.S_reads' HO_35.out).2.2 x37_1 p425 q425; cases e425
  obtain ⟨ce425, hce425, hMe425, hcc425⟩ := Kd.S_get HO_35.out [] x37_1 p425 (by first | exact q425 | exact aD | (have e_ := (Kd.S_reads' HO_35.out).1; omega))
  obtain ⟨ve425_0, rfl, ge425_0⟩ := hMe425; have hv425_0 := hcc425 0 _ rfl; rw [Nat.add_zero, show ((Kd.slice 5 (Kd.int .u8))).sz = 1 from rfl, Nat.mul_one] at hv425_0; replace hv425_0 := Option.some.inj (hv425_0.symm.trans hx425_0); rw [hv425_0] at ge425_0; have HL425_0 := zA.mk (show Kd.R (Kd.int .u8) 5 _ _ _ _ (rd_L5 t422 x37_1) from ge425_0); clear hv425_0 ge425_0; clear hcc425 hce425; have HR425_0 := zA.mk hi425_0; have HC425_0 := zA.mk hl425_0; clear hi425_0 hl425_0; replace p425 := eq_true p425; replace q425 := eq_true q425; have p426 : 0 ≤ (x37_1 : Int) := aD
  have q426 : x37_1 < (t408.length : Int) := aD
  obtain ⟨ad426, e426, hx426_0, hx426_1, hx426_2, hx426_3⟩ := at_T45 (Kd.zP HO_8.out).2.2 x37_1 p426 q426; cases e426
  replace p426 := eq_true p426; replace q426 := eq_true q426; try go_wp2_with (first | ((with_reducible refine gate_dst (N := 13) rfl ?_); (try (refine gate_guard (by rfl) ?_; dsimp only)); refine box_event ?hg (N := 13) ?hd (cs := #[.int .i64 0, .int .i64 0, .int .i64 0, .int .u8 0]) (t := 45) ?hr ?_; (case hd => rfl); (case hg => rfl); (case hr => first | (go_simp; done) | (go_simp; rfl)); intro gb427 hg w37 hbox hb; have n0_ := zA.mk (Kd.zQ (Kd.R_elderB (aR HO_8) gb427 (Nat.le_of_eq hg.symm)) hb); have n1_ := zA.mk (Kd.zQ (aR HO_10) hb); have n2_ := zA.mk (Kd.S_below (aS HO_35) hb); have n3_ := zA.mk (Kd.zQ (aR HO_421000) hb); have n4_ := zA.mk (Kd.zQ (aR HO_421001) hb); have n5_ := zA.mk (Kd.zQ (aR HL425_0) hb); have n6_ := zA.mk (zB (g := gb400) (o := .cells #[.int .u8 a1_0, .int .u8 a1_1, .int .u8 a1_2, .int .u16 a1_3, .int .u16 a1_4, .float .f64 a1_5] 26 (0, 0)) (aB BK400) hb); have n7_ := zA.mk (zB (g := gb420) (o := .cells #[.slice Ao14 t402.length co14, .slice Ao18 t405.length co18] 31 (0, 0)) (aB BK420) hb); have n8_ := zA.mk (zB (g := gb421) (o := .cells #[.int .i64 t411, .int .i64 t412, .int .u8 t413, .int .i64 t414, .int .i64 t415, .float .f64 t416] 35 (0, 0)) (aB BK421) hb); have n9_ := zA.mk (Kd.zO (aH HR425_0) hb); have n10_ := zA.mk (zH (aL HB) hb); have n11_ := zA.mk (hbox); have n12_ := zA.mk ((by rw [hg]; exact (zE (aL HB)) : w.heap.size ≤ gb427)); have n13_ := zA.mk ((by rw [hg]; exact (zE (aL HB)) : w.heap.size ≤ gb427)); have n14_ := zA.mk ((by rw [hg]; exact Nat.ne_of_lt (blk_lt (g := gb400) (o := .cells #[.int .u8 a1_0, .int .u8 a1_1, .int .u8 a1_2, .int .u16 a1_3, .int .u16 a1_4, .float .f64 a1_5] 26 (0, 0)) (aB BK400)) : gb400 ≠ gb427)); have n15_ := zA.mk ((by rw [hg]; exact Nat.ne_of_gt (blk_lt (g := gb400) (o := .cells #[.int .u8 a1_0, .int .u8 a1_1, .int .u8 a1_2, .int .u16 a1_3, .int .u16 a1_4, .float .f64 a1_5] 26 (0, 0)) (aB BK400)) : gb427 ≠ gb400)); have n16_ := zA.mk ((by rw [hg]; exact Nat.ne_of_lt (blk_lt (g := gb420) (o := .cells #[.slice Ao14 t402.length co14, .slice Ao18 t405.length co18] 31 (0, 0)) (aB BK420)) : gb420 ≠ gb427)); have n17_ := zA.mk ((by rw [hg]; exact Nat.ne_of_gt (blk_lt (g := gb420) (o := .cells #[.slice Ao14 t402.length co14, .slice Ao18 t405.length co18] 31 (0, 0)) (aB BK420)) : gb427 ≠ gb420)); have n18_ := zA.mk ((by rw [hg]; exact Nat.ne_of_lt (blk_lt (g := gb421) (o := .cells #[.int .i64 t411, .int .i64 t412, .int .u8 t413, .int .i64 t414, .int .i64 t415, .float .f64 t416] 35 (0, 0)) (aB BK421)) : gb421 ≠ gb427)); have n19_ := zA.mk ((by rw [hg]; exact Nat.ne_of_gt (blk_lt (g := gb421) (o := .cells #[.int .i64 t411, .int .i64 t412, .int .u8 t413, .int .i64 t414, .int .i64 t415, .float .f64 t416] 35 (0, 0)) (aB BK421)) : gb427 ≠ gb421)); clear HO_8; clear HO_10; clear HO_35; clear HO_421000; clear HO_421001; clear HL425_0; clear BK400; clear BK420; clear BK421; clear HR425_0; clear HB; have HO_8 := n0_; have HO_10 := n1_; have HO_35 := n2_; have HO_421000 := n3_; have HO_421001 := n4_; have HL425_0 := n5_; have BK400 := n6_; have BK420 := n7_; have BK421 := n8_; have HR425_0 := n9_; have HB := n10_; have BK427 := n11_; have GW427 := n12_; have GE427 := n13_; have NB400_427 := n14_; have NB427_400 := n15_; have NB420_427 := n16_; have NB427_420 := n17_; have NB421_427 := n18_; have NB427_421 := n19_; clear n0_ n1_ n2_ n3_ n4_ n5_ n6_ n7_ n8_ n9_ n10_ n11_ n12_ n13_ n14_ n15_ n16_ n17_ n18_ n19_; clear hb hbox hg; have hnb38 := NB427_400.out; have hnc38 := NB400_427.out; have hnb39 := NB427_420.out; have hnc39 := NB420_427.out; have hnb40 := NB427_421.out; have hnc40 := NB421_427.out; obtain ⟨hcz41_0, hcz41_1, hcz41_2, hcz41_3, hfz41_0, hfz41_1, hfz41_2, hfz41_3⟩ := aC4 BK427) | ((with_reducible refine gate_store (t := 45) (p := 13) rfl ?_); refine store_event (t := 45) (p := 13) (v := ?vo_w42) (w1 := ((((w37.setCell ⟨gb427, 0, none⟩ (.int .i64 ((rd_T45 t408 x37_1).f0))).setCell ⟨gb427, 1, none⟩ (.int .i64 ((rd_T45 t408 x37_1).f1))).setCell ⟨gb427, 2, none⟩ (.int .i64 ((rd_T45 t408 x37_1).f2))).setCell ⟨gb427, 3, none⟩ (.int .u8 ((rd_T45 t408 x37_1).f3)))) ?hg ?ho ?hn ?hr ?_; (case ho => rfl); (case hg => rfl); (case hn => rfl); (case hr => first | (go_simp; done) | (go_simp; rfl)); intro w42 hw; have n0_ : zA (Kd.R k45 45 w42 w.heap.size (fun k_ => k_ ≠ gb427) (.slice (some ad426) t408.length co26) t408) := ⟨(by rw [hw]; exact (by (with_reducible repeat (first | apply Kd.zI | apply Kd.zJ | apply Kd.zK)); exact Kd.zU (Kd.zR (p := ⟨gb427, 3, none⟩) (Kd.zR (p := ⟨gb427, 2, none⟩) (Kd.zR (p := ⟨gb427, 1, none⟩) (Kd.zR (p := ⟨gb427, 0, none⟩) (Kd.zU HO_8.out (fun k_ hk => (⟨hk, hk.2⟩ : _ ∧ k_ ≠ gb427))) (fun _ hk => hk.2) (.int .i64 ((rd_T45 t408 x37_1).f0))) (fun _ hk => hk.2) (.int .i64 ((rd_T45 t408 x37_1).f1))) (fun _ hk => hk.2) (.int .i64 ((rd_T45 t408 x37_1).f2))) (fun _ hk => hk.2) (.int .u8 ((rd_T45 t408 x37_1).f3))) (fun _ hk => hk.1.2)))⟩; have n1_ : zA (Kd.R (Kd.int .u8) 5 w42 w.heap.size (fun _ => True) (.slice Ao25 t417.length co25) t417) := ⟨(by rw [hw]; exact (by (with_reducible repeat (first | apply Kd.zI | apply Kd.zJ | apply Kd.zK)); exact Kd.zU (Kd.zR (p := ⟨gb427, 3, none⟩) (Kd.zR (p := ⟨gb427, 2, none⟩) (Kd.zR (p := ⟨gb427, 1, none⟩) (Kd.zR (p := ⟨gb427, 0, none⟩) (Kd.zV HO_10.out BK427.out (by decide)) (fun _ hk => hk.2) (.int .i64 ((rd_T45 t408 x37_1).f0))) (fun _ hk => hk.2) (.int .i64 ((rd_T45 t408 x37_1).f1))) (fun _ hk => hk.2) (.int .i64 ((rd_T45 t408 x37_1).f2))) (fun _ hk => hk.2) (.int .u8 ((rd_T45 t408 x37_1).f3))) (fun _ hk => trivial)))⟩; have n2_ : zA (Kd.S (Kd.slice 5 (Kd.int .u8)) 51 w42 w.heap.size (fun _ => True) (.slice (some ad425) t422.length co28) t422) := ⟨(by rw [hw]; exact (by (with_reducible repeat (first | apply Kd.S_alloc | apply Kd.S_drewN | apply Kd.S_drew)); exact Kd.S_mono (Kd.S_far (p := ⟨gb427, 3, none⟩) (Kd.S_far (p := ⟨gb427, 2, none⟩) (Kd.S_far (p := ⟨gb427, 1, none⟩) (Kd.S_far (p := ⟨gb427, 0, none⟩) (Kd.S_types HO_35.out BK427.out (by decide)) (fun _ hk => hk.2) (.int .i64 ((rd_T45 t408 x37_1).f0))) (fun _ hk => hk.2) (.int .i64 ((rd_T45 t408 x37_1).f1))) (fun _ hk => hk.2) (.int .i64 ((rd_T45 t408 x37_1).f2))) (fun _ hk => hk.2) (.int .u8 ((rd_T45 t408 x37_1).f3))) (fun _ hk => trivial)))⟩; have n3_ : zA (Kd.R k61 61 w42 w.heap.size (fun _ => True) (.slice Ao14 t402.length co14) t402) := ⟨(by rw [hw]; exact (by (with_reducible repeat (first | apply Kd.zI | apply Kd.zJ | apply Kd.zK)); exact Kd.zU (Kd.zR (p := ⟨gb427, 3, none⟩) (Kd.zR (p := ⟨gb427, 2, none⟩) (Kd.zR (p := ⟨gb427, 1, none⟩) (Kd.zR (p := ⟨gb427, 0, none⟩) (Kd.zV HO_421000.out BK427.out (by decide)) (fun _ hk => hk.2) (.int .i64 ((rd_T45 t408 x37_1).f0))) (fun _ hk => hk.2) (.int .i64 ((rd_T45 t408 x37_1).f1))) (fun _ hk => hk.2) (.int .i64 ((rd_T45 t408 x37_1).f2))) (fun _ hk => hk.2) (.int .u8 ((rd_T45 t408 x37_1).f3))) (fun _ hk => trivial)))⟩; have n4_ : zA (Kd.R (Kd.int .u8) 43 w42 w.heap.size (fun _ => True) (.slice Ao18 t405.length co18) t405) := ⟨(by rw [hw]; exact (by (with_reducible repeat (first | apply Kd.zI | apply Kd.zJ | apply Kd.zK)); exact Kd.zU (Kd.zR (p := ⟨gb427, 3, none⟩) (Kd.zR (p := ⟨gb427, 2, none⟩) (Kd.zR (p := ⟨gb427, 1, none⟩) (Kd.zR (p := ⟨gb427, 0, none⟩) (Kd.zV HO_421001.out BK427.out (by decide)) (fun _ hk => hk.2) (.int .i64 ((rd_T45 t408 x37_1).f0))) (fun _ hk => hk.2) (.int .i64 ((rd_T45 t408 x37_1).f1))) (fun _ hk => hk.2) (.int .i64 ((rd_T45 t408 x37_1).f2))) (fun _ hk => hk.2) (.int .u8 ((rd_T45 t408 x37_1).f3))) (fun _ hk => trivial)))⟩; have n5_ : zA (Kd.R (Kd.int .u8) 5 w42 w.heap.size (fun k_ => some k_ ≠ (.slice (some ad425) t422.length co28 : Value).ownBlock) (.slice A425_0 (rd_L5 t422 x37_1).length c425_0) (rd_L5 t422 x37_1)) := ⟨(by rw [hw]; exact (by (with_reducible repeat (first | apply Kd.zI | apply Kd.zJ | apply Kd.zK)); exact Kd.zU (Kd.zR (p := ⟨gb427, 3, none⟩) (Kd.zR (p := ⟨gb427, 2, none⟩) (Kd.zR (p := ⟨gb427, 1, none⟩) (Kd.zR (p := ⟨gb427, 0, none⟩) (Kd.zV HL425_0.out BK427.out (by decide)) (fun _ hk => hk.2) (.int .i64 ((rd_T45 t408 x37_1).f0))) (fun _ hk => hk.2) (.int .i64 ((rd_T45 t408 x37_1).f1))) (fun _ hk => hk.2) (.int .i64 ((rd_T45 t408 x37_1).f2))) (fun _ hk => hk.2) (.int .u8 ((rd_T45 t408 x37_1).f3))) (fun _ hk => hk.1.2)))⟩; have n6_ : zA (w42.heap[gb400]? = some (.cells #[.int .u8 a1_0, .int .u8 a1_1, .int .u8 a1_2, .int .u16 a1_3, .int .u16 a1_4, .float .f64 a1_5] 26 (0, 0))) := ⟨(by rw [hw]; exact (aB BK400))⟩; have n7_ : zA (w42.heap[gb420]? = some (.cells #[.slice Ao14 t402.length co14, .slice Ao18 t405.length co18] 31 (0, 0))) := ⟨(by rw [hw]; exact (aB BK420))⟩; have n8_ : zA (w42.heap[gb421]? = some (.cells #[.int .i64 t411, .int .i64 t412, .int .u8 t413, .int .i64 t414, .int .i64 t415, .float .f64 t416] 35 (0, 0))) := ⟨(by rw [hw]; exact (aB BK421))⟩; have n9_ : zA (w42.heap[gb427]? = some (.cells #[.int .i64 ((rd_T45 t408 x37_1).f0), .int .i64 ((rd_T45 t408 x37_1).f1), .int .i64 ((rd_T45 t408 x37_1).f2), .int .u8 ((rd_T45 t408 x37_1).f3)] 45 (0, 0))) := ⟨(by rw [hw]; exact (by (with_reducible repeat (first | refine zF ?_ _ | refine zD ?_ | refine zG ?_ _)); refine blk_put (cs := #[.int .i64 ((rd_T45 t408 x37_1).f0), .int .i64 ((rd_T45 t408 x37_1).f1), .int .i64 ((rd_T45 t408 x37_1).f2), .int .u8 0]) ?_ 3 _ rfl; (with_reducible repeat (first | refine zF ?_ _ | refine zD ?_ | refine zG ?_ _)); refine blk_put (cs := #[.int .i64 ((rd_T45 t408 x37_1).f0), .int .i64 ((rd_T45 t408 x37_1).f1), .int .i64 0, .int .u8 0]) ?_ 2 _ rfl; (with_reducible repeat (first | refine zF ?_ _ | refine zD ?_ | refine zG ?_ _)); refine blk_put (cs := #[.int .i64 ((rd_T45 t408 x37_1).f0), .int .i64 0, .int .i64 0, .int .u8 0]) ?_ 1 _ rfl; (with_reducible repeat (first | refine zF ?_ _ | refine zD ?_ | refine zG ?_ _)); refine blk_put (cs := #[.int .i64 0, .int .i64 0, .int .i64 0, .int .u8 0]) ?_ 0 _ rfl; (with_reducible repeat (first | refine zF ?_ _ | refine zD ?_ | refine zG ?_ _)); exact BK427.out))⟩; have n10_ : zA (Below w.heap.size w w42) := ⟨(by rw [hw]; exact (aL HB))⟩; clear hw; clear HO_8; clear HO_10; clear HO_35; clear HO_421000; clear HO_421001; clear HL425_0; clear BK400; clear BK420; clear BK421; clear BK427; clear HB; have HO_8 := n0_; have HO_10 := n1_; have HO_35 := n2_; have HO_421000 := n3_; have HO_421001 := n4_; have HL425_0 := n5_; have BK400 := n6_; have BK420 := n7_; have BK421 := n8_; have BK427 := n9_; have HB := n10_; clear n0_ n1_ n2_ n3_ n4_ n5_ n6_ n7_ n8_ n9_ n10_))
  have n0_ := zA.mk (Kd.zK HO_8.out); have n1_ := zA.mk (Kd.zK HO_10.out); have n2_ := zA.mk (Kd.S_drew HO_35.out); have n3_ := zA.mk (Kd.zK HO_421000.out); have n4_ := zA.mk (Kd.zK HO_421001.out); have n5_ := zA.mk (Kd.zK HL425_0.out); have n6_ := zA.mk (zD BK400.out); have n7_ := zA.mk (zD BK420.out); have n8_ := zA.mk (zD BK421.out); have n9_ := zA.mk (zD BK427.out); have n10_ := zA.mk (below_drew1 HB.out); clear HO_8; clear HO_10; clear HO_35; clear HO_421000; clear HO_421001; clear HL425_0; clear BK400; clear BK420; clear BK421; clear BK427; clear HB; have HO_8 := n0_; have HO_10 := n1_; have HO_35 := n2_; have HO_421000 := n3_; have HO_421001 := n4_; have HL425_0 := n5_; have BK400 := n6_; have BK420 := n7_; have BK421 := n8_; have BK427 := n9_; have HB := n10_; clear n0_ n1_ n2_ n3_ n4_ n5_ n6_ n7_ n8_ n9_ n10_; refine start_ (n := 13) (S := fun w' => w'.cell? ⟨gb420, 0, none⟩ = some (.slice Ao14 t402.length co14) ∧ w'.cell? ⟨gb420, 1, none⟩ = some (.slice Ao18 t405.length co18) ∧ w'.cell? ⟨gb427, 0, none⟩ = some (.int .i64 ((rd_T45 t408 x37_1).f0)) ∧ w'.cell? ⟨gb427, 1, none⟩ = some (.int .i64 ((rd_T45 t408 x37_1).f1)) ∧ w'.cell? ⟨gb427, 2, none⟩ = some (.int .i64 ((rd_T45 t408 x37_1).f2)) ∧ w'.cell? ⟨gb427, 3, none⟩ = some (.int .u8 ((rd_T45 t408 x37_1).f3))) (ds := []) #[false, false, false, false, false, false, false, false, false, false, false, false, false] (by kernel_rfl) rfl rfl ⟨(zC BK420.out 0).trans rfl, (zC BK420.out 1).trans rfl, (zC BK427.out 0).trans rfl, (zC BK427.out 1).trans rfl, (zC BK427.out 2).trans rfl, (zC BK427.out 3).trans rfl⟩ (fun hHeld => ?_); refine with_tabW stanzalaw22_DrawWords.tab9 stanzalaw22_DrawWords.bits9 (fun HT_ HW_ => ?_)
  generalize w42.drew = w43 at HO_8 HO_10 HO_35 HO_421000 HO_421001 HL425_0 BK400 BK420 BK421 BK427 HB hHeld ⊢
  refine aP 0 (some 46) (tf_ 1 13) HT_ ?_
  refine aP 2 (some 48) #[true, false, true, false, false, false, false, false, false, false, false, false, false] HT_ ?_
  refine aP 5 (some 51) #[true, false, true, false, false, true, false, false, false, false, false, false, false] HT_ ?_
  refine aP 7 (some 53) #[true, false, true, false, false, true, false, true, false, false, false, false, false] HT_ ?_
  refine aP 12 (some 58) #[true, false, true, false, false, true, false, true, false, false, false, false, true] HT_ ?_
  refine take_ (i := 1) (N := some 47) (v := ?_) (a' := ?_) #[true, true, true, false, false, true, false, true, false, false, false, false, true] rfl rfl (take_ofW HT_.out HW_.out (by kernel_rfl)) (fun _ _ _ h => h) (Or.inl ⟨by rfl, ?_⟩) hHeld ?_ ?_
  rotate_left
  ·rintro w' ⟨s0, s1, s2, s3, s4, s5⟩
   go_simp
   with_reducible rfl
  rotate_left
  ·simp only [Act.put, sA_, sB_, sC_, i64_w, i32_w]
   rfl
  refine take_ (i := 3) (N := some 49) (v := ?_) (a' := ?_) #[true, true, true, true, false, true, false, true, false, false, false, false, true] rfl rfl (take_ofW HT_.out HW_.out (by kernel_rfl)) (fun _ _ _ h => h) (Or.inl ⟨by rfl, ?_⟩) hHeld ?_ ?_
  rotate_left
  ·rintro w' ⟨s0, s1, s2, s3, s4, s5⟩
   go_simp
   with_reducible rfl
  rotate_left
  ·simp only [Act.put, sA_, sB_, sC_, i64_w, i32_w]
   rfl
  refine take_ (i := 4) (N := some 50) (v := ?_) (a' := ?_) #[true, true, true, true, true, true, false, true, false, false, false, false, true] rfl rfl (take_ofW HT_.out HW_.out (by kernel_rfl)) (fun _ _ _ h => h) (Or.inl ⟨by rfl, ?_⟩) hHeld ?_ ?_
  rotate_left
  ·rintro w' ⟨s0, s1, s2, s3, s4, s5⟩
   go_simp
   with_reducible rfl
  rotate_left
  ·simp only [Act.put, sA_, sB_, sC_, i64_w, i32_w]
   rfl
  refine take_ (i := 6) (N := some 52) (v := ?_) (a' := ?_) #[true, true, true, true, true, true, true, true, false, false, false, false, true] rfl rfl (take_ofW HT_.out HW_.out (by kernel_rfl)) (fun _ _ _ h => h) (Or.inl ⟨by rfl, ?_⟩) hHeld ?_ ?_
  rotate_left
  ·rintro w' ⟨s0, s1, s2, s3, s4, s5⟩
   go_simp
   with_reducible rfl
  rotate_left
  ·simp only [Act.put, sA_, sB_, sC_, i64_w, i32_w]
   rfl
  refine take_ (i := 8) (N := some 54) (v := ?_) (a' := ?_) #[true, true, true, true, true, true, true, true, true, false, false, false, true] rfl rfl (take_ofW HT_.out HW_.out (by kernel_rfl)) (fun _ _ _ h => h) (Or.inl ⟨by rfl, ?_⟩) hHeld ?_ ?_
  rotate_left
  ·rintro w' ⟨s0, s1, s2, s3, s4, s5⟩
   go_simp
   with_reducible rfl
  rotate_left
  ·simp only [Act.put, sA_, sB_, sC_, i64_w, i32_w]
   rfl
  refine one_ (i := 9) (N := some 55) #[true, true, true, true, true, true, true, true, true, true, false, false, true] rfl rfl (one_of HT_.out (by kernel_rfl)) (by decide) (fun K hK => ?_)
  refine goes_ Try.func27 (by kernel_rfl) rfl #[.agg #[.slice Ao14 t402.length co14, .slice Ao18 t405.length co18], .int .i64 ((rd_T45 t408 x37_1).f0), .int .i64 ((rd_T45 t408 x37_1).f1)] (by rfl) rfl rfl aT ?_
  with_reducible refine (r3_Trim.calls k1 _ _ t402 _ _ t405 ((rd_T45 t408 x37_1).f0) ((rd_T45 t408 x37_1).f1) t428 _ ?side1 ?side2 ?side3 ?side4 A33.out).mono ?_
  (case side1 => exact aF HO_421000)
  (case side2 => exact (Kd.zP HO_421000.out).2.1)
  (case side3 => exact aF HO_421001)
  (case side4 => exact (Kd.zP HO_421001.out).2.1)
  rintro e w44 ⟨rfl, hb⟩
  refine ⟨_, rfl, ?_⟩
  have n0_ := zA.mk (Kd.zQ (aR HO_8) hb); have n1_ := zA.mk (Kd.zQ (aR HO_10) hb); have n2_ := zA.mk (Kd.S_below (aS HO_35) hb); have n3_ := zA.mk (Kd.zQ (aR HO_421000) hb); have n4_ := zA.mk (Kd.zQ (aR HO_421001) hb); have n5_ := zA.mk (Kd.zQ (aR HL425_0) hb); have n6_ := zA.mk (zB (g := gb400) (o := .cells #[.int .u8 a1_0, .int .u8 a1_1, .int .u8 a1_2, .int .u16 a1_3, .int .u16 a1_4, .float .f64 a1_5] 26 (0, 0)) (aB BK400) hb); have n7_ := zA.mk (zB (g := gb420) (o := .cells #[.slice Ao14 t402.length co14, .slice Ao18 t405.length co18] 31 (0, 0)) (aB BK420) hb); have n8_ := zA.mk (zB (g := gb421) (o := .cells #[.int .i64 t411, .int .i64 t412, .int .u8 t413, .int .i64 t414, .int .i64 t415, .float .f64 t416] 35 (0, 0)) (aB BK421) hb); have n9_ := zA.mk (zB (g := gb427) (o := .cells #[.int .i64 ((rd_T45 t408 x37_1).f0), .int .i64 ((rd_T45 t408 x37_1).f1), .int .i64 ((rd_T45 t408 x37_1).f2), .int .u8 ((rd_T45 t408 x37_1).f3)] 45 (0, 0)) (aB BK427) hb); have n10_ := zA.mk (zH (aL HB) hb); clear HO_8; clear HO_10; clear HO_35; clear HO_421000; clear HO_421001; clear HL425_0; clear BK400; clear BK420; clear BK421; clear BK427; clear HB; have HO_8 := n0_; have HO_10 := n1_; have HO_35 := n2_; have HO_421000 := n3_; have HO_421001 := n4_; have HL425_0 := n5_; have BK400 := n6_; have BK420 := n7_; have BK421 := n8_; have BK427 := n9_; have HB := n10_; clear n0_ n1_ n2_ n3_ n4_ n5_ n6_ n7_ n8_ n9_ n10_
  (try clear hb)
  (try clear hb2)
  (try clear hk)
  (try clear hi)
  have q45 : (t428 : Int) ≤ ((t402.length : Int) : Int) := aD
  obtain ⟨i045, hi045, _, hsz45, _⟩ := info_parts info61; have hroom45 : t402.length ≤ co14 := (Kd.zP HO_421000.out).2.1
  have hC45 : Kd.C k61 _ Ao14 t402.length t402 := (Kd.zP HO_421000.out).2.2
  have ql45 : (((rd_T45 t408 x37_1).f0) : Int) ≤ (t428 : Int) := aD
  have q045 : (0 : Int) ≤ (((rd_T45 t408 x37_1).f0) : Int) := aD
  have hcut45 := cut_mid (P := Try.prog) 28 61 .i64 .i64 Try.underlying28 hi045 4 hsz45 Ao14 t402.length co14 ((rd_T45 t408 x37_1).f0) t428 q045 ql45 q45 hroom45; have hr45 := Kd.C_mid (lo := (((rd_T45 t408 x37_1).f0) : Int).toNat) (hi := (t428 : Int).toNat) (c := co14) hC45 (by omega) (by omega) hroom45
  obtain ⟨A45, hA45⟩ : ∃ A1, A1 = (if co14 = (((rd_T45 t408 x37_1).f0) : Int).toNat then Ao14 else (Ao14 : Option Addr).map (·.add ((((rd_T45 t408 x37_1).f0) : Int).toNat * 4))) := ⟨_, rfl⟩
  obtain ⟨c45, hc45⟩ : ∃ c1, c1 = co14 - (((rd_T45 t408 x37_1).f0) : Int).toNat := ⟨_, rfl⟩; have hy45 : y429.length = (t428 : Int).toNat - (((rd_T45 t408 x37_1).f0) : Int).toNat := (by rw [Ny429.out, List.length_drop, List.length_take] <;> omega)
  rw [show ((t402).take (t428 : Int).toNat).drop (((rd_T45 t408 x37_1).f0) : Int).toNat = y429 from Ny429.out.symm] at hr45; replace hr45 : Kd.C k61 _ A45 y429.length y429 := (by rw [hA45]; exact hr45)
  rw [← hy45, ← hA45, ← hc45] at hcut45; have HR432 := zA.mk hr45; have HC432 := zA.mk (show y429.length ≤ c45 from by rw [hy45, hc45]; exact Nat.sub_le_sub_right (Nat.le_trans (by omega) hroom45) _)
  clear hr45 hC45 hroom45 hi045 hsz45 hc45; have KY45 := zA.mk hy45; have KA45 := zA.mk hA45; clear hy45 hA45; have KL45 := zA.mk (show (t428 : Int).toNat ≤ t402.length from by omega)
  have KM45 := zA.mk (show (((rd_T45 t408 x37_1).f0) : Int).toNat ≤ (t428 : Int).toNat from by omega)
  replace q45 := eq_true q45; refine hK.out _ _ ⟨(zC BK420.out 0).trans rfl, (zC BK420.out 1).trans rfl, (zC BK427.out 0).trans rfl, (zC BK427.out 1).trans rfl, (zC BK427.out 2).trans rfl, (zC BK427.out 3).trans rfl⟩ (fun hHeld => ?_)
  clear hK K; refine norm_ (a' := ?_) ?_ ?_
  rotate_left
  ·show Act.put _ (some 55) _ = _
   simp only [Act.put, sA_, sB_, sC_, i64_w, i32_w]; rfl
  refine aP 10 (some 56) #[true, true, true, true, true, true, true, true, true, true, true, false, true] HT_ ?_
  refine aP 11 (some 57) #[true, true, true, true, true, true, true, true, true, true, true, true, true] HT_ ?_
  refine done_ (done_of HT_.out (by kernel_rfl)) ?_
  try go_wp2
  go_loopg [14, 58] k1 (fun kq v14 v58 w' => ∃ (x14_2 : List Int) (x58_2 : Int), v58 = .int .i64 x58_2 ∧ zA (stanzalaw22_DrawWords.l1 kq t408 t417 (rd_L5 t422 x37_1) x14_2 t422 (t422.length : Int) x37_1 y429 (y429.length : Int) x58_2 t402 t405 ((rd_T45 t408 x37_1).f0) ((rd_T45 t408 x37_1).f1) ((rd_T45 t408 x37_1).f2) ((rd_T45 t408 x37_1).f3) = some r) ∧ zA (kq ≤ k1) ∧ zA (Kd.R k45 45 w' w.heap.size (fun k_ => k_ ≠ gb427) (.slice (some ad426) t408.length co26) t408) ∧ zA (Kd.R (Kd.int .u8) 5 w' w.heap.size (fun k_ => some k_ ≠ (v14 : Value).ownBlock) (.slice Ao25 t417.length co25) t417) ∧ zA (Kd.R (Kd.int .u8) 5 w' w.heap.size (fun k_ => some k_ ≠ (v14 : Value).ownBlock) (.slice A425_0 (rd_L5 t422 x37_1).length c425_0) (rd_L5 t422 x37_1)) ∧ zA (Kd.R (Kd.int .u8) 5 w' w.heap.size (fun k_ => some k_ ≠ ((.slice Ao25 t417.length co25) : Value).ownBlock ∧ some k_ ≠ ((.slice A425_0 (rd_L5 t422 x37_1).length c425_0) : Value).ownBlock) v14 x14_2) ∧ zA (Kd.S (Kd.slice 5 (Kd.int .u8)) 51 w' w.heap.size (fun k_ => some k_ ≠ (v14 : Value).ownBlock) (.slice (some ad425) t422.length co28) t422) ∧ zA (Kd.R k61 61 w' w.heap.size (fun _ => True) (.slice Ao14 t402.length co14) t402) ∧ zA (Kd.R (Kd.int .u8) 43 w' w.heap.size (fun _ => True) (.slice Ao18 t405.length co18) t405) ∧ zA (w'.heap[gb400]? = some (.cells #[.int .u8 a1_0, .int .u8 a1_1, .int .u8 a1_2, .int .u16 a1_3, .int .u16 a1_4, .float .f64 a1_5] 26 (0, 0))) ∧ zA (w'.heap[gb420]? = some (.cells #[(.slice Ao14 t402.length co14), (.slice Ao18 t405.length co18)] 31 (0, 0))) ∧ zA (w'.heap[gb421]? = some (.cells #[.int .i64 t411, .int .i64 t412, .int .u8 t413, .int .i64 t414, .int .i64 t415, .float .f64 t416] 35 (0, 0))) ∧ zA (w'.heap[gb427]? = some (.cells #[.int .i64 ((rd_T45 t408 x37_1).f0), .int .i64 ((rd_T45 t408 x37_1).f1), .int .i64 ((rd_T45 t408 x37_1).f2), .int .u8 ((rd_T45 t408 x37_1).f3)] 45 (0, 0))) ∧ zA (Below w.heap.size w w'))
  case atStart => exact ⟨(([] : List Int)), (0), aZ, H', ⟨Nat.le_refl _⟩, ⟨aR HO_8⟩, ⟨by (with_reducible repeat (first | apply Kd.zI | apply Kd.zJ | apply Kd.zK)); exact Kd.zU HO_10.out (fun _ hk => (by simp [Value.ownBlock]))⟩, ⟨by (with_reducible repeat (first | apply Kd.zI | apply Kd.zJ | apply Kd.zK)); exact Kd.zU HL425_0.out (fun _ hk => (by simp [Value.ownBlock]))⟩, ⟨by first | exact Kd.R_nil _ _ _ _ _ | exact Kd.N_nil _ _ _ _ _ | exact Kd.V_nil _ _ _ _ _ | exact Kd.Q_nil _ _ _ _ _ | exact Kd.S_nil _ _ _ _ _⟩, ⟨by (with_reducible repeat (first | apply Kd.S_alloc | apply Kd.S_drewN | apply Kd.S_drew)); exact Kd.S_mono HO_35.out (fun _ hk => (by simp [Value.ownBlock]))⟩, ⟨aR HO_421000⟩, ⟨aR HO_421001⟩, ⟨aB BK400⟩, ⟨aB BK420⟩, ⟨aB BK421⟩, ⟨aB BK427⟩, ⟨aL HB⟩⟩
  clear H'; try clear c1
  try clear c2
  try clear p2
  try clear c3
  try clear c4
  try clear p4
  try clear q4
  try clear hx4
  try clear c5
  try clear c10
  try clear c15
  try clear c16
  try clear c20
  try clear c21
  try clear c22
  try clear c23
  try clear c27
  try clear c29
  try clear c29b0
  try clear c30
  try clear c30b0
  try clear c31
  try clear c31b0
  try clear c32
  try clear c32b0
  try clear c34
  try clear c34b0
  try clear c34b1
  try clear c35
  try clear c35b0
  try clear c35b1
  try clear c36
  try clear c36b0
  try clear c36b1
  try clear c38
  try clear c39
  try clear c40
  try clear c42
  try clear p42
  try clear q42
  try clear hx42
  try clear c45
  try clear q45
  try clear hcz10_0
  try clear hcz10_1
  try clear hcz10_2
  try clear hcz10_3
  try clear hcz10_4
  try clear hcz10_5
  try clear hcz17_0
  try clear hcz17_1
  try clear hcz21_0
  try clear hcz21_1
  try clear hcz21_2
  try clear hcz21_3
  try clear hcz21_4
  try clear hcz21_5
  try clear hcz23_0
  try clear hcz23_1
  try clear hcz24_0
  try clear hcz24_1
  try clear hcz24_2
  try clear hcz24_3
  try clear hcz24_4
  try clear hcz24_5
  try clear hcz41_0
  try clear hcz41_1
  try clear hcz41_2
  try clear hcz41_3
  try clear hfz10_0
  try clear hfz10_1
  try clear hfz10_2
  try clear hfz10_3
  try clear hfz10_4
  try clear hfz10_5
  try clear hfz17_0
  try clear hfz17_1
  try clear hfz21_0
  try clear hfz21_1
  try clear hfz21_2
  try clear hfz21_3
  try clear hfz21_4
  try clear hfz21_5
  try clear hfz23_0
  try clear hfz23_1
  try clear hfz24_0
  try clear hfz24_1
  try clear hfz24_2
  try clear hfz24_3
  try clear hfz24_4
  try clear hfz24_5
  try clear hfz41_0
  try clear hfz41_1
  try clear hfz41_2
  try clear hfz41_3
  try clear hx425_0
  try clear hx426_0
  try clear hx426_1
  try clear hx426_2
  try clear hx426_3
  try clear p2
  try clear p425
  try clear p426
  try clear q045
  try clear q425
  try clear q426
  try clear q45
  obtain ⟨x14_2, x58_2, rfl, HA, HK2, HO_8, HO_10, HO_12, HO_14, HO_35, HO_421000, HO_421001, BK400, BK420, BK421, BK427, HB⟩ := hrel; cases gk with
  | zero => exact absurd HA.out (by simp [stanzalaw22_DrawWords.l1])
  | succ k2 =>
   have H := HA.out; clear HA; simp only [stanzalaw22_DrawWords.l1] at H; by_cases c46 : x58_2 < (y429.length : Int)
   rotate_left
   ·rw [if_neg c46] at H
    have c46b0 : decide (x58_2 < (y429.length : Int)) = false := decide_eq_false c46
    clear c46; have H' := zA.mk H
    clear H; go_wp2
    go_loopg [15, 79] k2 (fun kq v15 v79 w' => ∃ (x15_3 : List Int) (x79_3 : Int), v79 = .int .i64 x79_3 ∧ zA (stanzalaw22_DrawWords.l2 kq t408 t417 (rd_L5 t422 x37_1) x14_2 x15_3 t422 (t422.length : Int) x37_1 (rd_L5 t422 x37_1) ((rd_L5 t422 x37_1).length : Int) x79_3 t402 t405 ((rd_T45 t408 x37_1).f0) ((rd_T45 t408 x37_1).f1) ((rd_T45 t408 x37_1).f2) ((rd_T45 t408 x37_1).f3) = some r) ∧ zA (kq ≤ k2) ∧ zA (Kd.R k45 45 w' w.heap.size (fun k_ => k_ ≠ gb427) (.slice (some ad426) t408.length co26) t408) ∧ zA (Kd.R (Kd.int .u8) 5 w' w.heap.size (fun k_ => some k_ ≠ (v15 : Value).ownBlock) (.slice Ao25 t417.length co25) t417) ∧ zA (Kd.R (Kd.int .u8) 5 w' w.heap.size (fun k_ => some k_ ≠ (v15 : Value).ownBlock) (.slice A425_0 (rd_L5 t422 x37_1).length c425_0) (rd_L5 t422 x37_1)) ∧ zA (Kd.R (Kd.int .u8) 5 w' w.heap.size (fun k_ => some k_ ≠ (v15 : Value).ownBlock) u14 x14_2) ∧ zA (Kd.R (Kd.int .u8) 5 w' w.heap.size (fun k_ => some k_ ≠ ((.slice Ao25 t417.length co25) : Value).ownBlock ∧ some k_ ≠ ((.slice A425_0 (rd_L5 t422 x37_1).length c425_0) : Value).ownBlock ∧ some k_ ≠ (u14 : Value).ownBlock ∧ some k_ ≠ ((.slice A425_0 (rd_L5 t422 x37_1).length c425_0) : Value).ownBlock) v15 x15_3) ∧ zA (Kd.S (Kd.slice 5 (Kd.int .u8)) 51 w' w.heap.size (fun k_ => some k_ ≠ (v15 : Value).ownBlock) (.slice (some ad425) t422.length co28) t422) ∧ zA (Kd.R (Kd.int .u8) 5 w' w.heap.size (fun k_ => some k_ ≠ (v15 : Value).ownBlock) (.slice A425_0 (rd_L5 t422 x37_1).length c425_0) (rd_L5 t422 x37_1)) ∧ zA (Kd.R k61 61 w' w.heap.size (fun _ => True) (.slice Ao14 t402.length co14) t402) ∧ zA (Kd.R (Kd.int .u8) 43 w' w.heap.size (fun _ => True) (.slice Ao18 t405.length co18) t405) ∧ zA (w'.heap[gb400]? = some (.cells #[.int .u8 a1_0, .int .u8 a1_1, .int .u8 a1_2, .int .u16 a1_3, .int .u16 a1_4, .float .f64 a1_5] 26 (0, 0))) ∧ zA (w'.heap[gb420]? = some (.cells #[(.slice Ao14 t402.length co14), (.slice Ao18 t405.length co18)] 31 (0, 0))) ∧ zA (w'.heap[gb421]? = some (.cells #[.int .i64 t411, .int .i64 t412, .int .u8 t413, .int .i64 t414, .int .i64 t415, .float .f64 t416] 35 (0, 0))) ∧ zA (w'.heap[gb427]? = some (.cells #[.int .i64 ((rd_T45 t408 x37_1).f0), .int .i64 ((rd_T45 t408 x37_1).f1), .int .i64 ((rd_T45 t408 x37_1).f2), .int .u8 ((rd_T45 t408 x37_1).f3)] 45 (0, 0))) ∧ zA (Below w.heap.size w w'))
    case atStart => exact ⟨(([] : List Int)), (0), aZ, H', ⟨Nat.le_refl _⟩, ⟨aR HO_8⟩, ⟨by (with_reducible repeat (first | apply Kd.zI | apply Kd.zJ | apply Kd.zK)); exact Kd.zU HO_10.out (fun _ hk => (by simp [Value.ownBlock]))⟩, ⟨by (with_reducible repeat (first | apply Kd.zI | apply Kd.zJ | apply Kd.zK)); exact Kd.zU HO_12.out (fun _ hk => (by simp [Value.ownBlock]))⟩, ⟨by (with_reducible repeat (first | apply Kd.zI | apply Kd.zJ | apply Kd.zK)); exact Kd.zU HO_14.out (fun _ hk => (by simp [Value.ownBlock]))⟩, ⟨by first | exact Kd.R_nil _ _ _ _ _ | exact Kd.N_nil _ _ _ _ _ | exact Kd.V_nil _ _ _ _ _ | exact Kd.Q_nil _ _ _ _ _ | exact Kd.S_nil _ _ _ _ _⟩, ⟨by (with_reducible repeat (first | apply Kd.S_alloc | apply Kd.S_drewN | apply Kd.S_drew)); exact Kd.S_mono HO_35.out (fun _ hk => (by simp [Value.ownBlock]))⟩, ⟨by (with_reducible repeat (first | apply Kd.zI | apply Kd.zJ | apply Kd.zK)); exact Kd.zU HO_12.out (fun _ hk => (by simp [Value.ownBlock]))⟩, ⟨aR HO_421000⟩, ⟨aR HO_421001⟩, ⟨aB BK400⟩, ⟨aB BK420⟩, ⟨aB BK421⟩, ⟨aB BK427⟩, ⟨aL HB⟩⟩
    clear H'; try clear c1
    try clear c2
    try clear p2
    try clear c3
    try clear c4
    try clear p4
    try clear q4
    try clear hx4
    try clear c5
    try clear c6
    try clear p6
    try clear q6
    try clear c10
    try clear c15
    try clear c16
    try clear c20
    try clear c21
    try clear c22
    try clear c23
    try clear c27
    try clear c29
    try clear c29b0
    try clear c30
    try clear c30b0
    try clear c31
    try clear c31b0
    try clear c32
    try clear c32b0
    try clear c34
    try clear c34b0
    try clear c34b1
    try clear c35
    try clear c35b0
    try clear c35b1
    try clear c36
    try clear c36b0
    try clear c36b1
    try clear c38
    try clear c39
    try clear c40
    try clear c42
    try clear p42
    try clear q42
    try clear hx42
    try clear p43
    try clear q43
    try clear hx43
    try clear c45
    try clear q45
    try clear c46
    try clear c46b0
    try clear c47
    try clear c47b0
    try clear c48
    try clear c48b0
    try clear c49
    try clear c49b0
    try clear c49b1
    try clear c50
    try clear c50b0
    try clear c50b1
    try clear c51
    try clear c51b0
    try clear c51b1
    try clear c52
    try clear c52b0
    try clear c52b1
    try clear c53
    try clear c55
    try clear c56
    try clear c57
    try clear c58
    try clear c62
    try clear q62
    try clear p64
    try clear c65
    try clear c66
    try clear c67
    try clear c68
    try clear hcz10_0
    try clear hcz10_1
    try clear hcz10_2
    try clear hcz10_3
    try clear hcz10_4
    try clear hcz10_5
    try clear hcz17_0
    try clear hcz17_1
    try clear hcz21_0
    try clear hcz21_1
    try clear hcz21_2
    try clear hcz21_3
    try clear hcz21_4
    try clear hcz21_5
    try clear hcz23_0
    try clear hcz23_1
    try clear hcz24_0
    try clear hcz24_1
    try clear hcz24_2
    try clear hcz24_3
    try clear hcz24_4
    try clear hcz24_5
    try clear hcz41_0
    try clear hcz41_1
    try clear hcz41_2
    try clear hcz41_3
    try clear hcz59_0
    try clear hcz59_1
    try clear hcz59_2
    try clear hcz59_3
    try clear hcz61_0
    try clear hcz61_1
    try clear hcz61_2
    try clear hcz61_3
    try clear hcz69_0
    try clear hcz69_1
    try clear hcz69_2
    try clear hcz69_3
    try clear hcz71_0
    try clear hcz71_1
    try clear hcz71_2
    try clear hcz71_3
    try clear hfz10_0
    try clear hfz10_1
    try clear hfz10_2
    try clear hfz10_3
    try clear hfz10_4
    try clear hfz10_5
    try clear hfz17_0
    try clear hfz17_1
    try clear hfz21_0
    try clear hfz21_1
    try clear hfz21_2
    try clear hfz21_3
    try clear hfz21_4
    try clear hfz21_5
    try clear hfz23_0
    try clear hfz23_1
    try clear hfz24_0
    try clear hfz24_1
    try clear hfz24_2
    try clear hfz24_3
    try clear hfz24_4
    try clear hfz24_5
    try clear hfz41_0
    try clear hfz41_1
    try clear hfz41_2
    try clear hfz41_3
    try clear hfz59_0
    try clear hfz59_1
    try clear hfz59_2
    try clear hfz59_3
    try clear hfz61_0
    try clear hfz61_1
    try clear hfz61_2
    try clear hfz61_3
    try clear hfz69_0
    try clear hfz69_1
    try clear hfz69_2
    try clear hfz69_3
    try clear hfz71_0
    try clear hfz71_1
    try clear hfz71_2
    try clear hfz71_3
    try clear hx425_0
    try clear hx426_0
    try clear hx426_1
    try clear hx426_2
    try clear hx426_3
    try clear hx433_0
    try clear hx433_1
    try clear hx433_2
    try clear hx433_3
    try clear p2
    try clear p4
    try clear p42
    try clear p425
    try clear p426
    try clear p433
    try clear q045
    try clear q062
    try clear q4
    try clear q42
    try clear q425
    try clear q426
    try clear q433
    try clear q45
    try clear q62
    clear HO_14; obtain ⟨x15_3, x79_3, rfl, HA, HK3, HO_8, HO_10, HO_12, HO_14, HO_15, HO_35, HO_77, HO_421000, HO_421001, BK400, BK420, BK421, BK427, HB⟩ := hrel; cases gk with
    | zero => exact absurd HA.out (by simp [stanzalaw22_DrawWords.l2])
    | succ k3 =>
     have H := HA.out; clear HA; simp only [stanzalaw22_DrawWords.l2] at H; by_cases c72 : x79_3 < ((rd_L5 t422 x37_1).length : Int)
     rotate_left
     ·rw [if_neg c72] at H
      have c72b0 : decide (x79_3 < ((rd_L5 t422 x37_1).length : Int)) = false := decide_eq_false c72
      clear c72; by_cases c79 : (strOfNums x15_3).toList = (strOfNums x14_2).toList
      rotate_left
      ·rw [if_neg c79] at H
       have c79b0 : ((strOfNums x15_3).toList == (strOfNums x14_2).toList) = false := beq_eq_false_iff_ne.mpr c79
       have c79b1 : ((strOfNums x15_3).toList != (strOfNums x14_2).toList) = true := bne_iff_ne.mpr c79
       exact absurd ((Option.some.inj H).trans hrt_.out) (by decide)
      rw [if_pos c79] at H; have c79b0 : ((strOfNums x15_3).toList == (strOfNums x14_2).toList) = true := beq_iff_eq.mpr c79
      have c79b1 : ((strOfNums x15_3).toList != (strOfNums x14_2).toList) = false := bne_eq_false_iff_eq.mpr c79
      clear c79; by_cases c80 : ((rd_T45 t408 x37_1).f3) = 3
      rotate_left
      ·rw [if_neg c80] at H
       have c80b0 : (((rd_T45 t408 x37_1).f3) == 3) = false := beq_eq_false_iff_ne.mpr c80
       have c80b1 : (((rd_T45 t408 x37_1).f3) != 3) = true := bne_iff_ne.mpr c80
       have H' := zA.mk H
       clear H; have hcv92 := own_string (P := Try.prog) Try.underlying51 Try.underlying5 Try.underlying9 (Kd.own_of_R HO_15.out); have hcv93 := own_string (P := Try.prog) Try.underlying51 Try.underlying5 Try.underlying9 (Kd.own_of_R HO_14.out); have hnb94 := NB427_400.out; have hnc94 := NB400_427.out; have hnb95 := NB427_420.out; have hnc95 := NB420_427.out; have hnb96 := NB427_421.out; have hnc96 := NB421_427.out; obtain ⟨hcz97_0, hcz97_1, hcz97_2, hcz97_3, hfz97_0, hfz97_1, hfz97_2, hfz97_3⟩ := aC4 BK427; go_wp2
       go_roundg k3
       case measure => have := HK1.out; have := HK2.out; have := HK3.out; omega
       case rel => exact ⟨(wrap64 (x37_1 + 1)), aZ, H', ⟨by have := HK1.out; have := HK2.out; have := HK3.out; omega⟩, ⟨by (with_reducible repeat (first | apply Kd.zI | apply Kd.zJ | apply Kd.zK)); exact Kd.zU HO_8.out (fun _ hk => trivial)⟩, ⟨by (with_reducible repeat (first | apply Kd.zI | apply Kd.zJ | apply Kd.zK)); exact Kd.zU HO_10.out (fun _ hk => trivial)⟩, ⟨by (with_reducible repeat (first | apply Kd.S_alloc | apply Kd.S_drewN | apply Kd.S_drew)); exact Kd.S_mono HO_35.out (fun _ hk => trivial)⟩, ⟨aR HO_421000⟩, ⟨aR HO_421001⟩, ⟨aB BK400⟩, ⟨aB BK420⟩, ⟨aB BK421⟩, ⟨aL HB⟩⟩
      rw [if_pos c80] at H; have c80b0 : (((rd_T45 t408 x37_1).f3) == 3) = true := beq_iff_eq.mpr c80
      have c80b1 : (((rd_T45 t408 x37_1).f3) != 3) = false := bne_eq_false_iff_eq.mpr c80
      clear c80; by_cases c81 : ((rd_L5 t422 x37_1).length : Int) = 0
      ·rw [if_pos c81] at H
       have c81b0 : (((rd_L5 t422 x37_1).length : Int) == 0) = true := beq_iff_eq.mpr c81
       have c81b1 : (((rd_L5 t422 x37_1).length : Int) != 0) = false := bne_eq_false_iff_eq.mpr c81
       clear c81; exact absurd ((Option.some.inj H).trans hrt_.out) (by decide)
      rw [if_neg c81] at H; have c81b0 : (((rd_L5 t422 x37_1).length : Int) == 0) = false := beq_eq_false_iff_ne.mpr c81
      have c81b1 : (((rd_L5 t422 x37_1).length : Int) != 0) = true := bne_iff_ne.mpr c81
      have c81b2 : ¬ ((rd_L5 t422 x37_1) = []) := fun h_ => c81 (by rw [h_]; rfl)
      obtain ⟨ji82, hji82⟩ : ∃ j_ : Int, (wrap64 (((rd_L5 t422 x37_1).length : Int) - 1)) = j_ := ⟨_, rfl⟩; replace H : (if 0 ≤ (ji82) then (if (ji82) < ((rd_L5 t422 x37_1).length : Int) then (if (rd (rd_L5 t422 x37_1) (ji82)) = 45 then (stanzalaw22_DrawWords.l0 k3 t408 t417 t422 (t422.length : Int) (wrap64 (x37_1 + 1)) t402 t405) else (some false)) else (none)) else (none)) = some r := by first | (rw [hji82] at H; exact H) | (simp only [hji82] at H ⊢; exact H)
      have hji82w : (IntKind.i64.wrap (((rd_L5 t422 x37_1).length : Int) - 1)) = ji82 := (i64_w _).trans hji82
      by_cases c83 : 0 ≤ (ji82)
      rotate_left
      ·rw [if_neg c83] at H
       exact absurd H (by simp)
      rw [if_pos c83] at H; have c83b0 : decide (0 ≤ (ji82)) = true := decide_eq_true c83
      clear c83; by_cases c84 : (ji82) < ((rd_L5 t422 x37_1).length : Int)
      rotate_left
      ·rw [if_neg c84] at H
       exact absurd H (by simp)
      rw [if_pos c84] at H; have c84b0 : decide ((ji82) < ((rd_L5 t422 x37_1).length : Int)) = true := decide_eq_true c84
      clear c84; by_cases c85 : (rd (rd_L5 t422 x37_1) (ji82)) = 45
      rotate_left
      ·rw [if_neg c85] at H
       have c85b0 : ((rd (rd_L5 t422 x37_1) (ji82)) == 45) = false := beq_eq_false_iff_ne.mpr c85
       have c85b1 : ((rd (rd_L5 t422 x37_1) (ji82)) != 45) = true := bne_iff_ne.mpr c85
       exact absurd ((Option.some.inj H).trans hrt_.out) (by decide)
      rw [if_pos c85] at H; have c85b0 : ((rd (rd_L5 t422 x37_1) (ji82)) == 45) = true := beq_iff_eq.mpr c85
      have c85b1 : ((rd (rd_L5 t422 x37_1) (ji82)) != 45) = false := bne_eq_false_iff_eq.mpr c85
      clear c85; have H' := zA.mk H
      clear H; have hcv86 := own_string (P := Try.prog) Try.underlying51 Try.underlying5 Try.underlying9 (Kd.own_of_R HO_15.out); have hcv87 := own_string (P := Try.prog) Try.underlying51 Try.underlying5 Try.underlying9 (Kd.own_of_R HO_14.out); have hnb88 := NB427_400.out; have hnc88 := NB400_427.out; have hnb89 := NB427_420.out; have hnc89 := NB420_427.out; have hnb90 := NB427_421.out; have hnc90 := NB421_427.out; obtain ⟨hcz91_0, hcz91_1, hcz91_2, hcz91_3, hfz91_0, hfz91_1, hfz91_2, hfz91_3⟩ := aC4 BK427; have p446 : 0 ≤ ((ji82) : Int) := aD
      have q446 : (ji82) < ((rd_L5 t422 x37_1).length : Int) := aD
      obtain ⟨ad446, e446, hx446_0⟩ := Kd.at_int (Kd.zP HO_12.out).2.2 (ji82) p446 q446; cases e446
      replace p446 := eq_true p446; replace q446 := eq_true q446; go_wp2
      go_roundg k3
      case measure => have := HK1.out; have := HK2.out; have := HK3.out; omega
      case rel => exact ⟨(wrap64 (x37_1 + 1)), aZ, H', ⟨by have := HK1.out; have := HK2.out; have := HK3.out; omega⟩, ⟨by (with_reducible repeat (first | apply Kd.zI | apply Kd.zJ | apply Kd.zK)); exact Kd.zU HO_8.out (fun _ hk => trivial)⟩, ⟨by (with_reducible repeat (first | apply Kd.zI | apply Kd.zJ | apply Kd.zK)); exact Kd.zU HO_10.out (fun _ hk => trivial)⟩, ⟨by (with_reducible repeat (first | apply Kd.S_alloc | apply Kd.S_drewN | apply Kd.S_drew)); exact Kd.S_mono HO_35.out (fun _ hk => trivial)⟩, ⟨aR HO_421000⟩, ⟨aR HO_421001⟩, ⟨aB BK400⟩, ⟨aB BK420⟩, ⟨aB BK421⟩, ⟨aL HB⟩⟩
     rw [if_pos c72] at H; have c72b0 : decide (x79_3 < ((rd_L5 t422 x37_1).length : Int)) = true := decide_eq_true c72
     clear c72; by_cases c73 : 0 ≤ x79_3
     rotate_left
     ·rw [if_neg c73] at H
      exact absurd H (by simp)
     rw [if_pos c73] at H; have c73b0 : decide (0 ≤ x79_3) = true := decide_eq_true c73
     clear c73; by_cases c74 : x79_3 < ((rd_L5 t422 x37_1).length : Int)
     rotate_left
     ·rw [if_neg c74] at H
      exact absurd H (by simp)
     rw [if_pos c74] at H; have c74b0 : decide (x79_3 < ((rd_L5 t422 x37_1).length : Int)) = true := decide_eq_true c74
     clear c74; by_cases c75 : (rd (rd_L5 t422 x37_1) x79_3) = 32
     ·rw [if_pos c75] at H
      have c75b0 : ((rd (rd_L5 t422 x37_1) x79_3) == 32) = true := beq_iff_eq.mpr c75
      have c75b1 : ((rd (rd_L5 t422 x37_1) x79_3) != 32) = false := bne_eq_false_iff_eq.mpr c75
      clear c75; have H' := zA.mk H
      clear H; have p442 : 0 ≤ (x79_3 : Int) := aD
      have q442 : x79_3 < ((rd_L5 t422 x37_1).length : Int) := aD
      obtain ⟨ad442, e442, hx442_0⟩ := Kd.at_int (Kd.zP HO_77.out).2.2 x79_3 p442 q442; cases e442
      replace p442 := eq_true p442; replace q442 := eq_true q442; go_wp2
      go_roundg k3
      case measure => have := HK1.out; have := HK2.out; have := HK3.out; omega
      case rel => exact ⟨(x15_3), (wrap64 (x79_3 + 1)), aZ, H', ⟨by have := HK1.out; have := HK2.out; have := HK3.out; omega⟩, ⟨aR HO_8⟩, ⟨aR HO_10⟩, ⟨aR HO_12⟩, ⟨aR HO_14⟩, ⟨aR HO_15⟩, ⟨aS HO_35⟩, ⟨aR HO_77⟩, ⟨aR HO_421000⟩, ⟨aR HO_421001⟩, ⟨aB BK400⟩, ⟨aB BK420⟩, ⟨aB BK421⟩, ⟨aB BK427⟩, ⟨aL HB⟩⟩
     rw [if_neg c75] at H; have c75b0 : ((rd (rd_L5 t422 x37_1) x79_3) == 32) = false := beq_eq_false_iff_ne.mpr c75
     have c75b1 : ((rd (rd_L5 t422 x37_1) x79_3) != 32) = true := bne_iff_ne.mpr c75
     by_cases c76 : (rd (rd_L5 t422 x37_1) x79_3) = 45
     ·rw [if_pos c76] at H
      have c76b0 : ((rd (rd_L5 t422 x37_1) x79_3) == 45) = true := beq_iff_eq.mpr c76
      have c76b1 : ((rd (rd_L5 t422 x37_1) x79_3) != 45) = false := bne_eq_false_iff_eq.mpr c76
      clear c76; have H' := zA.mk H
      clear H; have p442 : 0 ≤ (x79_3 : Int) := aD
      have q442 : x79_3 < ((rd_L5 t422 x37_1).length : Int) := aD
      obtain ⟨ad442, e442, hx442_0⟩ := Kd.at_int (Kd.zP HO_77.out).2.2 x79_3 p442 q442; cases e442
      replace p442 := eq_true p442; replace q442 := eq_true q442; go_wp2
      go_roundg k3
      case measure => have := HK1.out; have := HK2.out; have := HK3.out; omega
      case rel => exact ⟨(x15_3), (wrap64 (x79_3 + 1)), aZ, H', ⟨by have := HK1.out; have := HK2.out; have := HK3.out; omega⟩, ⟨aR HO_8⟩, ⟨aR HO_10⟩, ⟨aR HO_12⟩, ⟨aR HO_14⟩, ⟨aR HO_15⟩, ⟨aS HO_35⟩, ⟨aR HO_77⟩, ⟨aR HO_421000⟩, ⟨aR HO_421001⟩, ⟨aB BK400⟩, ⟨aB BK420⟩, ⟨aB BK421⟩, ⟨aB BK427⟩, ⟨aL HB⟩⟩
     rw [if_neg c76] at H; have c76b0 : ((rd (rd_L5 t422 x37_1) x79_3) == 45) = false := beq_eq_false_iff_ne.mpr c76
     have c76b1 : ((rd (rd_L5 t422 x37_1) x79_3) != 45) = true := bne_iff_ne.mpr c76
     by_cases c77 : x15_3.length < 140737488355328
     rotate_left
     ·rw [if_neg c77] at H
      exact absurd H (by simp)
     rw [if_pos c77] at H; have LMc77 := zA.mk c77; clear c77; obtain ⟨y443, hy443⟩ : ∃ y_ : List Int, y_ = (x15_3 ++ [rd (rd_L5 t422 x37_1) x79_3]) := ⟨_, rfl⟩; replace H : (stanzalaw22_DrawWords.l2 k3 t408 t417 (rd_L5 t422 x37_1) x14_2 y443 t422 (t422.length : Int) x37_1 (rd_L5 t422 x37_1) ((rd_L5 t422 x37_1).length : Int) (wrap64 (x79_3 + 1)) t402 t405 ((rd_T45 t408 x37_1).f0) ((rd_T45 t408 x37_1).f1) ((rd_T45 t408 x37_1).f2) ((rd_T45 t408 x37_1).f3)) = some r := by first | (rw [hy443]; with_reducible exact H) | (have H2_ := (Option.bind_some _ _).symm.trans H; rw [hy443]; with_reducible exact H2_) | (have H2_ := (Option.bind_some _ _).symm.trans H; with_reducible exact H2_) | with_reducible exact H | (rw [hy443]; exact H) | exact H
     have Ny443 := zA.mk hy443; clear hy443; have H' := zA.mk H
     clear H; have p442 : 0 ≤ (x79_3 : Int) := aD
     have q442 : x79_3 < ((rd_L5 t422 x37_1).length : Int) := aD
     obtain ⟨ad442, e442, hx442_0⟩ := Kd.at_int (Kd.zP HO_77.out).2.2 x79_3 p442 q442; cases e442
     replace p442 := eq_true p442; replace q442 := eq_true q442; go_wp2_with (first | ((with_reducible refine gate_builtin (b := .append) (xs := #[.tmp 89, .tmp 91]) rfl ?_); (try (refine gate_guard (by rfl) ?_; dsimp only)); at_builtin; refine Kd.R_append (Kd.int .u8) (w0 := w) w.heap.size rfl (.tmp 89) (.tmp 91) 51 5 (.int .u8 0) 1 rfl Try.underlying51 info5 rfl (by decide) (by omega) u15 x15_3 (rd (rd_L5 t422 x37_1) x79_3) [.int .u8 (rd (rd_L5 t422 x37_1) x79_3)] (fun k_ => some k_ ≠ (.slice Ao25 t417.length co25 : Value).ownBlock ∧ some k_ ≠ (.slice (some ad442) (rd_L5 t422 x37_1).length c425_0 : Value).ownBlock ∧ some k_ ≠ (u14 : Value).ownBlock ∧ some k_ ≠ (.slice (some ad442) (rd_L5 t422 x37_1).length c425_0 : Value).ownBlock) (fun _ => False) rfl rfl ?aP (fun _ hk => hk.elim) ?aF ?aO ?aB ?aS ?aL ?_; (case aP => exact rfl); (case aB => exact (aL HB)); (case aF => exact (fun k_ hk => ⟨Kd.fresh' (Kd.R_lt (aR HO_10)) k_ hk, Kd.fresh' (Kd.R_lt (aR HO_12)) k_ hk, Kd.fresh' (Kd.R_lt (aR HO_14)) k_ hk, Kd.fresh' (Kd.R_lt (aR HO_77)) k_ hk⟩)); (case aO => exact (aR HO_15)); (case aS => exact (zE (aL HB))); (case aL => have := LMc77.out; omega); intro v444 w78 ho hb hg hat; rw [← Ny443.out] at ho; have n0_ := zA.mk (Kd.R_over' (aR HO_8) (Kd.R_typed (aR HO_15)) (by decide) hg); have n1_ := zA.mk (Kd.R_after (ok := (fun _ => True)) (by (with_reducible repeat (first | apply Kd.zI | apply Kd.zJ | apply Kd.zK)); exact Kd.zU HO_10.out (fun _ hk => ⟨trivial, hk⟩)) hg hat); have n2_ := zA.mk (Kd.R_after (ok := (fun _ => True)) (by (with_reducible repeat (first | apply Kd.zI | apply Kd.zJ | apply Kd.zK)); exact Kd.zU HO_12.out (fun _ hk => ⟨trivial, hk⟩)) hg hat); have n3_ := zA.mk (Kd.R_after (ok := (fun _ => True)) (by (with_reducible repeat (first | apply Kd.zI | apply Kd.zJ | apply Kd.zK)); exact Kd.zU HO_14.out (fun _ hk => ⟨trivial, hk⟩)) hg hat); have n4_ := zA.mk (Kd.S_after (ok := (fun _ => True)) (by (with_reducible repeat (first | apply Kd.S_alloc | apply Kd.S_drewN | apply Kd.S_drew)); exact Kd.S_mono HO_35.out (fun _ hk => ⟨trivial, hk⟩)) hg hat); have n5_ := zA.mk (Kd.R_after (ok := (fun _ => True)) (by (with_reducible repeat (first | apply Kd.zI | apply Kd.zJ | apply Kd.zK)); exact Kd.zU HO_77.out (fun _ hk => ⟨trivial, hk⟩)) hg hat); have n6_ := zA.mk (Kd.R_over' (aR HO_421000) (Kd.R_typed (aR HO_15)) (by decide) hg); have n7_ := zA.mk (Kd.R_over' (aR HO_421001) (Kd.R_typed (aR HO_15)) (by decide) hg); have n8_ := zA.mk (blk_grown (g := gb400) (o := .cells #[.int .u8 a1_0, .int .u8 a1_1, .int .u8 a1_2, .int .u16 a1_3, .int .u16 a1_4, .float .f64 a1_5] 26 (0, 0)) (aB BK400) hg (Kd.R_ne HO_15.out BK400.out (by decide))); have n9_ := zA.mk (blk_grown (g := gb420) (o := .cells #[.slice Ao14 t402.length co14, .slice Ao18 t405.length co18] 31 (0, 0)) (aB BK420) hg (Kd.R_ne HO_15.out BK420.out (by decide))); have n10_ := zA.mk (blk_grown (g := gb421) (o := .cells #[.int .i64 t411, .int .i64 t412, .int .u8 t413, .int .i64 t414, .int .i64 t415, .float .f64 t416] 35 (0, 0)) (aB BK421) hg (Kd.R_ne HO_15.out BK421.out (by decide))); have n11_ := zA.mk (blk_grown (g := gb427) (o := .cells #[.int .i64 ((rd_T45 t408 x37_1).f0), .int .i64 ((rd_T45 t408 x37_1).f1), .int .i64 ((rd_T45 t408 x37_1).f2), .int .u8 ((rd_T45 t408 x37_1).f3)] 45 (0, 0)) (aB BK427) hg (Kd.R_ne HO_15.out BK427.out (by decide))); have n12_ := zA.mk (hb); have n13_ := zA.mk (ho); clear HO_8; clear HO_10; clear HO_12; clear HO_14; clear HO_35; clear HO_77; clear HO_421000; clear HO_421001; clear BK400; clear BK420; clear BK421; clear BK427; clear HB; clear HO_15; have HO_8 := n0_; have HO_10 := n1_; have HO_12 := n2_; have HO_14 := n3_; have HO_35 := n4_; have HO_77 := n5_; have HO_421000 := n6_; have HO_421001 := n7_; have BK400 := n8_; have BK420 := n9_; have BK421 := n10_; have BK427 := n11_; have HB := n12_; have HO445 := n13_; clear n0_ n1_ n2_ n3_ n4_ n5_ n6_ n7_ n8_ n9_ n10_ n11_ n12_ n13_; clear ho hb hg hat))
     go_roundg k3
     case measure => have := HK1.out; have := HK2.out; have := HK3.out; omega
     case rel => exact ⟨(y443), (wrap64 (x79_3 + 1)), aZ, H', ⟨by have := HK1.out; have := HK2.out; have := HK3.out; omega⟩, ⟨aR HO_8⟩, ⟨by (with_reducible repeat (first | apply Kd.zI | apply Kd.zJ | apply Kd.zK)); exact Kd.zU HO_10.out (fun _ hk => hk.2)⟩, ⟨by (with_reducible repeat (first | apply Kd.zI | apply Kd.zJ | apply Kd.zK)); exact Kd.zU HO_12.out (fun _ hk => hk.2)⟩, ⟨by (with_reducible repeat (first | apply Kd.zI | apply Kd.zJ | apply Kd.zK)); exact Kd.zU HO_14.out (fun _ hk => hk.2)⟩, ⟨aR HO445⟩, ⟨by (with_reducible repeat (first | apply Kd.S_alloc | apply Kd.S_drewN | apply Kd.S_drew)); exact Kd.S_mono HO_35.out (fun _ hk => hk.2)⟩, ⟨by (with_reducible repeat (first | apply Kd.zI | apply Kd.zJ | apply Kd.zK)); exact Kd.zU HO_77.out (fun _ hk => hk.2)⟩, ⟨aR HO_421000⟩, ⟨aR HO_421001⟩, ⟨aB BK400⟩, ⟨aB BK420⟩, ⟨aB BK421⟩, ⟨aB BK427⟩, ⟨aL HB⟩⟩
   rw [if_pos c46] at H; have c46b0 : decide (x58_2 < (y429.length : Int)) = true := decide_eq_true c46
   clear c46; by_cases c47 : 0 ≤ x58_2
   rotate_left
   ·rw [if_neg c47] at H
    exact absurd H (by simp)
   rw [if_pos c47] at H; have c47b0 : decide (0 ≤ x58_2) = true := decide_eq_true c47
   clear c47; by_cases c48 : x58_2 < (y429.length : Int)
   rotate_left
   ·rw [if_neg c48] at H
    exact absurd H (by simp)
   rw [if_pos c48] at H; have c48b0 : decide (x58_2 < (y429.length : Int)) = true := decide_eq_true c48
   clear c48; by_cases c49 : ((rd_T61 y429 x58_2).f3) = 0
   rotate_left
   ·rw [if_neg c49] at H
    have c49b0 : (((rd_T61 y429 x58_2).f3) == 0) = false := beq_eq_false_iff_ne.mpr c49
    have c49b1 : (((rd_T61 y429 x58_2).f3) != 0) = true := bne_iff_ne.mpr c49
    have H' := zA.mk H
    clear H; have p433 : 0 ≤ (x58_2 : Int) := aD
    have q433 : x58_2 < (y429.length : Int) := aD
    obtain ⟨ad433, e433, hx433_0, hx433_1, hx433_2, hx433_3⟩ := at_T61 (show Kd.C k61 _ A45 y429.length y429 from by rw [Ny429.out, KA45.out]; exact Kd.C_mid (lo := (((rd_T45 t408 x37_1).f0) : Int).toNat) (hi := (t428 : Int).toNat) (c := co14) ((Kd.zP HO_421000.out).2.2) KM45.out KL45.out ((Kd.zP HO_421000.out).2.1)) x58_2 p433 q433
    cases e433
    replace p433 := eq_true p433; replace q433 := eq_true q433; go_wp2_with (first | ((with_reducible refine gate_dst (N := 17) rfl ?_); (try (refine gate_guard (by rfl) ?_; dsimp only)); refine box_event ?hg (N := 17) ?hd (cs := #[.int .i64 0, .int .i64 0, .int .i64 0, .int .u8 0]) (t := 61) ?hr ?_; (case hd => rfl); (case hg => rfl); (case hr => first | (go_simp; done) | (go_simp; rfl)); intro gb434 hg w64 hbox hb; have n0_ := zA.mk (Kd.zQ (aR HO_8) hb); have n1_ := zA.mk (Kd.zQ (aR HO_10) hb); have n2_ := zA.mk (Kd.zQ (aR HO_12) hb); have n3_ := zA.mk (Kd.zQ (aR HO_14) hb); have n4_ := zA.mk (Kd.S_below (aS HO_35) hb); have n5_ := zA.mk (Kd.zQ (Kd.R_elderB (aR HO_421000) gb434 (Nat.le_of_eq hg.symm)) hb); have n6_ := zA.mk (Kd.zQ (aR HO_421001) hb); have n7_ := zA.mk (zB (g := gb400) (o := .cells #[.int .u8 a1_0, .int .u8 a1_1, .int .u8 a1_2, .int .u16 a1_3, .int .u16 a1_4, .float .f64 a1_5] 26 (0, 0)) (aB BK400) hb); have n8_ := zA.mk (zB (g := gb420) (o := .cells #[.slice Ao14 t402.length co14, .slice Ao18 t405.length co18] 31 (0, 0)) (aB BK420) hb); have n9_ := zA.mk (zB (g := gb421) (o := .cells #[.int .i64 t411, .int .i64 t412, .int .u8 t413, .int .i64 t414, .int .i64 t415, .float .f64 t416] 35 (0, 0)) (aB BK421) hb); have n10_ := zA.mk (zB (g := gb427) (o := .cells #[.int .i64 ((rd_T45 t408 x37_1).f0), .int .i64 ((rd_T45 t408 x37_1).f1), .int .i64 ((rd_T45 t408 x37_1).f2), .int .u8 ((rd_T45 t408 x37_1).f3)] 45 (0, 0)) (aB BK427) hb); have n11_ := zA.mk (zH (aL HB) hb); have n12_ := zA.mk (hbox); have n13_ := zA.mk ((by rw [hg]; exact (zE (aL HB)) : w.heap.size ≤ gb434)); have n14_ := zA.mk ((by rw [hg]; exact (zE (aL HB)) : w.heap.size ≤ gb434)); have n15_ := zA.mk ((by rw [hg]; exact Nat.ne_of_lt (blk_lt (g := gb400) (o := .cells #[.int .u8 a1_0, .int .u8 a1_1, .int .u8 a1_2, .int .u16 a1_3, .int .u16 a1_4, .float .f64 a1_5] 26 (0, 0)) (aB BK400)) : gb400 ≠ gb434)); have n16_ := zA.mk ((by rw [hg]; exact Nat.ne_of_gt (blk_lt (g := gb400) (o := .cells #[.int .u8 a1_0, .int .u8 a1_1, .int .u8 a1_2, .int .u16 a1_3, .int .u16 a1_4, .float .f64 a1_5] 26 (0, 0)) (aB BK400)) : gb434 ≠ gb400)); have n17_ := zA.mk ((by rw [hg]; exact Nat.ne_of_lt (blk_lt (g := gb420) (o := .cells #[.slice Ao14 t402.length co14, .slice Ao18 t405.length co18] 31 (0, 0)) (aB BK420)) : gb420 ≠ gb434)); have n18_ := zA.mk ((by rw [hg]; exact Nat.ne_of_gt (blk_lt (g := gb420) (o := .cells #[.slice Ao14 t402.length co14, .slice Ao18 t405.length co18] 31 (0, 0)) (aB BK420)) : gb434 ≠ gb420)); have n19_ := zA.mk ((by rw [hg]; exact Nat.ne_of_lt (blk_lt (g := gb421) (o := .cells #[.int .i64 t411, .int .i64 t412, .int .u8 t413, .int .i64 t414, .int .i64 t415, .float .f64 t416] 35 (0, 0)) (aB BK421)) : gb421 ≠ gb434)); have n20_ := zA.mk ((by rw [hg]; exact Nat.ne_of_gt (blk_lt (g := gb421) (o := .cells #[.int .i64 t411, .int .i64 t412, .int .u8 t413, .int .i64 t414, .int .i64 t415, .float .f64 t416] 35 (0, 0)) (aB BK421)) : gb434 ≠ gb421)); have n21_ := zA.mk ((by rw [hg]; exact Nat.ne_of_lt (blk_lt (g := gb427) (o := .cells #[.int .i64 ((rd_T45 t408 x37_1).f0), .int .i64 ((rd_T45 t408 x37_1).f1), .int .i64 ((rd_T45 t408 x37_1).f2), .int .u8 ((rd_T45 t408 x37_1).f3)] 45 (0, 0)) (aB BK427)) : gb427 ≠ gb434)); have n22_ := zA.mk ((by rw [hg]; exact Nat.ne_of_gt (blk_lt (g := gb427) (o := .cells #[.int .i64 ((rd_T45 t408 x37_1).f0), .int .i64 ((rd_T45 t408 x37_1).f1), .int .i64 ((rd_T45 t408 x37_1).f2), .int .u8 ((rd_T45 t408 x37_1).f3)] 45 (0, 0)) (aB BK427)) : gb434 ≠ gb427)); clear HO_8; clear HO_10; clear HO_12; clear HO_14; clear HO_35; clear HO_421000; clear HO_421001; clear BK400; clear BK420; clear BK421; clear BK427; clear HB; have HO_8 := n0_; have HO_10 := n1_; have HO_12 := n2_; have HO_14 := n3_; have HO_35 := n4_; have HO_421000 := n5_; have HO_421001 := n6_; have BK400 := n7_; have BK420 := n8_; have BK421 := n9_; have BK427 := n10_; have HB := n11_; have BK434 := n12_; have GW434 := n13_; have GE434 := n14_; have NB400_434 := n15_; have NB434_400 := n16_; have NB420_434 := n17_; have NB434_420 := n18_; have NB421_434 := n19_; have NB434_421 := n20_; have NB427_434 := n21_; have NB434_427 := n22_; clear n0_ n1_ n2_ n3_ n4_ n5_ n6_ n7_ n8_ n9_ n10_ n11_ n12_ n13_ n14_ n15_ n16_ n17_ n18_ n19_ n20_ n21_ n22_; clear hb hbox hg; have hnb65 := NB434_400.out; have hnc65 := NB400_434.out; have hnb66 := NB434_420.out; have hnc66 := NB420_434.out; have hnb67 := NB434_421.out; have hnc67 := NB421_434.out; have hnb68 := NB434_427.out; have hnc68 := NB427_434.out; obtain ⟨hcz69_0, hcz69_1, hcz69_2, hcz69_3, hfz69_0, hfz69_1, hfz69_2, hfz69_3⟩ := aC4 BK434) | ((with_reducible refine gate_store (t := 61) (p := 17) rfl ?_); refine store_event (t := 61) (p := 17) (v := ?vo_w70) (w1 := ((((w64.setCell ⟨gb434, 0, none⟩ (.int .i64 ((rd_T61 y429 x58_2).f0))).setCell ⟨gb434, 1, none⟩ (.int .i64 ((rd_T61 y429 x58_2).f1))).setCell ⟨gb434, 2, none⟩ (.int .i64 ((rd_T61 y429 x58_2).f2))).setCell ⟨gb434, 3, none⟩ (.int .u8 ((rd_T61 y429 x58_2).f3)))) ?hg ?ho ?hn ?hr ?_; (case ho => rfl); (case hg => rfl); (case hn => rfl); (case hr => first | (go_simp; done) | (go_simp; rfl)); intro w70 hw; have n0_ : zA (Kd.R k45 45 w70 w.heap.size (fun k_ => k_ ≠ gb427) (.slice (some ad426) t408.length co26) t408) := ⟨(by rw [hw]; exact (by (with_reducible repeat (first | apply Kd.zI | apply Kd.zJ | apply Kd.zK)); exact Kd.zU (Kd.zR (p := ⟨gb434, 3, none⟩) (Kd.zR (p := ⟨gb434, 2, none⟩) (Kd.zR (p := ⟨gb434, 1, none⟩) (Kd.zR (p := ⟨gb434, 0, none⟩) (Kd.zV HO_8.out BK434.out (by decide)) (fun _ hk => hk.2) (.int .i64 ((rd_T61 y429 x58_2).f0))) (fun _ hk => hk.2) (.int .i64 ((rd_T61 y429 x58_2).f1))) (fun _ hk => hk.2) (.int .i64 ((rd_T61 y429 x58_2).f2))) (fun _ hk => hk.2) (.int .u8 ((rd_T61 y429 x58_2).f3))) (fun _ hk => hk.1)))⟩; have n1_ : zA (Kd.R (Kd.int .u8) 5 w70 w.heap.size (fun k_ => some k_ ≠ (u14 : Value).ownBlock) (.slice Ao25 t417.length co25) t417) := ⟨(by rw [hw]; exact (by (with_reducible repeat (first | apply Kd.zI | apply Kd.zJ | apply Kd.zK)); exact Kd.zU (Kd.zR (p := ⟨gb434, 3, none⟩) (Kd.zR (p := ⟨gb434, 2, none⟩) (Kd.zR (p := ⟨gb434, 1, none⟩) (Kd.zR (p := ⟨gb434, 0, none⟩) (Kd.zV HO_10.out BK434.out (by decide)) (fun _ hk => hk.2) (.int .i64 ((rd_T61 y429 x58_2).f0))) (fun _ hk => hk.2) (.int .i64 ((rd_T61 y429 x58_2).f1))) (fun _ hk => hk.2) (.int .i64 ((rd_T61 y429 x58_2).f2))) (fun _ hk => hk.2) (.int .u8 ((rd_T61 y429 x58_2).f3))) (fun _ hk => hk.1)))⟩; have n2_ : zA (Kd.R (Kd.int .u8) 5 w70 w.heap.size (fun k_ => some k_ ≠ (u14 : Value).ownBlock) (.slice A425_0 (rd_L5 t422 x37_1).length c425_0) (rd_L5 t422 x37_1)) := ⟨(by rw [hw]; exact (by (with_reducible repeat (first | apply Kd.zI | apply Kd.zJ | apply Kd.zK)); exact Kd.zU (Kd.zR (p := ⟨gb434, 3, none⟩) (Kd.zR (p := ⟨gb434, 2, none⟩) (Kd.zR (p := ⟨gb434, 1, none⟩) (Kd.zR (p := ⟨gb434, 0, none⟩) (Kd.zV HO_12.out BK434.out (by decide)) (fun _ hk => hk.2) (.int .i64 ((rd_T61 y429 x58_2).f0))) (fun _ hk => hk.2) (.int .i64 ((rd_T61 y429 x58_2).f1))) (fun _ hk => hk.2) (.int .i64 ((rd_T61 y429 x58_2).f2))) (fun _ hk => hk.2) (.int .u8 ((rd_T61 y429 x58_2).f3))) (fun _ hk => hk.1)))⟩; have n3_ : zA (Kd.R (Kd.int .u8) 5 w70 w.heap.size (fun k_ => some k_ ≠ (.slice Ao25 t417.length co25 : Value).ownBlock ∧ some k_ ≠ (.slice A425_0 (rd_L5 t422 x37_1).length c425_0 : Value).ownBlock) u14 x14_2) := ⟨(by rw [hw]; exact (by (with_reducible repeat (first | apply Kd.zI | apply Kd.zJ | apply Kd.zK)); exact Kd.zU (Kd.zR (p := ⟨gb434, 3, none⟩) (Kd.zR (p := ⟨gb434, 2, none⟩) (Kd.zR (p := ⟨gb434, 1, none⟩) (Kd.zR (p := ⟨gb434, 0, none⟩) (Kd.zV HO_14.out BK434.out (by decide)) (fun _ hk => hk.2) (.int .i64 ((rd_T61 y429 x58_2).f0))) (fun _ hk => hk.2) (.int .i64 ((rd_T61 y429 x58_2).f1))) (fun _ hk => hk.2) (.int .i64 ((rd_T61 y429 x58_2).f2))) (fun _ hk => hk.2) (.int .u8 ((rd_T61 y429 x58_2).f3))) (fun _ hk => ⟨hk.1.1, hk.1.2⟩)))⟩; have n4_ : zA (Kd.S (Kd.slice 5 (Kd.int .u8)) 51 w70 w.heap.size (fun k_ => some k_ ≠ (u14 : Value).ownBlock) (.slice (some ad425) t422.length co28) t422) := ⟨(by rw [hw]; exact (by (with_reducible repeat (first | apply Kd.S_alloc | apply Kd.S_drewN | apply Kd.S_drew)); exact Kd.S_mono (Kd.S_far (p := ⟨gb434, 3, none⟩) (Kd.S_far (p := ⟨gb434, 2, none⟩) (Kd.S_far (p := ⟨gb434, 1, none⟩) (Kd.S_far (p := ⟨gb434, 0, none⟩) (Kd.S_types HO_35.out BK434.out (by decide)) (fun _ hk => hk.2) (.int .i64 ((rd_T61 y429 x58_2).f0))) (fun _ hk => hk.2) (.int .i64 ((rd_T61 y429 x58_2).f1))) (fun _ hk => hk.2) (.int .i64 ((rd_T61 y429 x58_2).f2))) (fun _ hk => hk.2) (.int .u8 ((rd_T61 y429 x58_2).f3))) (fun _ hk => hk.1)))⟩; have n5_ : zA (Kd.R k61 61 w70 w.heap.size (fun k_ => k_ ≠ gb434) (.slice Ao14 t402.length co14) t402) := ⟨(by rw [hw]; exact (by (with_reducible repeat (first | apply Kd.zI | apply Kd.zJ | apply Kd.zK)); exact Kd.zU (Kd.zR (p := ⟨gb434, 3, none⟩) (Kd.zR (p := ⟨gb434, 2, none⟩) (Kd.zR (p := ⟨gb434, 1, none⟩) (Kd.zR (p := ⟨gb434, 0, none⟩) (Kd.zU HO_421000.out (fun k_ hk => (⟨hk, hk.2⟩ : _ ∧ k_ ≠ gb434))) (fun _ hk => hk.2) (.int .i64 ((rd_T61 y429 x58_2).f0))) (fun _ hk => hk.2) (.int .i64 ((rd_T61 y429 x58_2).f1))) (fun _ hk => hk.2) (.int .i64 ((rd_T61 y429 x58_2).f2))) (fun _ hk => hk.2) (.int .u8 ((rd_T61 y429 x58_2).f3))) (fun _ hk => hk.1.2)))⟩; have n6_ : zA (Kd.R (Kd.int .u8) 43 w70 w.heap.size (fun _ => True) (.slice Ao18 t405.length co18) t405) := ⟨(by rw [hw]; exact (by (with_reducible repeat (first | apply Kd.zI | apply Kd.zJ | apply Kd.zK)); exact Kd.zU (Kd.zR (p := ⟨gb434, 3, none⟩) (Kd.zR (p := ⟨gb434, 2, none⟩) (Kd.zR (p := ⟨gb434, 1, none⟩) (Kd.zR (p := ⟨gb434, 0, none⟩) (Kd.zV HO_421001.out BK434.out (by decide)) (fun _ hk => hk.2) (.int .i64 ((rd_T61 y429 x58_2).f0))) (fun _ hk => hk.2) (.int .i64 ((rd_T61 y429 x58_2).f1))) (fun _ hk => hk.2) (.int .i64 ((rd_T61 y429 x58_2).f2))) (fun _ hk => hk.2) (.int .u8 ((rd_T61 y429 x58_2).f3))) (fun _ hk => trivial)))⟩; have n7_ : zA (w70.heap[gb400]? = some (.cells #[.int .u8 a1_0, .int .u8 a1_1, .int .u8 a1_2, .int .u16 a1_3, .int .u16 a1_4, .float .f64 a1_5] 26 (0, 0))) := ⟨(by rw [hw]; exact (aB BK400))⟩; have n8_ : zA (w70.heap[gb420]? = some (.cells #[.slice Ao14 t402.length co14, .slice Ao18 t405.length co18] 31 (0, 0))) := ⟨(by rw [hw]; exact (aB BK420))⟩; have n9_ : zA (w70.heap[gb421]? = some (.cells #[.int .i64 t411, .int .i64 t412, .int .u8 t413, .int .i64 t414, .int .i64 t415, .float .f64 t416] 35 (0, 0))) := ⟨(by rw [hw]; exact (aB BK421))⟩; have n10_ : zA (w70.heap[gb427]? = some (.cells #[.int .i64 ((rd_T45 t408 x37_1).f0), .int .i64 ((rd_T45 t408 x37_1).f1), .int .i64 ((rd_T45 t408 x37_1).f2), .int .u8 ((rd_T45 t408 x37_1).f3)] 45 (0, 0))) := ⟨(by rw [hw]; exact (aB BK427))⟩; have n11_ : zA (w70.heap[gb434]? = some (.cells #[.int .i64 ((rd_T61 y429 x58_2).f0), .int .i64 ((rd_T61 y429 x58_2).f1), .int .i64 ((rd_T61 y429 x58_2).f2), .int .u8 ((rd_T61 y429 x58_2).f3)] 61 (0, 0))) := ⟨(by rw [hw]; exact (by (with_reducible repeat (first | refine zF ?_ _ | refine zD ?_ | refine zG ?_ _)); refine blk_put (cs := #[.int .i64 ((rd_T61 y429 x58_2).f0), .int .i64 ((rd_T61 y429 x58_2).f1), .int .i64 ((rd_T61 y429 x58_2).f2), .int .u8 0]) ?_ 3 _ rfl; (with_reducible repeat (first | refine zF ?_ _ | refine zD ?_ | refine zG ?_ _)); refine blk_put (cs := #[.int .i64 ((rd_T61 y429 x58_2).f0), .int .i64 ((rd_T61 y429 x58_2).f1), .int .i64 0, .int .u8 0]) ?_ 2 _ rfl; (with_reducible repeat (first | refine zF ?_ _ | refine zD ?_ | refine zG ?_ _)); refine blk_put (cs := #[.int .i64 ((rd_T61 y429 x58_2).f0), .int .i64 0, .int .i64 0, .int .u8 0]) ?_ 1 _ rfl; (with_reducible repeat (first | refine zF ?_ _ | refine zD ?_ | refine zG ?_ _)); refine blk_put (cs := #[.int .i64 0, .int .i64 0, .int .i64 0, .int .u8 0]) ?_ 0 _ rfl; (with_reducible repeat (first | refine zF ?_ _ | refine zD ?_ | refine zG ?_ _)); exact BK434.out))⟩; have n12_ : zA (Below w.heap.size w w70) := ⟨(by rw [hw]; exact (aL HB))⟩; clear hw; clear HO_8; clear HO_10; clear HO_12; clear HO_14; clear HO_35; clear HO_421000; clear HO_421001; clear BK400; clear BK420; clear BK421; clear BK427; clear BK434; clear HB; have HO_8 := n0_; have HO_10 := n1_; have HO_12 := n2_; have HO_14 := n3_; have HO_35 := n4_; have HO_421000 := n5_; have HO_421001 := n6_; have BK400 := n7_; have BK420 := n8_; have BK421 := n9_; have BK427 := n10_; have BK434 := n11_; have HB := n12_; clear n0_ n1_ n2_ n3_ n4_ n5_ n6_ n7_ n8_ n9_ n10_ n11_ n12_; obtain ⟨hcz71_0, hcz71_1, hcz71_2, hcz71_3, hfz71_0, hfz71_1, hfz71_2, hfz71_3⟩ := aC4 BK434))
    go_roundg k2
    case measure => have := HK1.out; have := HK2.out; omega
    case rel => exact ⟨(x14_2), (wrap64 (x58_2 + 1)), aZ, H', ⟨by have := HK1.out; have := HK2.out; omega⟩, ⟨aR HO_8⟩, ⟨aR HO_10⟩, ⟨aR HO_12⟩, ⟨aR HO_14⟩, ⟨aS HO_35⟩, ⟨by (with_reducible repeat (first | apply Kd.zI | apply Kd.zJ | apply Kd.zK)); exact Kd.zU HO_421000.out (fun _ hk => trivial)⟩, ⟨aR HO_421001⟩, ⟨aB BK400⟩, ⟨aB BK420⟩, ⟨aB BK421⟩, ⟨aB BK427⟩, ⟨aL HB⟩⟩
   rw [if_pos c49] at H; have c49b0 : (((rd_T61 y429 x58_2).f3) == 0) = true := beq_iff_eq.mpr c49
   have c49b1 : (((rd_T61 y429 x58_2).f3) != 0) = false := bne_eq_false_iff_eq.mpr c49
   clear c49; by_cases c50 : 0 ≤ ((rd_T61 y429 x58_2).f0)
   rotate_left
   ·rw [if_neg c50] at H
    exact absurd H (by simp)
   rw [if_pos c50] at H; have c50b0 := eq_true c50; have c50b1 : decide (0 ≤ ((rd_T61 y429 x58_2).f0)) = true := decide_eq_true c50
   clear c50; by_cases c51 : ((rd_T61 y429 x58_2).f0) ≤ (wrap64 (((rd_T61 y429 x58_2).f0) + ((rd_T61 y429 x58_2).f1)))
   rotate_left
   ·rw [if_neg c51] at H
    exact absurd H (by simp)
   rw [if_pos c51] at H; have c51b0 := eq_true c51; have c51b1 : decide (((rd_T61 y429 x58_2).f0) ≤ (wrap64 (((rd_T61 y429 x58_2).f0) + ((rd_T61 y429 x58_2).f1)))) = true := decide_eq_true c51
   by_cases c52 : (wrap64 (((rd_T61 y429 x58_2).f0) + ((rd_T61 y429 x58_2).f1))) ≤ (t417.length : Int)
   rotate_left
   ·rw [if_neg c52] at H
    exact absurd H (by simp)
   rw [if_pos c52] at H; have c52b0 := eq_true c52; have c52b1 : decide ((wrap64 (((rd_T61 y429 x58_2).f0) + ((rd_T61 y429 x58_2).f1))) ≤ (t417.length : Int)) = true := decide_eq_true c52
   obtain ⟨y435, hy435⟩ : ∃ y_ : List Int, y_ = ((t417.take ((wrap64 (((rd_T61 y429 x58_2).f0) + ((rd_T61 y429 x58_2).f1))) : Int).toNat).drop (((rd_T61 y429 x58_2).f0) : Int).toNat) := ⟨_, rfl⟩; replace H : (if x14_2.length + y435.length < 140737488355328 then (stanzalaw22_DrawWords.l1 k2 t408 t417 (rd_L5 t422 x37_1) (x14_2 ++ y435) t422 (t422.length : Int) x37_1 y429 (y429.length : Int) (wrap64 (x58_2 + 1)) t402 t405 ((rd_T45 t408 x37_1).f0) ((rd_T45 t408 x37_1).f1) ((rd_T45 t408 x37_1).f2) ((rd_T45 t408 x37_1).f3)) else (none)) = some r := by first | (rw [hy435]; with_reducible exact H) | (have H2_ := (Option.bind_some _ _).symm.trans H; rw [hy435]; with_reducible exact H2_) | (have H2_ := (Option.bind_some _ _).symm.trans H; with_reducible exact H2_) | with_reducible exact H | (rw [hy435]; exact H) | exact H
   have Ny435 := zA.mk hy435; clear hy435; by_cases c53 : x14_2.length + y435.length < 140737488355328
   rotate_left
   ·rw [if_neg c53] at H
    exact absurd H (by simp)
   rw [if_pos c53] at H; have LMc53 := zA.mk c53; clear c53; obtain ⟨y439, hy439⟩ : ∃ y_ : List Int, y_ = (x14_2 ++ y435) := ⟨_, rfl⟩; replace H : (stanzalaw22_DrawWords.l1 k2 t408 t417 (rd_L5 t422 x37_1) y439 t422 (t422.length : Int) x37_1 y429 (y429.length : Int) (wrap64 (x58_2 + 1)) t402 t405 ((rd_T45 t408 x37_1).f0) ((rd_T45 t408 x37_1).f1) ((rd_T45 t408 x37_1).f2) ((rd_T45 t408 x37_1).f3)) = some r := by first | (rw [hy439]; with_reducible exact H) | (have H2_ := (Option.bind_some _ _).symm.trans H; rw [hy439]; with_reducible exact H2_) | (have H2_ := (Option.bind_some _ _).symm.trans H; with_reducible exact H2_) | with_reducible exact H | (rw [hy439]; exact H) | exact H
   have Ny439 := zA.mk hy439; clear hy439; have H' := zA.mk H
   clear H; have p433 : 0 ≤ (x58_2 : Int) := aD
   have q433 : x58_2 < (y429.length : Int) := aD
   obtain ⟨ad433, e433, hx433_0, hx433_1, hx433_2, hx433_3⟩ := at_T61 (show Kd.C k61 _ A45 y429.length y429 from by rw [Ny429.out, KA45.out]; exact Kd.C_mid (lo := (((rd_T45 t408 x37_1).f0) : Int).toNat) (hi := (t428 : Int).toNat) (c := co14) ((Kd.zP HO_421000.out).2.2) KM45.out KL45.out ((Kd.zP HO_421000.out).2.1)) x58_2 p433 q433
   cases e433
   replace p433 := eq_true p433; replace q433 := eq_true q433; go_wp2_with (first | ((with_reducible refine gate_dst (N := 17) rfl ?_); (try (refine gate_guard (by rfl) ?_; dsimp only)); refine box_event ?hg (N := 17) ?hd (cs := #[.int .i64 0, .int .i64 0, .int .i64 0, .int .u8 0]) (t := 61) ?hr ?_; (case hd => rfl); (case hg => rfl); (case hr => first | (go_simp; done) | (go_simp; rfl)); intro gb434 hg w54 hbox hb; have n0_ := zA.mk (Kd.zQ (aR HO_8) hb); have n1_ := zA.mk (Kd.zQ (aR HO_10) hb); have n2_ := zA.mk (Kd.zQ (aR HO_12) hb); have n3_ := zA.mk (Kd.zQ (aR HO_14) hb); have n4_ := zA.mk (Kd.S_below (aS HO_35) hb); have n5_ := zA.mk (Kd.zQ (Kd.R_elderB (aR HO_421000) gb434 (Nat.le_of_eq hg.symm)) hb); have n6_ := zA.mk (Kd.zQ (aR HO_421001) hb); have n7_ := zA.mk (zB (g := gb400) (o := .cells #[.int .u8 a1_0, .int .u8 a1_1, .int .u8 a1_2, .int .u16 a1_3, .int .u16 a1_4, .float .f64 a1_5] 26 (0, 0)) (aB BK400) hb); have n8_ := zA.mk (zB (g := gb420) (o := .cells #[.slice Ao14 t402.length co14, .slice Ao18 t405.length co18] 31 (0, 0)) (aB BK420) hb); have n9_ := zA.mk (zB (g := gb421) (o := .cells #[.int .i64 t411, .int .i64 t412, .int .u8 t413, .int .i64 t414, .int .i64 t415, .float .f64 t416] 35 (0, 0)) (aB BK421) hb); have n10_ := zA.mk (zB (g := gb427) (o := .cells #[.int .i64 ((rd_T45 t408 x37_1).f0), .int .i64 ((rd_T45 t408 x37_1).f1), .int .i64 ((rd_T45 t408 x37_1).f2), .int .u8 ((rd_T45 t408 x37_1).f3)] 45 (0, 0)) (aB BK427) hb); have n11_ := zA.mk (zH (aL HB) hb); have n12_ := zA.mk (hbox); have n13_ := zA.mk ((by rw [hg]; exact (zE (aL HB)) : w.heap.size ≤ gb434)); have n14_ := zA.mk ((by rw [hg]; exact (zE (aL HB)) : w.heap.size ≤ gb434)); have n15_ := zA.mk ((by rw [hg]; exact Nat.ne_of_lt (blk_lt (g := gb400) (o := .cells #[.int .u8 a1_0, .int .u8 a1_1, .int .u8 a1_2, .int .u16 a1_3, .int .u16 a1_4, .float .f64 a1_5] 26 (0, 0)) (aB BK400)) : gb400 ≠ gb434)); have n16_ := zA.mk ((by rw [hg]; exact Nat.ne_of_gt (blk_lt (g := gb400) (o := .cells #[.int .u8 a1_0, .int .u8 a1_1, .int .u8 a1_2, .int .u16 a1_3, .int .u16 a1_4, .float .f64 a1_5] 26 (0, 0)) (aB BK400)) : gb434 ≠ gb400)); have n17_ := zA.mk ((by rw [hg]; exact Nat.ne_of_lt (blk_lt (g := gb420) (o := .cells #[.slice Ao14 t402.length co14, .slice Ao18 t405.length co18] 31 (0, 0)) (aB BK420)) : gb420 ≠ gb434)); have n18_ := zA.mk ((by rw [hg]; exact Nat.ne_of_gt (blk_lt (g := gb420) (o := .cells #[.slice Ao14 t402.length co14, .slice Ao18 t405.length co18] 31 (0, 0)) (aB BK420)) : gb434 ≠ gb420)); have n19_ := zA.mk ((by rw [hg]; exact Nat.ne_of_lt (blk_lt (g := gb421) (o := .cells #[.int .i64 t411, .int .i64 t412, .int .u8 t413, .int .i64 t414, .int .i64 t415, .float .f64 t416] 35 (0, 0)) (aB BK421)) : gb421 ≠ gb434)); have n20_ := zA.mk ((by rw [hg]; exact Nat.ne_of_gt (blk_lt (g := gb421) (o := .cells #[.int .i64 t411, .int .i64 t412, .int .u8 t413, .int .i64 t414, .int .i64 t415, .float .f64 t416] 35 (0, 0)) (aB BK421)) : gb434 ≠ gb421)); have n21_ := zA.mk ((by rw [hg]; exact Nat.ne_of_lt (blk_lt (g := gb427) (o := .cells #[.int .i64 ((rd_T45 t408 x37_1).f0), .int .i64 ((rd_T45 t408 x37_1).f1), .int .i64 ((rd_T45 t408 x37_1).f2), .int .u8 ((rd_T45 t408 x37_1).f3)] 45 (0, 0)) (aB BK427)) : gb427 ≠ gb434)); have n22_ := zA.mk ((by rw [hg]; exact Nat.ne_of_gt (blk_lt (g := gb427) (o := .cells #[.int .i64 ((rd_T45 t408 x37_1).f0), .int .i64 ((rd_T45 t408 x37_1).f1), .int .i64 ((rd_T45 t408 x37_1).f2), .int .u8 ((rd_T45 t408 x37_1).f3)] 45 (0, 0)) (aB BK427)) : gb434 ≠ gb427)); clear HO_8; clear HO_10; clear HO_12; clear HO_14; clear HO_35; clear HO_421000; clear HO_421001; clear BK400; clear BK420; clear BK421; clear BK427; clear HB; have HO_8 := n0_; have HO_10 := n1_; have HO_12 := n2_; have HO_14 := n3_; have HO_35 := n4_; have HO_421000 := n5_; have HO_421001 := n6_; have BK400 := n7_; have BK420 := n8_; have BK421 := n9_; have BK427 := n10_; have HB := n11_; have BK434 := n12_; have GW434 := n13_; have GE434 := n14_; have NB400_434 := n15_; have NB434_400 := n16_; have NB420_434 := n17_; have NB434_420 := n18_; have NB421_434 := n19_; have NB434_421 := n20_; have NB427_434 := n21_; have NB434_427 := n22_; clear n0_ n1_ n2_ n3_ n4_ n5_ n6_ n7_ n8_ n9_ n10_ n11_ n12_ n13_ n14_ n15_ n16_ n17_ n18_ n19_ n20_ n21_ n22_; clear hb hbox hg; have hnb55 := NB434_400.out; have hnc55 := NB400_434.out; have hnb56 := NB434_420.out; have hnc56 := NB420_434.out; have hnb57 := NB434_421.out; have hnc57 := NB421_434.out; have hnb58 := NB434_427.out; have hnc58 := NB427_434.out; obtain ⟨hcz59_0, hcz59_1, hcz59_2, hcz59_3, hfz59_0, hfz59_1, hfz59_2, hfz59_3⟩ := aC4 BK434) | ((with_reducible refine gate_store (t := 61) (p := 17) rfl ?_); refine store_event (t := 61) (p := 17) (v := ?vo_w60) (w1 := ((((w54.setCell ⟨gb434, 0, none⟩ (.int .i64 ((rd_T61 y429 x58_2).f0))).setCell ⟨gb434, 1, none⟩ (.int .i64 ((rd_T61 y429 x58_2).f1))).setCell ⟨gb434, 2, none⟩ (.int .i64 ((rd_T61 y429 x58_2).f2))).setCell ⟨gb434, 3, none⟩ (.int .u8 ((rd_T61 y429 x58_2).f3)))) ?hg ?ho ?hn ?hr ?_; (case ho => rfl); (case hg => rfl); (case hn => rfl); (case hr => first | (go_simp; done) | (go_simp; rfl)); intro w60 hw; have n0_ : zA (Kd.R k45 45 w60 w.heap.size (fun k_ => k_ ≠ gb427) (.slice (some ad426) t408.length co26) t408) := ⟨(by rw [hw]; exact (by (with_reducible repeat (first | apply Kd.zI | apply Kd.zJ | apply Kd.zK)); exact Kd.zU (Kd.zR (p := ⟨gb434, 3, none⟩) (Kd.zR (p := ⟨gb434, 2, none⟩) (Kd.zR (p := ⟨gb434, 1, none⟩) (Kd.zR (p := ⟨gb434, 0, none⟩) (Kd.zV HO_8.out BK434.out (by decide)) (fun _ hk => hk.2) (.int .i64 ((rd_T61 y429 x58_2).f0))) (fun _ hk => hk.2) (.int .i64 ((rd_T61 y429 x58_2).f1))) (fun _ hk => hk.2) (.int .i64 ((rd_T61 y429 x58_2).f2))) (fun _ hk => hk.2) (.int .u8 ((rd_T61 y429 x58_2).f3))) (fun _ hk => hk.1)))⟩; have n1_ : zA (Kd.R (Kd.int .u8) 5 w60 w.heap.size (fun k_ => some k_ ≠ (u14 : Value).ownBlock) (.slice Ao25 t417.length co25) t417) := ⟨(by rw [hw]; exact (by (with_reducible repeat (first | apply Kd.zI | apply Kd.zJ | apply Kd.zK)); exact Kd.zU (Kd.zR (p := ⟨gb434, 3, none⟩) (Kd.zR (p := ⟨gb434, 2, none⟩) (Kd.zR (p := ⟨gb434, 1, none⟩) (Kd.zR (p := ⟨gb434, 0, none⟩) (Kd.zV HO_10.out BK434.out (by decide)) (fun _ hk => hk.2) (.int .i64 ((rd_T61 y429 x58_2).f0))) (fun _ hk => hk.2) (.int .i64 ((rd_T61 y429 x58_2).f1))) (fun _ hk => hk.2) (.int .i64 ((rd_T61 y429 x58_2).f2))) (fun _ hk => hk.2) (.int .u8 ((rd_T61 y429 x58_2).f3))) (fun _ hk => hk.1)))⟩; have n2_ : zA (Kd.R (Kd.int .u8) 5 w60 w.heap.size (fun k_ => some k_ ≠ (u14 : Value).ownBlock) (.slice A425_0 (rd_L5 t422 x37_1).length c425_0) (rd_L5 t422 x37_1)) := ⟨(by rw [hw]; exact (by (with_reducible repeat (first | apply Kd.zI | apply Kd.zJ | apply Kd.zK)); exact Kd.zU (Kd.zR (p := ⟨gb434, 3, none⟩) (Kd.zR (p := ⟨gb434, 2, none⟩) (Kd.zR (p := ⟨gb434, 1, none⟩) (Kd.zR (p := ⟨gb434, 0, none⟩) (Kd.zV HO_12.out BK434.out (by decide)) (fun _ hk => hk.2) (.int .i64 ((rd_T61 y429 x58_2).f0))) (fun _ hk => hk.2) (.int .i64 ((rd_T61 y429 x58_2).f1))) (fun _ hk => hk.2) (.int .i64 ((rd_T61 y429 x58_2).f2))) (fun _ hk => hk.2) (.int .u8 ((rd_T61 y429 x58_2).f3))) (fun _ hk => hk.1)))⟩; have n3_ : zA (Kd.R (Kd.int .u8) 5 w60 w.heap.size (fun k_ => some k_ ≠ (.slice Ao25 t417.length co25 : Value).ownBlock ∧ some k_ ≠ (.slice A425_0 (rd_L5 t422 x37_1).length c425_0 : Value).ownBlock) u14 x14_2) := ⟨(by rw [hw]; exact (by (with_reducible repeat (first | apply Kd.zI | apply Kd.zJ | apply Kd.zK)); exact Kd.zU (Kd.zR (p := ⟨gb434, 3, none⟩) (Kd.zR (p := ⟨gb434, 2, none⟩) (Kd.zR (p := ⟨gb434, 1, none⟩) (Kd.zR (p := ⟨gb434, 0, none⟩) (Kd.zV HO_14.out BK434.out (by decide)) (fun _ hk => hk.2) (.int .i64 ((rd_T61 y429 x58_2).f0))) (fun _ hk => hk.2) (.int .i64 ((rd_T61 y429 x58_2).f1))) (fun _ hk => hk.2) (.int .i64 ((rd_T61 y429 x58_2).f2))) (fun _ hk => hk.2) (.int .u8 ((rd_T61 y429 x58_2).f3))) (fun _ hk => ⟨hk.1.1, hk.1.2⟩)))⟩; have n4_ : zA (Kd.S (Kd.slice 5 (Kd.int .u8)) 51 w60 w.heap.size (fun k_ => some k_ ≠ (u14 : Value).ownBlock) (.slice (some ad425) t422.length co28) t422) := ⟨(by rw [hw]; exact (by (with_reducible repeat (first | apply Kd.S_alloc | apply Kd.S_drewN | apply Kd.S_drew)); exact Kd.S_mono (Kd.S_far (p := ⟨gb434, 3, none⟩) (Kd.S_far (p := ⟨gb434, 2, none⟩) (Kd.S_far (p := ⟨gb434, 1, none⟩) (Kd.S_far (p := ⟨gb434, 0, none⟩) (Kd.S_types HO_35.out BK434.out (by decide)) (fun _ hk => hk.2) (.int .i64 ((rd_T61 y429 x58_2).f0))) (fun _ hk => hk.2) (.int .i64 ((rd_T61 y429 x58_2).f1))) (fun _ hk => hk.2) (.int .i64 ((rd_T61 y429 x58_2).f2))) (fun _ hk => hk.2) (.int .u8 ((rd_T61 y429 x58_2).f3))) (fun _ hk => hk.1)))⟩; have n5_ : zA (Kd.R k61 61 w60 w.heap.size (fun k_ => k_ ≠ gb434) (.slice Ao14 t402.length co14) t402) := ⟨(by rw [hw]; exact (by (with_reducible repeat (first | apply Kd.zI | apply Kd.zJ | apply Kd.zK)); exact Kd.zU (Kd.zR (p := ⟨gb434, 3, none⟩) (Kd.zR (p := ⟨gb434, 2, none⟩) (Kd.zR (p := ⟨gb434, 1, none⟩) (Kd.zR (p := ⟨gb434, 0, none⟩) (Kd.zU HO_421000.out (fun k_ hk => (⟨hk, hk.2⟩ : _ ∧ k_ ≠ gb434))) (fun _ hk => hk.2) (.int .i64 ((rd_T61 y429 x58_2).f0))) (fun _ hk => hk.2) (.int .i64 ((rd_T61 y429 x58_2).f1))) (fun _ hk => hk.2) (.int .i64 ((rd_T61 y429 x58_2).f2))) (fun _ hk => hk.2) (.int .u8 ((rd_T61 y429 x58_2).f3))) (fun _ hk => hk.1.2)))⟩; have n6_ : zA (Kd.R (Kd.int .u8) 43 w60 w.heap.size (fun _ => True) (.slice Ao18 t405.length co18) t405) := ⟨(by rw [hw]; exact (by (with_reducible repeat (first | apply Kd.zI | apply Kd.zJ | apply Kd.zK)); exact Kd.zU (Kd.zR (p := ⟨gb434, 3, none⟩) (Kd.zR (p := ⟨gb434, 2, none⟩) (Kd.zR (p := ⟨gb434, 1, none⟩) (Kd.zR (p := ⟨gb434, 0, none⟩) (Kd.zV HO_421001.out BK434.out (by decide)) (fun _ hk => hk.2) (.int .i64 ((rd_T61 y429 x58_2).f0))) (fun _ hk => hk.2) (.int .i64 ((rd_T61 y429 x58_2).f1))) (fun _ hk => hk.2) (.int .i64 ((rd_T61 y429 x58_2).f2))) (fun _ hk => hk.2) (.int .u8 ((rd_T61 y429 x58_2).f3))) (fun _ hk => trivial)))⟩; have n7_ : zA (w60.heap[gb400]? = some (.cells #[.int .u8 a1_0, .int .u8 a1_1, .int .u8 a1_2, .int .u16 a1_3, .int .u16 a1_4, .float .f64 a1_5] 26 (0, 0))) := ⟨(by rw [hw]; exact (aB BK400))⟩; have n8_ : zA (w60.heap[gb420]? = some (.cells #[.slice Ao14 t402.length co14, .slice Ao18 t405.length co18] 31 (0, 0))) := ⟨(by rw [hw]; exact (aB BK420))⟩; have n9_ : zA (w60.heap[gb421]? = some (.cells #[.int .i64 t411, .int .i64 t412, .int .u8 t413, .int .i64 t414, .int .i64 t415, .float .f64 t416] 35 (0, 0))) := ⟨(by rw [hw]; exact (aB BK421))⟩; have n10_ : zA (w60.heap[gb427]? = some (.cells #[.int .i64 ((rd_T45 t408 x37_1).f0), .int .i64 ((rd_T45 t408 x37_1).f1), .int .i64 ((rd_T45 t408 x37_1).f2), .int .u8 ((rd_T45 t408 x37_1).f3)] 45 (0, 0))) := ⟨(by rw [hw]; exact (aB BK427))⟩; have n11_ : zA (w60.heap[gb434]? = some (.cells #[.int .i64 ((rd_T61 y429 x58_2).f0), .int .i64 ((rd_T61 y429 x58_2).f1), .int .i64 ((rd_T61 y429 x58_2).f2), .int .u8 ((rd_T61 y429 x58_2).f3)] 61 (0, 0))) := ⟨(by rw [hw]; exact (by (with_reducible repeat (first | refine zF ?_ _ | refine zD ?_ | refine zG ?_ _)); refine blk_put (cs := #[.int .i64 ((rd_T61 y429 x58_2).f0), .int .i64 ((rd_T61 y429 x58_2).f1), .int .i64 ((rd_T61 y429 x58_2).f2), .int .u8 0]) ?_ 3 _ rfl; (with_reducible repeat (first | refine zF ?_ _ | refine zD ?_ | refine zG ?_ _)); refine blk_put (cs := #[.int .i64 ((rd_T61 y429 x58_2).f0), .int .i64 ((rd_T61 y429 x58_2).f1), .int .i64 0, .int .u8 0]) ?_ 2 _ rfl; (with_reducible repeat (first | refine zF ?_ _ | refine zD ?_ | refine zG ?_ _)); refine blk_put (cs := #[.int .i64 ((rd_T61 y429 x58_2).f0), .int .i64 0, .int .i64 0, .int .u8 0]) ?_ 1 _ rfl; (with_reducible repeat (first | refine zF ?_ _ | refine zD ?_ | refine zG ?_ _)); refine blk_put (cs := #[.int .i64 0, .int .i64 0, .int .i64 0, .int .u8 0]) ?_ 0 _ rfl; (with_reducible repeat (first | refine zF ?_ _ | refine zD ?_ | refine zG ?_ _)); exact BK434.out))⟩; have n12_ : zA (Below w.heap.size w w60) := ⟨(by rw [hw]; exact (aL HB))⟩; clear hw; clear HO_8; clear HO_10; clear HO_12; clear HO_14; clear HO_35; clear HO_421000; clear HO_421001; clear BK400; clear BK420; clear BK421; clear BK427; clear BK434; clear HB; have HO_8 := n0_; have HO_10 := n1_; have HO_12 := n2_; have HO_14 := n3_; have HO_35 := n4_; have HO_421000 := n5_; have HO_421001 := n6_; have BK400 := n7_; have BK420 := n8_; have BK421 := n9_; have BK427 := n10_; have BK434 := n11_; have HB := n12_; clear n0_ n1_ n2_ n3_ n4_ n5_ n6_ n7_ n8_ n9_ n10_ n11_ n12_; obtain ⟨hcz61_0, hcz61_1, hcz61_2, hcz61_3, hfz61_0, hfz61_1, hfz61_2, hfz61_3⟩ := aC4 BK434; have q62 : ((wrap64 (((rd_T61 y429 x58_2).f0) + ((rd_T61 y429 x58_2).f1))) : Int) ≤ ((t417.length : Int) : Int) := aD; obtain ⟨i062, hi062, _, hsz62, _⟩ := info_parts info5; have hroom62 : t417.length ≤ co25 := (Kd.zP HO_10.out).2.1; have hC62 : Kd.C (Kd.int .u8) _ Ao25 t417.length t417 := (Kd.zP HO_10.out).2.2; have ql62 : (((rd_T61 y429 x58_2).f0) : Int) ≤ ((wrap64 (((rd_T61 y429 x58_2).f0) + ((rd_T61 y429 x58_2).f1))) : Int) := aD; have q062 : (0 : Int) ≤ (((rd_T61 y429 x58_2).f0) : Int) := aD; have hcut62 := cut_mid (P := Try.prog) 51 5 .i64 .i64 Try.underlying51 hi062 1 hsz62 Ao25 t417.length co25 ((rd_T61 y429 x58_2).f0) (wrap64 (((rd_T61 y429 x58_2).f0) + ((rd_T61 y429 x58_2).f1))) q062 ql62 q62 hroom62; have hr62 := Kd.C_mid (lo := (((rd_T61 y429 x58_2).f0) : Int).toNat) (hi := ((wrap64 (((rd_T61 y429 x58_2).f0) + ((rd_T61 y429 x58_2).f1))) : Int).toNat) (c := co25) hC62 (by omega) (by omega) hroom62; obtain ⟨A62, hA62⟩ : ∃ A1, A1 = (if co25 = (((rd_T61 y429 x58_2).f0) : Int).toNat then Ao25 else (Ao25 : Option Addr).map (·.add ((((rd_T61 y429 x58_2).f0) : Int).toNat * 1))) := ⟨_, rfl⟩; obtain ⟨c62, hc62⟩ : ∃ c1, c1 = co25 - (((rd_T61 y429 x58_2).f0) : Int).toNat := ⟨_, rfl⟩; have hy62 : y435.length = ((wrap64 (((rd_T61 y429 x58_2).f0) + ((rd_T61 y429 x58_2).f1))) : Int).toNat - (((rd_T61 y429 x58_2).f0) : Int).toNat := (by rw [Ny435.out, List.length_drop, List.length_take] <;> omega); rw [show ((t417).take ((wrap64 (((rd_T61 y429 x58_2).f0) + ((rd_T61 y429 x58_2).f1))) : Int).toNat).drop (((rd_T61 y429 x58_2).f0) : Int).toNat = y435 from Ny435.out.symm] at hr62; replace hr62 : Kd.C (Kd.int .u8) _ A62 y435.length y435 := (by rw [hA62]; exact hr62); rw [← hy62, ← hA62, ← hc62] at hcut62; have HR438 := zA.mk hr62; have HC438 := zA.mk (show y435.length ≤ c62 from by rw [hy62, hc62]; exact Nat.sub_le_sub_right (Nat.le_trans (by omega) hroom62) _); clear hr62 hC62 hroom62 hi062 hsz62 hc62; have KY62 := zA.mk hy62; have KA62 := zA.mk hA62; clear hy62 hA62; have KL62 := zA.mk (show ((wrap64 (((rd_T61 y429 x58_2).f0) + ((rd_T61 y429 x58_2).f1))) : Int).toNat ≤ t417.length from by omega); have KM62 := zA.mk (show (((rd_T61 y429 x58_2).f0) : Int).toNat ≤ ((wrap64 (((rd_T61 y429 x58_2).f0) + ((rd_T61 y429 x58_2).f1))) : Int).toNat from by omega); replace q62 := eq_true q62) | ((with_reducible refine gate_builtin (b := .append) (xs := #[.tmp 65, .tmp 74]) rfl ?_); (try (refine gate_guard (by rfl) ?_; dsimp only)); at_builtin; refine Kd.R_append_rows (Kd.int .u8) (w0 := w) w.heap.size rfl (.tmp 65) (.tmp 74) 51 5 (.int .u8 0) 1 rfl Try.underlying51 info5 rfl (by decide) (by omega) u14 x14_2 y435 _ _ _ (fun k_ => some k_ ≠ (.slice Ao25 t417.length co25 : Value).ownBlock ∧ some k_ ≠ (.slice A425_0 (rd_L5 t422 x37_1).length c425_0 : Value).ownBlock) (fun _ => False) rfl rfl ?aO ?aR (fun _ _ h => h) (fun _ h => h.elim) ?aF ?aB ?aS ?aL ?_; (case aR => exact aH HR438); (case aB => exact (aL HB)); (case aF => exact (fun k_ hk => ⟨Kd.fresh' (Kd.R_lt (aR HO_10)) k_ hk, Kd.fresh' (Kd.R_lt (aR HO_12)) k_ hk⟩)); (case aO => exact (aR HO_14)); (case aS => exact (zE (aL HB))); (case aL => have := LMc53.out; omega); intro v440 w63 ho hb hg hat; rw [← Ny439.out] at ho; have n0_ := zA.mk (Kd.R_over' (aR HO_8) (Kd.R_typed (aR HO_14)) (by decide) hg); have n1_ := zA.mk (Kd.R_after (ok := (fun _ => True)) (by (with_reducible repeat (first | apply Kd.zI | apply Kd.zJ | apply Kd.zK)); exact Kd.zU HO_10.out (fun _ hk => ⟨trivial, hk⟩)) hg hat); have n2_ := zA.mk (Kd.R_after (ok := (fun _ => True)) (by (with_reducible repeat (first | apply Kd.zI | apply Kd.zJ | apply Kd.zK)); exact Kd.zU HO_12.out (fun _ hk => ⟨trivial, hk⟩)) hg hat); have n3_ := zA.mk (Kd.S_after (ok := (fun _ => True)) (by (with_reducible repeat (first | apply Kd.S_alloc | apply Kd.S_drewN | apply Kd.S_drew)); exact Kd.S_mono HO_35.out (fun _ hk => ⟨trivial, hk⟩)) hg hat); have n4_ := zA.mk (Kd.R_over' (aR HO_421000) (Kd.R_typed (aR HO_14)) (by decide) hg); have n5_ := zA.mk (Kd.R_over' (aR HO_421001) (Kd.R_typed (aR HO_14)) (by decide) hg); have n6_ := zA.mk (blk_grown (g := gb400) (o := .cells #[.int .u8 a1_0, .int .u8 a1_1, .int .u8 a1_2, .int .u16 a1_3, .int .u16 a1_4, .float .f64 a1_5] 26 (0, 0)) (aB BK400) hg (Kd.R_ne HO_14.out BK400.out (by decide))); have n7_ := zA.mk (blk_grown (g := gb420) (o := .cells #[.slice Ao14 t402.length co14, .slice Ao18 t405.length co18] 31 (0, 0)) (aB BK420) hg (Kd.R_ne HO_14.out BK420.out (by decide))); have n8_ := zA.mk (blk_grown (g := gb421) (o := .cells #[.int .i64 t411, .int .i64 t412, .int .u8 t413, .int .i64 t414, .int .i64 t415, .float .f64 t416] 35 (0, 0)) (aB BK421) hg (Kd.R_ne HO_14.out BK421.out (by decide))); have n9_ := zA.mk (blk_grown (g := gb427) (o := .cells #[.int .i64 ((rd_T45 t408 x37_1).f0), .int .i64 ((rd_T45 t408 x37_1).f1), .int .i64 ((rd_T45 t408 x37_1).f2), .int .u8 ((rd_T45 t408 x37_1).f3)] 45 (0, 0)) (aB BK427) hg (Kd.R_ne HO_14.out BK427.out (by decide))); have n10_ := zA.mk (blk_grown (g := gb434) (o := .cells #[.int .i64 ((rd_T61 y429 x58_2).f0), .int .i64 ((rd_T61 y429 x58_2).f1), .int .i64 ((rd_T61 y429 x58_2).f2), .int .u8 ((rd_T61 y429 x58_2).f3)] 61 (0, 0)) (aB BK434) hg (Kd.R_ne HO_14.out BK434.out (by decide))); have n11_ := zA.mk (hb); have n12_ := zA.mk ((show Kd.C (Kd.int .u8) w63 A62 y435.length y435 from by rw [Ny435.out, KA62.out]; exact Kd.C_mid (lo := (((rd_T61 y429 x58_2).f0) : Int).toNat) (hi := ((wrap64 (((rd_T61 y429 x58_2).f0) + ((rd_T61 y429 x58_2).f1))) : Int).toNat) (c := co25) ((Kd.zP (Kd.R_after (ok := (fun _ => True)) (by (with_reducible repeat (first | apply Kd.zI | apply Kd.zJ | apply Kd.zK)); exact Kd.zU HO_10.out (fun _ hk => ⟨trivial, hk⟩)) hg hat)).2.2) KM62.out KL62.out ((Kd.zP (Kd.R_after (ok := (fun _ => True)) (by (with_reducible repeat (first | apply Kd.zI | apply Kd.zJ | apply Kd.zK)); exact Kd.zU HO_10.out (fun _ hk => ⟨trivial, hk⟩)) hg hat)).2.1))); have n13_ := zA.mk (ho); clear HO_8; clear HO_10; clear HO_12; clear HO_35; clear HO_421000; clear HO_421001; clear BK400; clear BK420; clear BK421; clear BK427; clear BK434; clear HB; clear HR438; clear HO_14; have HO_8 := n0_; have HO_10 := n1_; have HO_12 := n2_; have HO_35 := n3_; have HO_421000 := n4_; have HO_421001 := n5_; have BK400 := n6_; have BK420 := n7_; have BK421 := n8_; have BK427 := n9_; have BK434 := n10_; have HB := n11_; have HR438 := n12_; have HO441 := n13_; clear n0_ n1_ n2_ n3_ n4_ n5_ n6_ n7_ n8_ n9_ n10_ n11_ n12_ n13_; clear ho hb hg hat))
   go_roundg k2
   case measure => have := HK1.out; have := HK2.out; omega
   case rel => exact ⟨(y439), (wrap64 (x58_2 + 1)), aZ, H', ⟨by have := HK1.out; have := HK2.out; omega⟩, ⟨aR HO_8⟩, ⟨by (with_reducible repeat (first | apply Kd.zI | apply Kd.zJ | apply Kd.zK)); exact Kd.zU HO_10.out (fun _ hk => hk.2)⟩, ⟨by (with_reducible repeat (first | apply Kd.zI | apply Kd.zJ | apply Kd.zK)); exact Kd.zU HO_12.out (fun _ hk => hk.2)⟩, ⟨aR HO441⟩, ⟨by (with_reducible repeat (first | apply Kd.S_alloc | apply Kd.S_drewN | apply Kd.S_drew)); exact Kd.S_mono HO_35.out (fun _ hk => hk.2)⟩, ⟨by (with_reducible repeat (first | apply Kd.zI | apply Kd.zJ | apply Kd.zK)); exact Kd.zU HO_421000.out (fun _ hk => trivial)⟩, ⟨aR HO_421001⟩, ⟨aB BK400⟩, ⟨aB BK420⟩, ⟨aB BK421⟩, ⟨aB BK427⟩, ⟨aL HB⟩⟩
def stanzalaw22_DrawWords.Pure : Prop := ∀ (l0 : List (S49)) (a1_0 : Int) (a1_1 : Int) (a1_2 : Int) (a1_3 : Int) (a1_4 : Int) (a1_5 : Nat) (a2 : Bool), (l0.length * 4 ≤ 140737488351232 ∧ ∀ y0 ∈ l0, ((Lit.int .u8 y0.f0).wf = true ∧ ((Lit.int .u8 y0.f1).wf = true ∧ ((Lit.int .u8 y0.f2).wf = true ∧ (Lit.int .u8 y0.f3).wf = true)))) → ((Lit.int .u8 a1_0).wf = true ∧ ((Lit.int .u8 a1_1).wf = true ∧ ((Lit.int .u8 a1_2).wf = true ∧ ((Lit.int .u16 a1_3).wf = true ∧ ((Lit.int .u16 a1_4).wf = true ∧ (Lit.float .f64 a1_5).wf = true))))) → ∃ k, stanzalaw22_DrawWords.f k l0 a1_0 a1_1 a1_2 a1_3 a1_4 a1_5 a2 = some true
end Go.Proofs.Ytfeidhmkmbgnoaa.F
end
