/- Printed by a program: Lean functions that answer as the Go functions do, and the proofs of it. -/
import Derived.Test.YtigajcipjklknaaXItemsMakes0
import Derived.Test.YtigajcipjklknaaVItemsMakes0
import Derived.Test.YtigajcipjklknaaVItemsMakes1
import Derived.Test.YtigajcipjklknaaVItemsMakes2
section
namespace Go.Proofs.Ytigajcipjklknaa.F
open Go.RowKit Go.Proofs.YtigajcipjklknaaW.PrintWords Go.Proofs.YtigajcipjklknaaW.PrintLast Go.Proofs.YtigajcipjklknaaW.PrintMore
attribute [local go_sem] max2_int min2_int max_two min_two max_three min_three max_four min_four   -- for this text's walks alone
set_option linter.unusedVariables false
set_option linter.unusedSimpArgs false
def stanzalaw11_ItemsMakes.f (k : Nat) (l0_0 : List Int) (l0_1 : List Int) (l0_2 : List Int) (l0_3 : List Bool) (l0_4 : List (S45)) : Option (Bool) := (stanzalaw11_Awake.f k).bind fun t490 => (if t490 = true then (if (l0_0.length : Int) > 500 then (some true) else ((stanzalaw02_Right.f k l0_4 3).bind fun t491 => (if prop_Make.c t491 3 = true then ((prop_MakeY.f t491 3).bind fun t496 => ((h3_Words.f k l0_0).bind fun t497 => ((stanzaref01_All.f k t497).bind fun t500 => ((h3_Opps.f k l0_1).bind fun t503 => ((h3_Opps.f k l0_2).bind fun t506 => ((items_Make.f k t500 t503 t506 l0_3 t496).bind fun bt509 => ((h3_Opps.f k l0_1).bind fun t516 => ((h3_Opps.f k l0_2).bind fun t519 => ((r0_Make.f k t500 t516 t519 l0_3 t491).bind fun bt522 => ((r0_SameParas.f k bt509.1 bt509.2 bt522.1 bt522.2).bind fun t528 => (some t528))))))))))) else ((prop_MakeN.f t491 3).bind fun _ => ((h3_Words.f k l0_0).bind fun t529 => ((stanzaref01_All.f k t529).bind fun t532 => ((h3_Opps.f k l0_1).bind fun t535 => ((h3_Opps.f k l0_2).bind fun t538 => ((items_Make.f k t532 t535 t538 l0_3 none).bind fun bt541 => (some false)))))))))) else (some false))
theorem stanzalaw11_ItemsMakes.mono : ∀ a0 a1 a2 a3 a4 k, LeO (stanzalaw11_ItemsMakes.f k a0 a1 a2 a3 a4) (stanzalaw11_ItemsMakes.f (k + 1) a0 a1 a2 a3 a4) := by
 intro a0 a1 a2 a3 a4 k
 unfold stanzalaw11_ItemsMakes.f
 repeat' (with_reducible first | exact items_Make.mono _ _ _ _ _ _ | exact h3_Opps.mono _ _ | exact h3_Words.mono _ _ | exact stanzalaw02_Right.mono _ _ _ | exact stanzalaw11_Awake.mono _ | exact stanzaref01_All.mono _ _ | exact r0_Make.mono _ _ _ _ _ _ | exact r0_SameParas.mono _ _ _ _ _ | exact LeO.refl _ | exact LeO.none _ | refine LeO.ite ?_ ?_ | refine LeO.bind ?_ (fun _ => ?_))
def stanzalaw11_ItemsMakes.T8 : Bool × List (List Nat × List Nat) := (true, [([], []), ([], []), ([1], [1]), ([2], [2]), ([], []), ([4], [4]), ([5, 3], [5]), ([], []), ([7], [7]), ([], []), ([0, 3, 6, 8, 9, 6], [0, 3, 6, 8, 9]), ([], []), ([11, 10, 10, 0, 1, 2, 3, 4, 5, 6, 7, 8, 9, 10, 11], [10, 11])])
def stanzalaw11_ItemsMakes.B8 : List Nat := [0, 0, 2, 6, 0, 16, 62, 0, 128, 0, 1023, 0, 4095]
theorem stanzalaw11_ItemsMakes.tab8 : rtab .any (opsOf Try.f7 8) = stanzalaw11_ItemsMakes.T8 := by kernel_rfl
theorem stanzalaw11_ItemsMakes.bits8 : waitsOk stanzalaw11_ItemsMakes.T8.2 stanzalaw11_ItemsMakes.B8 = true := by kernel_rfl
def stanzalaw11_ItemsMakes.T9 : Bool × List (List Nat × List Nat) := (true, [([], []), ([0], [0]), ([1], [1]), ([2], [2]), ([2], [2]), ([2], [2]), ([5, 2], [2, 5]), ([6, 2, 2], [2, 6]), ([2], [2]), ([8, 2], [2, 8]), ([9, 7, 2], [2, 9]), ([2], [2]), ([11, 2], [2, 11]), ([2], [2]), ([4, 7, 10, 12, 13, 10, 2], [2, 4, 7, 10, 12, 13]), ([3, 14, 14, 2], [2, 3, 14]), ([2, 15], [2, 15]), ([16, 15, 0, 1, 2, 3, 4, 5, 6, 7, 8, 9, 10, 11, 12, 13, 14, 15, 16], [16])])
def stanzalaw11_ItemsMakes.B9 : List Nat := [0, 1, 3, 7, 7, 7, 39, 103, 7, 263, 999, 7, 2055, 7, 16375, 32767, 65535, 131071]
theorem stanzalaw11_ItemsMakes.tab9 : rtab .any (opsOf Try.f7 9) = stanzalaw11_ItemsMakes.T9 := by kernel_rfl
theorem stanzalaw11_ItemsMakes.bits9 : waitsOk stanzalaw11_ItemsMakes.T9.2 stanzalaw11_ItemsMakes.B9 = true := by kernel_rfl
set_option maxHeartbeats 8000000 in
set_option maxRecDepth 100000 in
theorem stanzalaw11_ItemsMakes.calls (k : Nat) (A0_0 : Option Addr) (c0_0 : Nat) (l0_0 : List Int) (A0_1 : Option Addr) (c0_1 : Nat) (l0_1 : List Int) (A0_2 : Option Addr) (c0_2 : Nat) (l0_2 : List Int) (A0_3 : Option Addr) (c0_3 : Nat) (l0_3 : List Bool) (A0_4 : Option Addr) (c0_4 : Nat) (l0_4 : List (S45)) (r : Bool) (w : World) (hr0_0 : Kd.C (Kd.int .u8) w A0_0 l0_0.length l0_0) (hc0_0 : l0_0.length ≤ c0_0) (hr0_1 : Kd.C (Kd.int .u8) w A0_1 l0_1.length l0_1) (hc0_1 : l0_1.length ≤ c0_1) (hr0_2 : Kd.C (Kd.int .u8) w A0_2 l0_2.length l0_2) (hc0_2 : l0_2.length ≤ c0_2) (hr0_3 : Kd.C Kd.bool w A0_3 l0_3.length l0_3) (hc0_3 : l0_3.length ≤ c0_3) (hr0_4 : Kd.C k45 w A0_4 l0_4.length l0_4) (hc0_4 : l0_4.length ≤ c0_4) (h : stanzalaw11_ItemsMakes.f k l0_0 l0_1 l0_2 l0_3 l0_4 = some r) (hrt_ : zA (r = true)) :
  Calls Try.prog 7 #[.agg #[.slice A0_0 l0_0.length c0_0, .slice A0_1 l0_1.length c0_1, .slice A0_2 l0_2.length c0_2, .slice A0_3 l0_3.length c0_3, .slice A0_4 l0_4.length c0_4]] w fun e w' => e = .returned (.bool r) ∧ Below w.heap.size w w' := by
 have hu58 := Try.underlying58; have hu60 := Try.underlying60; have HR0_0 := zA.mk hr0_0; have HC0_0 := zA.mk hc0_0; clear hr0_0 hc0_0; have HR0_1 := zA.mk hr0_1; have HC0_1 := zA.mk hc0_1; clear hr0_1 hc0_1; have HR0_2 := zA.mk hr0_2; have HC0_2 := zA.mk hc0_2; clear hr0_2 hc0_2; have HR0_3 := zA.mk hr0_3; have HC0_3 := zA.mk hc0_3; clear hr0_3 hc0_3; have HR0_4 := zA.mk hr0_4; have HC0_4 := zA.mk hc0_4; clear hr0_4 hc0_4; have HB := zA.mk (Below.refl w.heap.size w); have H : ((stanzalaw11_Awake.f k).bind fun t490 => (if t490 = true then (if (l0_0.length : Int) > 500 then (some true) else ((stanzalaw02_Right.f k l0_4 3).bind fun t491 => (if prop_Make.c t491 3 = true then ((prop_MakeY.f t491 3).bind fun t496 => ((h3_Words.f k l0_0).bind fun t497 => ((stanzaref01_All.f k t497).bind fun t500 => ((h3_Opps.f k l0_1).bind fun t503 => ((h3_Opps.f k l0_2).bind fun t506 => ((items_Make.f k t500 t503 t506 l0_3 t496).bind fun bt509 => ((h3_Opps.f k l0_1).bind fun t516 => ((h3_Opps.f k l0_2).bind fun t519 => ((r0_Make.f k t500 t516 t519 l0_3 t491).bind fun bt522 => ((r0_SameParas.f k bt509.1 bt509.2 bt522.1 bt522.2).bind fun t528 => (some t528))))))))))) else ((prop_MakeN.f t491 3).bind fun _ => ((h3_Words.f k l0_0).bind fun t529 => ((stanzaref01_All.f k t529).bind fun t532 => ((h3_Opps.f k l0_1).bind fun t535 => ((h3_Opps.f k l0_2).bind fun t538 => ((items_Make.f k t532 t535 t538 l0_3 none).bind fun bt541 => (some false)))))))))) else (some false))) = some r := h
 clear h; replace H := Option.bind_eq_some_iff.mp H; obtain ⟨t490, A20, H⟩ := H; replace H : (if t490 = true then (if (l0_0.length : Int) > 500 then (some true) else ((stanzalaw02_Right.f k l0_4 3).bind fun t491 => (if prop_Make.c t491 3 = true then ((prop_MakeY.f t491 3).bind fun t496 => ((h3_Words.f k l0_0).bind fun t497 => ((stanzaref01_All.f k t497).bind fun t500 => ((h3_Opps.f k l0_1).bind fun t503 => ((h3_Opps.f k l0_2).bind fun t506 => ((items_Make.f k t500 t503 t506 l0_3 t496).bind fun bt509 => ((h3_Opps.f k l0_1).bind fun t516 => ((h3_Opps.f k l0_2).bind fun t519 => ((r0_Make.f k t500 t516 t519 l0_3 t491).bind fun bt522 => ((r0_SameParas.f k bt509.1 bt509.2 bt522.1 bt522.2).bind fun t528 => (some t528))))))))))) else ((prop_MakeN.f t491 3).bind fun _ => ((h3_Words.f k l0_0).bind fun t529 => ((stanzaref01_All.f k t529).bind fun t532 => ((h3_Opps.f k l0_1).bind fun t535 => ((h3_Opps.f k l0_2).bind fun t538 => ((items_Make.f k t532 t535 t538 l0_3 none).bind fun bt541 => (some false)))))))))) else (some false)) = some r := H
 have A2 := zA.mk A20; clear A20; by_cases c3 : t490 = true
 rotate_left
 ·replace c3 := Bool.eq_false_iff.mpr c3
  subst c3; have H1 : (some false) = some r := by rw [if_neg (show ¬ (false = true) by decide)] at H; exact H
  clear H; have H := H1; clear H1; exact absurd ((Option.some.inj H).trans hrt_.out) (by decide)
 subst c3; have H1 : (if (l0_0.length : Int) > 500 then (some true) else ((stanzalaw02_Right.f k l0_4 3).bind fun t491 => (if prop_Make.c t491 3 = true then ((prop_MakeY.f t491 3).bind fun t496 => ((h3_Words.f k l0_0).bind fun t497 => ((stanzaref01_All.f k t497).bind fun t500 => ((h3_Opps.f k l0_1).bind fun t503 => ((h3_Opps.f k l0_2).bind fun t506 => ((items_Make.f k t500 t503 t506 l0_3 t496).bind fun bt509 => ((h3_Opps.f k l0_1).bind fun t516 => ((h3_Opps.f k l0_2).bind fun t519 => ((r0_Make.f k t500 t516 t519 l0_3 t491).bind fun bt522 => ((r0_SameParas.f k bt509.1 bt509.2 bt522.1 bt522.2).bind fun t528 => (some t528))))))))))) else ((prop_MakeN.f t491 3).bind fun _ => ((h3_Words.f k l0_0).bind fun t529 => ((stanzaref01_All.f k t529).bind fun t532 => ((h3_Opps.f k l0_1).bind fun t535 => ((h3_Opps.f k l0_2).bind fun t538 => ((items_Make.f k t532 t535 t538 l0_3 none).bind fun bt541 => (some false)))))))))) = some r := by rw [if_pos rfl] at H; exact H
 clear H; have H := H1; clear H1; by_cases c4 : (l0_0.length : Int) > 500
 ·rw [if_pos c4] at H
  have c4b0 : decide (500 < (l0_0.length : Int)) = true := decide_eq_true c4
  have c4b1 : decide (500 < l0_0.length) = true := decide_eq_true (by omega)
  clear c4; obtain rfl := Option.some.inj H
  go_enter Try.func7, Try.ntmps7
  go_wp2_with (first | ((with_reducible refine gate_dst (N := 1) rfl ?_); refine box_event ?hg (N := 1) ?hd (cs := #[.slice A0_0 l0_0.length c0_0, .slice A0_1 l0_1.length c0_1, .slice A0_2 l0_2.length c0_2, .slice A0_3 l0_3.length c0_3, .slice A0_4 l0_4.length c0_4]) (t := 58) ?hr ?_; (case hd => rfl); (case hg => rfl); (case hr => first | (go_simp; done) | (go_simp; rfl)); intro gb489 hg w5 hbox hb; have n0_ := zA.mk (below_step (aL HB) hb); have n1_ := zA.mk (hbox); have n2_ := zA.mk ((by rw [hg]; exact (zF (aL HB)) : w.heap.size ≤ gb489)); have n3_ := zA.mk ((by rw [hg]; exact (zF (aL HB)) : w.heap.size ≤ gb489)); clear HB; have HB := n0_; have BK489 := n1_; have GW489 := n2_; have GE489 := n3_; clear n0_ n1_ n2_ n3_; clear hb hbox hg) | ((with_reducible refine gate_callee (f := 23) rfl ?_); refine goesL_ (some 8) rfl rfl Try.func23 (by kernel_rfl) rfl #[] rfl aT ?_; (with_reducible refine (stanzalaw11_Awake.calls k  true _ A2.out (by first | exact ⟨rfl⟩ | exact hrt_)).mono ?_); rintro e w6 ⟨rfl, hb⟩; refine ⟨_, rfl, ?_⟩; have n0_ := zA.mk (blk_below (g := gb489) (o := .cells #[.slice A0_0 l0_0.length c0_0, .slice A0_1 l0_1.length c0_1, .slice A0_2 l0_2.length c0_2, .slice A0_3 l0_3.length c0_3, .slice A0_4 l0_4.length c0_4] 58 (0, 0)) (aB BK489) hb); have n1_ := zA.mk (below_step (aL HB) hb); clear BK489; clear HB; have BK489 := n0_; have HB := n1_; clear n0_ n1_; (try clear hb); (try clear hb2); (try clear hk); (try clear hi); obtain ⟨hcz7_0, hcz7_1, hcz7_2, hcz7_3, hcz7_4, hfz7_0, hfz7_1, hfz7_2, hfz7_3, hfz7_4⟩ := aC5 BK489))
  go_ret
  exact ⟨aX, aL HB⟩
 rw [if_neg c4] at H; have c4b0 : decide (500 < (l0_0.length : Int)) = false := decide_eq_false c4
 have c4b1 : decide (500 < l0_0.length) = false := decide_eq_false (by omega)
 clear c4; replace H := Option.bind_eq_some_iff.mp H; obtain ⟨t491, A80, H⟩ := H; replace H : (if prop_Make.c t491 3 = true then ((prop_MakeY.f t491 3).bind fun t496 => ((h3_Words.f k l0_0).bind fun t497 => ((stanzaref01_All.f k t497).bind fun t500 => ((h3_Opps.f k l0_1).bind fun t503 => ((h3_Opps.f k l0_2).bind fun t506 => ((items_Make.f k t500 t503 t506 l0_3 t496).bind fun bt509 => ((h3_Opps.f k l0_1).bind fun t516 => ((h3_Opps.f k l0_2).bind fun t519 => ((r0_Make.f k t500 t516 t519 l0_3 t491).bind fun bt522 => ((r0_SameParas.f k bt509.1 bt509.2 bt522.1 bt522.2).bind fun t528 => (some t528))))))))))) else ((prop_MakeN.f t491 3).bind fun _ => ((h3_Words.f k l0_0).bind fun t529 => ((stanzaref01_All.f k t529).bind fun t532 => ((h3_Opps.f k l0_1).bind fun t535 => ((h3_Opps.f k l0_2).bind fun t538 => ((items_Make.f k t532 t535 t538 l0_3 none).bind fun bt541 => (some false)))))))) = some r := H
 have A8 := zA.mk A80; clear A80; by_cases c9 : prop_Make.c t491 3 = true
 rotate_left
 ·rw [if_neg c9] at H
  have c9b0 : prop_Make.c t491 3 = false := by simpa using c9
  clear c9; replace H := Option.bind_eq_some_iff.mp H; obtain ⟨_, A550, H⟩ := H; replace H : ((h3_Words.f k l0_0).bind fun t529 => ((stanzaref01_All.f k t529).bind fun t532 => ((h3_Opps.f k l0_1).bind fun t535 => ((h3_Opps.f k l0_2).bind fun t538 => ((items_Make.f k t532 t535 t538 l0_3 none).bind fun bt541 => (some false)))))) = some r := H
  have A55 := zA.mk A550; clear A550; replace H := Option.bind_eq_some_iff.mp H; obtain ⟨t529, A560, H⟩ := H; replace H : ((stanzaref01_All.f k t529).bind fun t532 => ((h3_Opps.f k l0_1).bind fun t535 => ((h3_Opps.f k l0_2).bind fun t538 => ((items_Make.f k t532 t535 t538 l0_3 none).bind fun bt541 => (some false))))) = some r := H
  have A56 := zA.mk A560; clear A560; replace H := Option.bind_eq_some_iff.mp H; obtain ⟨t532, A570, H⟩ := H; replace H : ((h3_Opps.f k l0_1).bind fun t535 => ((h3_Opps.f k l0_2).bind fun t538 => ((items_Make.f k t532 t535 t538 l0_3 none).bind fun bt541 => (some false)))) = some r := H
  have A57 := zA.mk A570; clear A570; replace H := Option.bind_eq_some_iff.mp H; obtain ⟨t535, A580, H⟩ := H; replace H : ((h3_Opps.f k l0_2).bind fun t538 => ((items_Make.f k t532 t535 t538 l0_3 none).bind fun bt541 => (some false))) = some r := H
  have A58 := zA.mk A580; clear A580; replace H := Option.bind_eq_some_iff.mp H; obtain ⟨t538, A590, H⟩ := H; replace H : ((items_Make.f k t532 t535 t538 l0_3 none).bind fun bt541 => (some false)) = some r := H
  have A59 := zA.mk A590; clear A590; replace H := Option.bind_eq_some_iff.mp H; obtain ⟨⟨t541, t544⟩, A600, H⟩ := H; replace H : (some false) = some r := H; have A60 := zA.mk A600; clear A600; exact absurd ((Option.some.inj H).trans hrt_.out) (by decide)
 rw [if_pos c9] at H; have c9b0 : prop_Make.c t491 3 = true := c9
 clear c9; replace H := Option.bind_eq_some_iff.mp H; obtain ⟨t496, A100, H⟩ := H; replace H : ((h3_Words.f k l0_0).bind fun t497 => ((stanzaref01_All.f k t497).bind fun t500 => ((h3_Opps.f k l0_1).bind fun t503 => ((h3_Opps.f k l0_2).bind fun t506 => ((items_Make.f k t500 t503 t506 l0_3 t496).bind fun bt509 => ((h3_Opps.f k l0_1).bind fun t516 => ((h3_Opps.f k l0_2).bind fun t519 => ((r0_Make.f k t500 t516 t519 l0_3 t491).bind fun bt522 => ((r0_SameParas.f k bt509.1 bt509.2 bt522.1 bt522.2).bind fun t528 => (some t528)))))))))) = some r := H
 have A10 := zA.mk A100; clear A100; replace H := Option.bind_eq_some_iff.mp H; obtain ⟨t497, A110, H⟩ := H; replace H : ((stanzaref01_All.f k t497).bind fun t500 => ((h3_Opps.f k l0_1).bind fun t503 => ((h3_Opps.f k l0_2).bind fun t506 => ((items_Make.f k t500 t503 t506 l0_3 t496).bind fun bt509 => ((h3_Opps.f k l0_1).bind fun t516 => ((h3_Opps.f k l0_2).bind fun t519 => ((r0_Make.f k t500 t516 t519 l0_3 t491).bind fun bt522 => ((r0_SameParas.f k bt509.1 bt509.2 bt522.1 bt522.2).bind fun t528 => (some t528))))))))) = some r := H
 have A11 := zA.mk A110; clear A110; replace H := Option.bind_eq_some_iff.mp H; obtain ⟨t500, A120, H⟩ := H; replace H : ((h3_Opps.f k l0_1).bind fun t503 => ((h3_Opps.f k l0_2).bind fun t506 => ((items_Make.f k t500 t503 t506 l0_3 t496).bind fun bt509 => ((h3_Opps.f k l0_1).bind fun t516 => ((h3_Opps.f k l0_2).bind fun t519 => ((r0_Make.f k t500 t516 t519 l0_3 t491).bind fun bt522 => ((r0_SameParas.f k bt509.1 bt509.2 bt522.1 bt522.2).bind fun t528 => (some t528)))))))) = some r := H
 have A12 := zA.mk A120; clear A120; replace H := Option.bind_eq_some_iff.mp H; obtain ⟨t503, A130, H⟩ := H; replace H : ((h3_Opps.f k l0_2).bind fun t506 => ((items_Make.f k t500 t503 t506 l0_3 t496).bind fun bt509 => ((h3_Opps.f k l0_1).bind fun t516 => ((h3_Opps.f k l0_2).bind fun t519 => ((r0_Make.f k t500 t516 t519 l0_3 t491).bind fun bt522 => ((r0_SameParas.f k bt509.1 bt509.2 bt522.1 bt522.2).bind fun t528 => (some t528))))))) = some r := H
 have A13 := zA.mk A130; clear A130; replace H := Option.bind_eq_some_iff.mp H; obtain ⟨t506, A140, H⟩ := H; replace H : ((items_Make.f k t500 t503 t506 l0_3 t496).bind fun bt509 => ((h3_Opps.f k l0_1).bind fun t516 => ((h3_Opps.f k l0_2).bind fun t519 => ((r0_Make.f k t500 t516 t519 l0_3 t491).bind fun bt522 => ((r0_SameParas.f k bt509.1 bt509.2 bt522.1 bt522.2).bind fun t528 => (some t528)))))) = some r := H
 have A14 := zA.mk A140; clear A140; replace H := Option.bind_eq_some_iff.mp H; obtain ⟨⟨t509, t512⟩, A150, H⟩ := H; replace H : ((h3_Opps.f k l0_1).bind fun t516 => ((h3_Opps.f k l0_2).bind fun t519 => ((r0_Make.f k t500 t516 t519 l0_3 t491).bind fun bt522 => ((r0_SameParas.f k t509 t512 bt522.1 bt522.2).bind fun t528 => (some t528))))) = some r := H
 have A15 := zA.mk A150; clear A150; replace H := Option.bind_eq_some_iff.mp H; obtain ⟨t516, A160, H⟩ := H; replace H : ((h3_Opps.f k l0_2).bind fun t519 => ((r0_Make.f k t500 t516 t519 l0_3 t491).bind fun bt522 => ((r0_SameParas.f k t509 t512 bt522.1 bt522.2).bind fun t528 => (some t528)))) = some r := H
 have A16 := zA.mk A160; clear A160; replace H := Option.bind_eq_some_iff.mp H; obtain ⟨t519, A170, H⟩ := H; replace H : ((r0_Make.f k t500 t516 t519 l0_3 t491).bind fun bt522 => ((r0_SameParas.f k t509 t512 bt522.1 bt522.2).bind fun t528 => (some t528))) = some r := H
 have A17 := zA.mk A170; clear A170; replace H := Option.bind_eq_some_iff.mp H; obtain ⟨⟨t522, t525⟩, A180, H⟩ := H; replace H : ((r0_SameParas.f k t509 t512 t522 t525).bind fun t528 => (some t528)) = some r := H
 have A18 := zA.mk A180; clear A180; replace H := Option.bind_eq_some_iff.mp H; obtain ⟨t528, A190, H⟩ := H; replace H : (some t528) = some r := H; have A19 := zA.mk A190; clear A190; obtain rfl := Option.some.inj H
 go_enter Try.func7, Try.ntmps7
 try go_wp2_with (first | ((with_reducible refine gate_dst (N := 1) rfl ?_); refine box_event ?hg (N := 1) ?hd (cs := #[.slice A0_0 l0_0.length c0_0, .slice A0_1 l0_1.length c0_1, .slice A0_2 l0_2.length c0_2, .slice A0_3 l0_3.length c0_3, .slice A0_4 l0_4.length c0_4]) (t := 58) ?hr ?_; (case hd => rfl); (case hg => rfl); (case hr => first | (go_simp; done) | (go_simp; rfl)); intro gb489 hg w20 hbox hb; have n0_ := zA.mk (below_step (aL HB) hb); have n1_ := zA.mk (hbox); have n2_ := zA.mk ((by rw [hg]; exact (zF (aL HB)) : w.heap.size ≤ gb489)); have n3_ := zA.mk ((by rw [hg]; exact (zF (aL HB)) : w.heap.size ≤ gb489)); clear HB; have HB := n0_; have BK489 := n1_; have GW489 := n2_; have GE489 := n3_; clear n0_ n1_ n2_ n3_; clear hb hbox hg) | ((with_reducible refine gate_callee (f := 23) rfl ?_); refine goesL_ (some 8) rfl rfl Try.func23 (by kernel_rfl) rfl #[] rfl aT ?_; (with_reducible refine (stanzalaw11_Awake.calls k  true _ A2.out (by first | exact ⟨rfl⟩ | exact hrt_)).mono ?_); rintro e w21 ⟨rfl, hb⟩; refine ⟨_, rfl, ?_⟩; have n0_ := zA.mk (blk_below (g := gb489) (o := .cells #[.slice A0_0 l0_0.length c0_0, .slice A0_1 l0_1.length c0_1, .slice A0_2 l0_2.length c0_2, .slice A0_3 l0_3.length c0_3, .slice A0_4 l0_4.length c0_4] 58 (0, 0)) (aB BK489) hb); have n1_ := zA.mk (below_step (aL HB) hb); clear BK489; clear HB; have BK489 := n0_; have HB := n1_; clear n0_ n1_; (try clear hb); (try clear hb2); (try clear hk); (try clear hi); obtain ⟨hcz22_0, hcz22_1, hcz22_2, hcz22_3, hcz22_4, hfz22_0, hfz22_1, hfz22_2, hfz22_3, hfz22_4⟩ := aC5 BK489) | ((with_reducible refine gate_callee (f := 13) rfl ?_); refine goesL_ (some 16) rfl rfl Try.func13 (by kernel_rfl) rfl #[.slice A0_4 l0_4.length c0_4, .int .i64 3] rfl aT ?_; (with_reducible refine (stanzalaw02_Right.calls k _ _ l0_4 3 t491 _ ?side1 ?side2 A8.out).mono ?_); (case side1 => exact aA HR0_4 HB); (case side2 => exact HC0_4.out); rintro e w23 ⟨v492, rfl, ho0, hb⟩; refine ⟨_, rfl, ?_⟩; have n0_ := zA.mk (Kd.zR ho0 (zF (aL HB))); have n1_ := zA.mk (blk_below (g := gb489) (o := .cells #[.slice A0_0 l0_0.length c0_0, .slice A0_1 l0_1.length c0_1, .slice A0_2 l0_2.length c0_2, .slice A0_3 l0_3.length c0_3, .slice A0_4 l0_4.length c0_4] 58 (0, 0)) (aB BK489) hb); have n2_ := zA.mk (below_step (aL HB) hb); clear BK489; clear HB; have HO493 := n0_; have BK489 := n1_; have HB := n2_; clear n0_ n1_ n2_; (try clear hb); (try clear hb2); (try clear hk); (try clear hi); (try clear ho0); obtain ⟨Ao24, co24, eo24⟩ := Kd.zQ HO493.out; subst eo24) | ((with_reducible refine gate_callee (f := 14) rfl ?_); refine goesL_ (some 19) rfl rfl Try.func14 (by kernel_rfl) rfl #[.slice Ao24 t491.length co24, .int .i64 3] rfl aT ?_; (with_reducible refine (prop_MakeY.calls _ _ t491 3 t496 _ ?side1 ?side2 A10.out).mono ?_); (case side1 => exact aF HO493); (case side2 => exact (Kd.zN HO493.out).2.1); rintro e w25 ⟨gb495, ob495, gb496, ob496, rfl, hx1, hx2, hg1, hg2, hne, htb, hb⟩; refine ⟨_, rfl, ?_⟩; have n0_ := zA.mk (Kd.zO (Kd.R_elderB (Kd.R_elderB (aR HO493) gb495 hg1) gb496 hg2) hb); have n1_ := zA.mk (blk_below (g := gb489) (o := .cells #[.slice A0_0 l0_0.length c0_0, .slice A0_1 l0_1.length c0_1, .slice A0_2 l0_2.length c0_2, .slice A0_3 l0_3.length c0_3, .slice A0_4 l0_4.length c0_4] 58 (0, 0)) (aB BK489) hb); have n2_ := zA.mk (below_step (aL HB) hb); have n3_ := zA.mk (hx1); have n4_ := zA.mk ((Nat.le_trans (zF (aL HB)) hg1 : w.heap.size ≤ gb495)); have n5_ := zA.mk ((Nat.le_trans (zF (aL HB)) hg1 : w.heap.size ≤ gb495)); have n6_ := zA.mk (hne); have n7_ := zA.mk ((Nat.ne_of_lt (Nat.lt_of_lt_of_le (blk_lt (g := gb489) (o := .cells #[.slice A0_0 l0_0.length c0_0, .slice A0_1 l0_1.length c0_1, .slice A0_2 l0_2.length c0_2, .slice A0_3 l0_3.length c0_3, .slice A0_4 l0_4.length c0_4] 58 (0, 0)) (aB BK489)) hg1) : gb489 ≠ gb495)); have n8_ := zA.mk ((Nat.ne_of_gt (Nat.lt_of_lt_of_le (blk_lt (g := gb489) (o := .cells #[.slice A0_0 l0_0.length c0_0, .slice A0_1 l0_1.length c0_1, .slice A0_2 l0_2.length c0_2, .slice A0_3 l0_3.length c0_3, .slice A0_4 l0_4.length c0_4] 58 (0, 0)) (aB BK489)) hg1) : gb495 ≠ gb489)); have n9_ := zA.mk (hx2); have n10_ := zA.mk ((Nat.le_trans (zF (aL HB)) hg2 : w.heap.size ≤ gb496)); have n11_ := zA.mk ((Nat.le_trans (zF (aL HB)) hg2 : w.heap.size ≤ gb496)); have n12_ := zA.mk (Ne.symm hne); have n13_ := zA.mk ((Nat.ne_of_lt (Nat.lt_of_lt_of_le (blk_lt (g := gb489) (o := .cells #[.slice A0_0 l0_0.length c0_0, .slice A0_1 l0_1.length c0_1, .slice A0_2 l0_2.length c0_2, .slice A0_3 l0_3.length c0_3, .slice A0_4 l0_4.length c0_4] 58 (0, 0)) (aB BK489)) hg2) : gb489 ≠ gb496)); have n14_ := zA.mk ((Nat.ne_of_gt (Nat.lt_of_lt_of_le (blk_lt (g := gb489) (o := .cells #[.slice A0_0 l0_0.length c0_0, .slice A0_1 l0_1.length c0_1, .slice A0_2 l0_2.length c0_2, .slice A0_3 l0_3.length c0_3, .slice A0_4 l0_4.length c0_4] 58 (0, 0)) (aB BK489)) hg2) : gb496 ≠ gb489)); have n15_ := zA.mk (htb); clear HO493; clear BK489; clear HB; have HO493 := n0_; have BK489 := n1_; have HB := n2_; have BK495 := n3_; have GW495 := n4_; have GE495 := n5_; have NB495_496 := n6_; have NB489_495 := n7_; have NB495_489 := n8_; have BK496 := n9_; have GW496 := n10_; have GE496 := n11_; have NB496_495 := n12_; have NB489_496 := n13_; have NB496_489 := n14_; have HTt496 := n15_; clear n0_ n1_ n2_ n3_ n4_ n5_ n6_ n7_ n8_ n9_ n10_ n11_ n12_ n13_ n14_ n15_; clear hb hx1 hx2 hg1 hg2 hne htb; have hnb26 := NB489_495.out; have hnc26 := NB495_489.out; have hnb27 := NB489_496.out; have hnc27 := NB496_489.out; obtain ⟨hcz28_0, hcz28_1, hcz28_2, hcz28_3, hcz28_4, hfz28_0, hfz28_1, hfz28_2, hfz28_3, hfz28_4⟩ := aC5 BK489) | ((with_reducible refine gate_callee (f := 15) rfl ?_); refine goesL_ (some 24) rfl rfl Try.func15 (by kernel_rfl) rfl #[.slice A0_0 l0_0.length c0_0] rfl aT ?_; (with_reducible refine (h3_Words.calls k _ _ l0_0 t497 _ ?side1 ?side2 A11.out).mono ?_); (case side1 => exact aA HR0_0 HB); (case side2 => exact HC0_0.out); rintro e w29 ⟨v498, rfl, ho0, hb⟩; refine ⟨_, rfl, ?_⟩; have n0_ := zA.mk (Kd.zO (aR HO493) hb); have n1_ := zA.mk (Kd.zR (Kd.R_newB (Kd.R_newB ho0 (g := gb495) (o := ob495) (aB BK495)) (g := gb496) (o := ob496) (aB BK496)) (zF (aL HB))); have n2_ := zA.mk (blk_below (g := gb489) (o := .cells #[.slice A0_0 l0_0.length c0_0, .slice A0_1 l0_1.length c0_1, .slice A0_2 l0_2.length c0_2, .slice A0_3 l0_3.length c0_3, .slice A0_4 l0_4.length c0_4] 58 (0, 0)) (aB BK489) hb); have n3_ := zA.mk (blk_below (g := gb495) (o := ob495) (aB BK495) hb); have n4_ := zA.mk (blk_below (g := gb496) (o := ob496) (aB BK496) hb); have n5_ := zA.mk (below_step (aL HB) hb); clear HO493; clear BK489; clear BK495; clear BK496; clear HB; have HO493 := n0_; have HO499 := n1_; have BK489 := n2_; have BK495 := n3_; have BK496 := n4_; have HB := n5_; clear n0_ n1_ n2_ n3_ n4_ n5_; (try clear hb); (try clear hb2); (try clear hk); (try clear hi); (try clear ho0); obtain ⟨Ao30, co30, eo30⟩ := Kd.zQ HO499.out; subst eo30) | ((with_reducible refine gate_callee (f := 16) rfl ?_); refine goesL_ (some 25) rfl rfl Try.func16 (by kernel_rfl) rfl #[.slice Ao30 t497.length co30] rfl aT ?_; (with_reducible refine (stanzaref01_All.calls k _ _ t497 t500 _ ?side1 ?side2 A12.out).mono ?_); (case side1 => exact aF HO499); (case side2 => exact (Kd.zN HO499.out).2.1); rintro e w31 ⟨v501, rfl, ho0, hb⟩; refine ⟨_, rfl, ?_⟩; have n0_ := zA.mk (Kd.zO (aR HO493) hb); have n1_ := zA.mk (Kd.zO (aR HO499) hb); have n2_ := zA.mk (Kd.zR (Kd.R_newB (Kd.R_newB ho0 (g := gb495) (o := ob495) (aB BK495)) (g := gb496) (o := ob496) (aB BK496)) (zF (aL HB))); have n3_ := zA.mk (blk_below (g := gb489) (o := .cells #[.slice A0_0 l0_0.length c0_0, .slice A0_1 l0_1.length c0_1, .slice A0_2 l0_2.length c0_2, .slice A0_3 l0_3.length c0_3, .slice A0_4 l0_4.length c0_4] 58 (0, 0)) (aB BK489) hb); have n4_ := zA.mk (blk_below (g := gb495) (o := ob495) (aB BK495) hb); have n5_ := zA.mk (blk_below (g := gb496) (o := ob496) (aB BK496) hb); have n6_ := zA.mk (below_step (aL HB) hb); clear HO493; clear HO499; clear BK489; clear BK495; clear BK496; clear HB; have HO493 := n0_; have HO499 := n1_; have HO502 := n2_; have BK489 := n3_; have BK495 := n4_; have BK496 := n5_; have HB := n6_; clear n0_ n1_ n2_ n3_ n4_ n5_ n6_; (try clear hb); (try clear hb2); (try clear hk); (try clear hi); (try clear ho0); obtain ⟨Ao32, co32, eo32⟩ := Kd.zQ HO502.out; subst eo32))
 have n0_ := zA.mk (Kd.zI HO493.out); have n1_ := zA.mk (Kd.zI HO499.out); have n2_ := zA.mk (Kd.zI HO502.out); have n3_ := zA.mk (zC BK489.out); have n4_ := zA.mk (zC BK495.out); have n5_ := zA.mk (zC BK496.out); have n6_ := zA.mk (below_drew1 HB.out); clear HO493; clear HO499; clear HO502; clear BK489; clear BK495; clear BK496; clear HB; have HO493 := n0_; have HO499 := n1_; have HO502 := n2_; have BK489 := n3_; have BK495 := n4_; have BK496 := n5_; have HB := n6_; clear n0_ n1_ n2_ n3_ n4_ n5_ n6_; refine start_ (n := 13) (S := fun w' => w'.cell? ⟨gb489, 0, none⟩ = some (.slice A0_0 l0_0.length c0_0) ∧ w'.cell? ⟨gb489, 1, none⟩ = some (.slice A0_1 l0_1.length c0_1) ∧ w'.cell? ⟨gb489, 2, none⟩ = some (.slice A0_2 l0_2.length c0_2) ∧ w'.cell? ⟨gb489, 3, none⟩ = some (.slice A0_3 l0_3.length c0_3) ∧ w'.cell? ⟨gb489, 4, none⟩ = some (.slice A0_4 l0_4.length c0_4)) (ds := []) #[false, false, false, false, false, false, false, false, false, false, false, false, false] (by kernel_rfl) rfl rfl ⟨(zE BK489.out 0).trans rfl, (zE BK489.out 1).trans rfl, (zE BK489.out 2).trans rfl, (zE BK489.out 3).trans rfl, (zE BK489.out 4).trans rfl⟩ (fun hHeld => ?_); refine with_tabW stanzalaw11_ItemsMakes.tab8 stanzalaw11_ItemsMakes.bits8 (fun HT_ HW_ => ?_)
 generalize w31.drew = w33 at HO493 HO499 HO502 BK489 BK495 BK496 HB hHeld ⊢
 refine aP 0 (some 26) (tf_ 1 13) HT_ ?_
 refine aP 1 (some 27) (tf_ 2 13) HT_ ?_
 refine aP 4 (some 30) #[true, true, false, false, true, false, false, false, false, false, false, false, false] HT_ ?_
 refine aP 7 (some 33) #[true, true, false, false, true, false, false, true, false, false, false, false, false] HT_ ?_
 refine aP 9 (some 35) #[true, true, false, false, true, false, false, true, false, true, false, false, false] HT_ ?_
 refine take_ (i := 2) (N := some 28) (v := ?_) (a' := ?_) #[true, true, true, false, true, false, false, true, false, true, false, false, false] rfl rfl (take_ofW HT_.out HW_.out (by kernel_rfl)) (fun _ _ _ h => h) (Or.inl ⟨by rfl, ?_⟩) hHeld ?_ ?_
 rotate_left
 ·rintro w' ⟨s0, s1, s2, s3, s4⟩
  go_simp
  with_reducible rfl
 rotate_left
 ·simp only [Act.put, sA_, sB_, sC_, i64_w, i32_w]
  rfl
 refine take_ (i := 5) (N := some 31) (v := ?_) (a' := ?_) #[true, true, true, false, true, true, false, true, false, true, false, false, false] rfl rfl (take_ofW HT_.out HW_.out (by kernel_rfl)) (fun _ _ _ h => h) (Or.inl ⟨by rfl, ?_⟩) hHeld ?_ ?_
 rotate_left
 ·rintro w' ⟨s0, s1, s2, s3, s4⟩
  go_simp
  with_reducible rfl
 rotate_left
 ·simp only [Act.put, sA_, sB_, sC_, i64_w, i32_w]
  rfl
 refine take_ (i := 8) (N := some 34) (v := ?_) (a' := ?_) #[true, true, true, false, true, true, false, true, true, true, false, false, false] rfl rfl (take_ofW HT_.out HW_.out (by kernel_rfl)) (fun _ _ _ h => h) (Or.inl ⟨by rfl, ?_⟩) hHeld ?_ ?_
 rotate_left
 ·rintro w' ⟨s0, s1, s2, s3, s4⟩
  go_simp
  with_reducible rfl
 rotate_left
 ·simp only [Act.put, sA_, sB_, sC_, i64_w, i32_w]
  rfl
 refine join_ (σ := Value × Value × Value × Value × Nat) 1 #[true, true, true, true, true, true, true, true, true, true, true, true, false] (fun s_ => [(29, s_.1), (32, s_.2.1), (36, .agg #[s_.2.2.1, s_.2.2.2.1]), (7, .pointer (some ⟨s_.2.2.2.2, 0, none⟩))]) (fun s_ w' => (w'.cell? ⟨gb489, 0, none⟩ = some (.slice A0_0 l0_0.length c0_0) ∧ w'.cell? ⟨gb489, 1, none⟩ = some (.slice A0_1 l0_1.length c0_1) ∧ w'.cell? ⟨gb489, 2, none⟩ = some (.slice A0_2 l0_2.length c0_2) ∧ w'.cell? ⟨gb489, 3, none⟩ = some (.slice A0_3 l0_3.length c0_3) ∧ w'.cell? ⟨gb489, 4, none⟩ = some (.slice A0_4 l0_4.length c0_4)) ∧ (Kd.R k45 45 w' w.heap.size (fun k_ => k_ ≠ gb495 ∧ k_ ≠ gb496) (.slice Ao24 t491.length co24) t491) ∧ (Kd.R (Kd.int .u8) 5 w' w.heap.size (fun k_ => k_ ≠ gb495 ∧ k_ ≠ gb496) (.slice Ao30 t497.length co30) t497) ∧ (Kd.R k50 50 w' w.heap.size (fun k_ => k_ ≠ gb495 ∧ k_ ≠ gb496) (.slice Ao32 t500.length co32) t500) ∧ (Kd.R (Kd.int .u8) 53 w' w.heap.size (fun k_ => some k_ ≠ (s_.2.1 : Value).ownBlock ∧ some k_ ≠ (s_.2.2.2.1 : Value).ownBlock ∧ k_ ≠ gb495 ∧ k_ ≠ gb496) s_.1 t503) ∧ (Kd.R (Kd.int .u8) 53 w' w.heap.size (fun k_ => some k_ ≠ (s_.1 : Value).ownBlock ∧ some k_ ≠ (s_.2.2.2.1 : Value).ownBlock ∧ k_ ≠ gb495 ∧ k_ ≠ gb496) s_.2.1 t506) ∧ (Kd.R k48 48 w' w.heap.size (fun k_ => k_ ≠ gb495 ∧ k_ ≠ gb496) s_.2.2.1 t509) ∧ (Kd.R (Kd.int .u8) 53 w' w.heap.size (fun k_ => some k_ ≠ (s_.1 : Value).ownBlock ∧ some k_ ≠ (s_.2.1 : Value).ownBlock ∧ k_ ≠ gb495 ∧ k_ ≠ gb496) s_.2.2.2.1 t512) ∧ (w'.heap[gb489]? = some (.cells #[.slice A0_0 l0_0.length c0_0, .slice A0_1 l0_1.length c0_1, .slice A0_2 l0_2.length c0_2, .slice A0_3 l0_3.length c0_3, .slice A0_4 l0_4.length c0_4] 58 (0, 0))) ∧ (w'.heap[gb495]? = some (ob495)) ∧ (w'.heap[gb496]? = some (ob496)) ∧ (w'.heap[s_.2.2.2.2]? = some (.cells #[.slice none 0 0, .slice none 0 0] 60 (0, 0))) ∧ (w.heap.size ≤ s_.2.2.2.2) ∧ (w.heap.size ≤ s_.2.2.2.2) ∧ (gb489 ≠ s_.2.2.2.2) ∧ (s_.2.2.2.2 ≠ gb489) ∧ (gb495 ≠ s_.2.2.2.2) ∧ (s_.2.2.2.2 ≠ gb495) ∧ (gb496 ≠ s_.2.2.2.2) ∧ (s_.2.2.2.2 ≠ gb496) ∧ (Below w.heap.size w w')) ?_ ?_
 rotate_left
 ·intro hCont
  refine two_ (i := 3) (j := 11) (Ni := some 29) (Nj := some 7) #[true, true, true, true, true, true, false, true, true, true, false, false, false] #[true, true, true, false, true, true, false, true, true, true, false, true, false] rfl rfl rfl rfl (two_of HT_.out (by kernel_rfl)) (by decide) (by decide) (fun K hK => ?_) (fun K hK => ?_)
  ·skip
   refine goes_ Try.func18 (by kernel_rfl) rfl #[.slice A0_1 l0_1.length c0_1] (by rfl) rfl rfl aT ?_
   with_reducible refine (h3_Opps.calls k _ _ l0_1 t503 _ ?side1 ?side2 A13.out).mono ?_
   (case side1 => exact aA HR0_1 HB)
   (case side2 => exact HC0_1.out)
   rintro e w34 ⟨v504, rfl, ho0, hb⟩
   refine ⟨_, rfl, ?_⟩
   have n0_ := zA.mk (Kd.zO (aR HO493) hb); have n1_ := zA.mk (Kd.zO (aR HO499) hb); have n2_ := zA.mk (Kd.zO (aR HO502) hb); have n3_ := zA.mk (Kd.zR (Kd.R_newB (Kd.R_newB ho0 (g := gb495) (o := ob495) (aB BK495)) (g := gb496) (o := ob496) (aB BK496)) (zF (aL HB))); have n4_ := zA.mk (blk_below (g := gb489) (o := .cells #[.slice A0_0 l0_0.length c0_0, .slice A0_1 l0_1.length c0_1, .slice A0_2 l0_2.length c0_2, .slice A0_3 l0_3.length c0_3, .slice A0_4 l0_4.length c0_4] 58 (0, 0)) (aB BK489) hb); have n5_ := zA.mk (blk_below (g := gb495) (o := ob495) (aB BK495) hb); have n6_ := zA.mk (blk_below (g := gb496) (o := ob496) (aB BK496) hb); have n7_ := zA.mk (below_step (aL HB) hb); clear HO493; clear HO499; clear HO502; clear BK489; clear BK495; clear BK496; clear HB; have HO493 := n0_; have HO499 := n1_; have HO502 := n2_; have HO505 := n3_; have BK489 := n4_; have BK495 := n5_; have BK496 := n6_; have HB := n7_; clear n0_ n1_ n2_ n3_ n4_ n5_ n6_ n7_; (try clear hb)
   (try clear hb2)
   (try clear hk)
   (try clear hi)
   (try clear ho0)
   refine hK.out _ _ ⟨(zE BK489.out 0).trans rfl, (zE BK489.out 1).trans rfl, (zE BK489.out 2).trans rfl, (zE BK489.out 3).trans rfl, (zE BK489.out 4).trans rfl⟩ (fun hHeld => ?_)
   clear hK K; refine norm_ (a' := ?_) ?_ ?_
   rotate_left
   ·show Act.put _ (some 29) _ = _
    simp only [Act.put, sA_, sB_, sC_, i64_w, i32_w]; rfl
   refine two_ (i := 6) (j := 11) (Ni := some 32) (Nj := some 7) #[true, true, true, true, true, true, true, true, true, true, false, false, false] #[true, true, true, true, true, true, false, true, true, true, false, true, false] rfl rfl rfl rfl (two_of HT_.out (by kernel_rfl)) (by decide) (by decide) (fun K hK => ?_) (fun K hK => ?_)
   ·skip
    refine goes_ Try.func18 (by kernel_rfl) rfl #[.slice A0_2 l0_2.length c0_2] (by rfl) rfl rfl aT ?_
    with_reducible refine (h3_Opps.calls k _ _ l0_2 t506 _ ?side1 ?side2 A14.out).mono ?_
    (case side1 => exact aA HR0_2 HB)
    (case side2 => exact HC0_2.out)
    rintro e w35 ⟨v507, rfl, ho0, hb⟩
    refine ⟨_, rfl, ?_⟩
    have n0_ := zA.mk (Kd.zO (aR HO493) hb); have n1_ := zA.mk (Kd.zO (aR HO499) hb); have n2_ := zA.mk (Kd.zO (aR HO502) hb); have n3_ := zA.mk (Kd.R_elder' (aR HO505) (Kd.R_base ho0) hb); have n4_ := zA.mk (Kd.zR (Kd.R_newB (Kd.R_newB (Kd.R_new' ho0 (Kd.R_lt (aR HO505))) (g := gb495) (o := ob495) (aB BK495)) (g := gb496) (o := ob496) (aB BK496)) (zF (aL HB))); have n5_ := zA.mk (blk_below (g := gb489) (o := .cells #[.slice A0_0 l0_0.length c0_0, .slice A0_1 l0_1.length c0_1, .slice A0_2 l0_2.length c0_2, .slice A0_3 l0_3.length c0_3, .slice A0_4 l0_4.length c0_4] 58 (0, 0)) (aB BK489) hb); have n6_ := zA.mk (blk_below (g := gb495) (o := ob495) (aB BK495) hb); have n7_ := zA.mk (blk_below (g := gb496) (o := ob496) (aB BK496) hb); have n8_ := zA.mk (below_step (aL HB) hb); clear HO493; clear HO499; clear HO502; clear HO505; clear BK489; clear BK495; clear BK496; clear HB; have HO493 := n0_; have HO499 := n1_; have HO502 := n2_; have HO505 := n3_; have HO508 := n4_; have BK489 := n5_; have BK495 := n6_; have BK496 := n7_; have HB := n8_; clear n0_ n1_ n2_ n3_ n4_ n5_ n6_ n7_ n8_; (try clear hb)
    (try clear hb2)
    (try clear hk)
    (try clear hi)
    (try clear ho0)
    obtain ⟨Ao36, co36, eo36⟩ := Kd.zQ HO505.out; (first | subst eo36 | (injection eo36 with f1_ f2_ f3_; have f4_ := f1_.symm; have f5_ := f3_.symm; clear f1_ f2_ f3_; subst f4_; subst f5_))
    obtain ⟨Ao37, co37, eo37⟩ := Kd.zQ HO508.out; (first | subst eo37 | (injection eo37 with f1_ f2_ f3_; have f4_ := f1_.symm; have f5_ := f3_.symm; clear f1_ f2_ f3_; subst f4_; subst f5_))
    refine hK.out _ _ ⟨(zE BK489.out 0).trans rfl, (zE BK489.out 1).trans rfl, (zE BK489.out 2).trans rfl, (zE BK489.out 3).trans rfl, (zE BK489.out 4).trans rfl⟩ (fun hHeld => ?_)
    clear hK K; refine norm_ (a' := ?_) ?_ ?_
    rotate_left
    ·show Act.put _ (some 32) _ = _
     simp only [Act.put, sA_, sB_, sC_, i64_w, i32_w]; rfl
    refine two_ (i := 10) (j := 11) (Ni := some 36) (Nj := some 7) #[true, true, true, true, true, true, true, true, true, true, true, false, false] #[true, true, true, true, true, true, true, true, true, true, false, true, false] rfl rfl rfl rfl (two_of HT_.out (by kernel_rfl)) (by decide) (by decide) (fun K hK => ?_) (fun K hK => ?_)
    ·skip
     refine goes_ Try.func24 (by kernel_rfl) rfl #[.slice Ao32 t500.length co32, .slice Ao36 t503.length co36, .slice Ao37 t506.length co37, .slice A0_3 l0_3.length c0_3, .pointer (some ⟨gb495, 0, none⟩)] (by rfl) rfl rfl aT ?_
     with_reducible refine (items_Make.calls k _ _ t500 _ _ t503 _ _ t506 _ _ l0_3 (.pointer (some ⟨gb495, 0, none⟩)) t496 t509 t512 _ ?side1 ?side2 ?side3 ?side4 ?side5 ?side6 ?side7 ?side8 ?side9 A15.out).mono ?_
     (case side1 => exact aF HO502)
     (case side2 => exact (Kd.zN HO502.out).2.1)
     (case side3 => exact aF HO505)
     (case side4 => exact (Kd.zN HO505.out).2.1)
     (case side5 => exact aF HO508)
     (case side6 => exact (Kd.zN HO508.out).2.1)
     (case side7 => exact aA HR0_3 HB)
     (case side8 => exact HC0_3.out)
     (case side9 => exact TabO.at HTt496.out (aB BK495) (aB BK496))
     rintro e w38 ⟨v510, v513, rfl, ho0, ho1, hb⟩
     refine ⟨_, rfl, ?_⟩
     have n0_ := zA.mk (Kd.zO (aR HO493) hb); have n1_ := zA.mk (Kd.zO (aR HO499) hb); have n2_ := zA.mk (Kd.zO (aR HO502) hb); have n3_ := zA.mk (Kd.R_elder' (aR HO505) (Kd.R_base ho1) hb); have n4_ := zA.mk (Kd.R_elder' (aR HO508) (Kd.R_base ho1) hb); have n5_ := zA.mk (Kd.zR (Kd.R_newB (Kd.R_newB ho0 (g := gb495) (o := ob495) (aB BK495)) (g := gb496) (o := ob496) (aB BK496)) (zF (aL HB))); have n6_ := zA.mk (Kd.zR (Kd.R_newB (Kd.R_newB (Kd.R_new' (Kd.R_new' ho1 (Kd.R_lt (aR HO505))) (Kd.R_lt (aR HO508))) (g := gb495) (o := ob495) (aB BK495)) (g := gb496) (o := ob496) (aB BK496)) (zF (aL HB))); have n7_ := zA.mk (blk_below (g := gb489) (o := .cells #[.slice A0_0 l0_0.length c0_0, .slice A0_1 l0_1.length c0_1, .slice A0_2 l0_2.length c0_2, .slice A0_3 l0_3.length c0_3, .slice A0_4 l0_4.length c0_4] 58 (0, 0)) (aB BK489) hb); have n8_ := zA.mk (blk_below (g := gb495) (o := ob495) (aB BK495) hb); have n9_ := zA.mk (blk_below (g := gb496) (o := ob496) (aB BK496) hb); have n10_ := zA.mk (below_step (aL HB) hb); clear HO493; clear HO499; clear HO502; clear HO505; clear HO508; clear BK489; clear BK495; clear BK496; clear HB; have HO493 := n0_; have HO499 := n1_; have HO502 := n2_; have HO505 := n3_; have HO508 := n4_; have HO511 := n5_; have HO514 := n6_; have BK489 := n7_; have BK495 := n8_; have BK496 := n9_; have HB := n10_; clear n0_ n1_ n2_ n3_ n4_ n5_ n6_ n7_ n8_ n9_ n10_; (try clear hb)
     (try clear hb2)
     (try clear hk)
     (try clear hi)
     (try clear ho0)
     (try clear ho1)
     refine hK.out _ _ ⟨(zE BK489.out 0).trans rfl, (zE BK489.out 1).trans rfl, (zE BK489.out 2).trans rfl, (zE BK489.out 3).trans rfl, (zE BK489.out 4).trans rfl⟩ (fun hHeld => ?_)
     clear hK K; refine norm_ (a' := ?_) ?_ ?_
     rotate_left
     ·show Act.put _ (some 36) _ = _
      simp only [Act.put, sA_, sB_, sC_, i64_w, i32_w]; rfl
     refine one_ (i := 11) (N := some 7) #[true, true, true, true, true, true, true, true, true, true, true, true, false] rfl rfl (one_of HT_.out (by kernel_rfl)) (by decide) (fun K hK => ?_)
     refine box_step ?hg (N := 7) ?hd (cs := #[.slice none 0 0, .slice none 0 0]) (t := 60) ?hr ?_; (case hd => rfl); (case hg => rfl); (case hr => first | (go_simp; done) | (go_simp; rfl))
     intro gb515 hg w39 hbox hb
     have n0_ := zA.mk (Kd.zO (aR HO493) hb); have n1_ := zA.mk (Kd.zO (aR HO499) hb); have n2_ := zA.mk (Kd.zO (aR HO502) hb); have n3_ := zA.mk (Kd.zO (aR HO505) hb); have n4_ := zA.mk (Kd.zO (aR HO508) hb); have n5_ := zA.mk (Kd.zO (aR HO511) hb); have n6_ := zA.mk (Kd.zO (aR HO514) hb); have n7_ := zA.mk (blk_below (g := gb489) (o := .cells #[.slice A0_0 l0_0.length c0_0, .slice A0_1 l0_1.length c0_1, .slice A0_2 l0_2.length c0_2, .slice A0_3 l0_3.length c0_3, .slice A0_4 l0_4.length c0_4] 58 (0, 0)) (aB BK489) hb); have n8_ := zA.mk (blk_below (g := gb495) (o := ob495) (aB BK495) hb); have n9_ := zA.mk (blk_below (g := gb496) (o := ob496) (aB BK496) hb); have n10_ := zA.mk (below_step (aL HB) hb); have n11_ := zA.mk (hbox); have n12_ := zA.mk ((by rw [hg]; exact (zF (aL HB)) : w.heap.size ≤ gb515))
     have n13_ := zA.mk ((by rw [hg]; exact (zF (aL HB)) : w.heap.size ≤ gb515))
     have n14_ := zA.mk ((by rw [hg]; exact Nat.ne_of_lt (blk_lt (g := gb489) (o := .cells #[.slice A0_0 l0_0.length c0_0, .slice A0_1 l0_1.length c0_1, .slice A0_2 l0_2.length c0_2, .slice A0_3 l0_3.length c0_3, .slice A0_4 l0_4.length c0_4] 58 (0, 0)) (aB BK489)) : gb489 ≠ gb515))
     have n15_ := zA.mk ((by rw [hg]; exact Nat.ne_of_gt (blk_lt (g := gb489) (o := .cells #[.slice A0_0 l0_0.length c0_0, .slice A0_1 l0_1.length c0_1, .slice A0_2 l0_2.length c0_2, .slice A0_3 l0_3.length c0_3, .slice A0_4 l0_4.length c0_4] 58 (0, 0)) (aB BK489)) : gb515 ≠ gb489))
     have n16_ := zA.mk ((by rw [hg]; exact Nat.ne_of_lt (blk_lt (g := gb495) (o := ob495) (aB BK495)) : gb495 ≠ gb515))
     have n17_ := zA.mk ((by rw [hg]; exact Nat.ne_of_gt (blk_lt (g := gb495) (o := ob495) (aB BK495)) : gb515 ≠ gb495))
     have n18_ := zA.mk ((by rw [hg]; exact Nat.ne_of_lt (blk_lt (g := gb496) (o := ob496) (aB BK496)) : gb496 ≠ gb515))
     have n19_ := zA.mk ((by rw [hg]; exact Nat.ne_of_gt (blk_lt (g := gb496) (o := ob496) (aB BK496)) : gb515 ≠ gb496))
     clear HO493 HO499 HO502 HO505 HO508 HO511 HO514 BK489 BK495 BK496 HB; have HO493 := n0_; have HO499 := n1_; have HO502 := n2_; have HO505 := n3_; have HO508 := n4_; have HO511 := n5_; have HO514 := n6_; have BK489 := n7_; have BK495 := n8_; have BK496 := n9_; have HB := n10_; have BK515 := n11_; have GW515 := n12_; have GE515 := n13_; have NB489_515 := n14_; have NB515_489 := n15_; have NB495_515 := n16_; have NB515_495 := n17_; have NB496_515 := n18_; have NB515_496 := n19_; clear n0_ n1_ n2_ n3_ n4_ n5_ n6_ n7_ n8_ n9_ n10_ n11_ n12_ n13_ n14_ n15_ n16_ n17_ n18_ n19_; clear hb hbox hg; refine hK.out _ _ ⟨(zE BK489.out 0).trans rfl, (zE BK489.out 1).trans rfl, (zE BK489.out 2).trans rfl, (zE BK489.out 3).trans rfl, (zE BK489.out 4).trans rfl⟩ (fun hHeld => ?_)
     clear hK K; refine norm_ (a' := ?_) ?_ ?_
     rotate_left
     ·show Act.put _ (some 7) _ = _
      simp only [Act.put, sA_, sB_, sC_, i64_w, i32_w]; rfl
     exact norm_ (by simp only [putAll, Act.put, sA_, sB_, sC_]) (hCont (.slice Ao36 t503.length co36, .slice Ao37 t506.length co37, v510, v513, gb515) _ ⟨hHeld, (by (with_reducible repeat (first | apply Kd.zG | apply Kd.zH | apply Kd.zI)); exact Kd.zS HO493.out (fun _ hk => ⟨hk.1.2, hk.2⟩)), (by (with_reducible repeat (first | apply Kd.zG | apply Kd.zH | apply Kd.zI)); exact Kd.zS HO499.out (fun _ hk => ⟨hk.1.2, hk.2⟩)), (by (with_reducible repeat (first | apply Kd.zG | apply Kd.zH | apply Kd.zI)); exact Kd.zS HO502.out (fun _ hk => ⟨hk.1.2, hk.2⟩)), (by (with_reducible repeat (first | apply Kd.zG | apply Kd.zH | apply Kd.zI)); exact Kd.zS HO505.out (fun _ hk => ⟨hk.1.2, ⟨hk.2, ⟨hk.1.1.1.2, hk.1.1.2⟩⟩⟩)), (by (with_reducible repeat (first | apply Kd.zG | apply Kd.zH | apply Kd.zI)); exact Kd.zS HO508.out (fun _ hk => ⟨hk.1.1.1.2, ⟨hk.2, ⟨hk.1.1.2, hk.1.2⟩⟩⟩)), (by (with_reducible repeat (first | apply Kd.zG | apply Kd.zH | apply Kd.zI)); exact Kd.zS HO511.out (fun _ hk => ⟨hk.1.2, hk.2⟩)), (by (with_reducible repeat (first | apply Kd.zG | apply Kd.zH | apply Kd.zI)); exact Kd.zS HO514.out (fun _ hk => ⟨hk.1.1.1.2, ⟨hk.1.1.2, ⟨hk.1.2, hk.2⟩⟩⟩)), (aB BK489), (aB BK495), (aB BK496), (aB BK515), GW515.out, GE515.out, NB489_515.out, NB515_489.out, NB495_515.out, NB515_495.out, NB496_515.out, NB515_496.out, (aL HB)⟩)
    skip
    refine box_step ?hg (N := 7) ?hd (cs := #[.slice none 0 0, .slice none 0 0]) (t := 60) ?hr ?_; (case hd => rfl); (case hg => rfl); (case hr => first | (go_simp; done) | (go_simp; rfl))
    intro gb515 hg w36 hbox hb
    have n0_ := zA.mk (Kd.zO (aR HO493) hb); have n1_ := zA.mk (Kd.zO (aR HO499) hb); have n2_ := zA.mk (Kd.zO (aR HO502) hb); have n3_ := zA.mk (Kd.zO (aR HO505) hb); have n4_ := zA.mk (Kd.zO (aR HO508) hb); have n5_ := zA.mk (blk_below (g := gb489) (o := .cells #[.slice A0_0 l0_0.length c0_0, .slice A0_1 l0_1.length c0_1, .slice A0_2 l0_2.length c0_2, .slice A0_3 l0_3.length c0_3, .slice A0_4 l0_4.length c0_4] 58 (0, 0)) (aB BK489) hb); have n6_ := zA.mk (blk_below (g := gb495) (o := ob495) (aB BK495) hb); have n7_ := zA.mk (blk_below (g := gb496) (o := ob496) (aB BK496) hb); have n8_ := zA.mk (below_step (aL HB) hb); have n9_ := zA.mk (hbox); have n10_ := zA.mk ((by rw [hg]; exact (zF (aL HB)) : w.heap.size ≤ gb515))
    have n11_ := zA.mk ((by rw [hg]; exact (zF (aL HB)) : w.heap.size ≤ gb515))
    have n12_ := zA.mk ((by rw [hg]; exact Nat.ne_of_lt (blk_lt (g := gb489) (o := .cells #[.slice A0_0 l0_0.length c0_0, .slice A0_1 l0_1.length c0_1, .slice A0_2 l0_2.length c0_2, .slice A0_3 l0_3.length c0_3, .slice A0_4 l0_4.length c0_4] 58 (0, 0)) (aB BK489)) : gb489 ≠ gb515))
    have n13_ := zA.mk ((by rw [hg]; exact Nat.ne_of_gt (blk_lt (g := gb489) (o := .cells #[.slice A0_0 l0_0.length c0_0, .slice A0_1 l0_1.length c0_1, .slice A0_2 l0_2.length c0_2, .slice A0_3 l0_3.length c0_3, .slice A0_4 l0_4.length c0_4] 58 (0, 0)) (aB BK489)) : gb515 ≠ gb489))
    have n14_ := zA.mk ((by rw [hg]; exact Nat.ne_of_lt (blk_lt (g := gb495) (o := ob495) (aB BK495)) : gb495 ≠ gb515))
    have n15_ := zA.mk ((by rw [hg]; exact Nat.ne_of_gt (blk_lt (g := gb495) (o := ob495) (aB BK495)) : gb515 ≠ gb495))
    have n16_ := zA.mk ((by rw [hg]; exact Nat.ne_of_lt (blk_lt (g := gb496) (o := ob496) (aB BK496)) : gb496 ≠ gb515))
    have n17_ := zA.mk ((by rw [hg]; exact Nat.ne_of_gt (blk_lt (g := gb496) (o := ob496) (aB BK496)) : gb515 ≠ gb496))
    clear HO493 HO499 HO502 HO505 HO508 BK489 BK495 BK496 HB; have HO493 := n0_; have HO499 := n1_; have HO502 := n2_; have HO505 := n3_; have HO508 := n4_; have BK489 := n5_; have BK495 := n6_; have BK496 := n7_; have HB := n8_; have BK515 := n9_; have GW515 := n10_; have GE515 := n11_; have NB489_515 := n12_; have NB515_489 := n13_; have NB495_515 := n14_; have NB515_495 := n15_; have NB496_515 := n16_; have NB515_496 := n17_; clear n0_ n1_ n2_ n3_ n4_ n5_ n6_ n7_ n8_ n9_ n10_ n11_ n12_ n13_ n14_ n15_ n16_ n17_; clear hb hbox hg; obtain ⟨Ao37, co37, eo37⟩ := Kd.zQ HO505.out; (first | subst eo37 | (injection eo37 with f1_ f2_ f3_; have f4_ := f1_.symm; have f5_ := f3_.symm; clear f1_ f2_ f3_; subst f4_; subst f5_))
    obtain ⟨Ao38, co38, eo38⟩ := Kd.zQ HO508.out; (first | subst eo38 | (injection eo38 with f1_ f2_ f3_; have f4_ := f1_.symm; have f5_ := f3_.symm; clear f1_ f2_ f3_; subst f4_; subst f5_))
    refine hK.out _ _ ⟨(zE BK489.out 0).trans rfl, (zE BK489.out 1).trans rfl, (zE BK489.out 2).trans rfl, (zE BK489.out 3).trans rfl, (zE BK489.out 4).trans rfl⟩ (fun hHeld => ?_)
    clear hK K; refine norm_ (a' := ?_) ?_ ?_
    rotate_left
    ·show Act.put _ (some 7) _ = _
     simp only [Act.put, sA_, sB_, sC_, i64_w, i32_w]; rfl
    refine one_ (i := 10) (N := some 36) #[true, true, true, true, true, true, true, true, true, true, true, true, false] rfl rfl (one_of HT_.out (by kernel_rfl)) (by decide) (fun K hK => ?_)
    refine goes_ Try.func24 (by kernel_rfl) rfl #[.slice Ao32 t500.length co32, .slice Ao37 t503.length co37, .slice Ao38 t506.length co38, .slice A0_3 l0_3.length c0_3, .pointer (some ⟨gb495, 0, none⟩)] (by rfl) rfl rfl aT ?_
    with_reducible refine (items_Make.calls k _ _ t500 _ _ t503 _ _ t506 _ _ l0_3 (.pointer (some ⟨gb495, 0, none⟩)) t496 t509 t512 _ ?side1 ?side2 ?side3 ?side4 ?side5 ?side6 ?side7 ?side8 ?side9 A15.out).mono ?_
    (case side1 => exact aF HO502)
    (case side2 => exact (Kd.zN HO502.out).2.1)
    (case side3 => exact aF HO505)
    (case side4 => exact (Kd.zN HO505.out).2.1)
    (case side5 => exact aF HO508)
    (case side6 => exact (Kd.zN HO508.out).2.1)
    (case side7 => exact aA HR0_3 HB)
    (case side8 => exact HC0_3.out)
    (case side9 => exact TabO.at HTt496.out (aB BK495) (aB BK496))
    rintro e w39 ⟨v510, v513, rfl, ho0, ho1, hb⟩
    refine ⟨_, rfl, ?_⟩
    have n0_ := zA.mk (Kd.zO (aR HO493) hb); have n1_ := zA.mk (Kd.zO (aR HO499) hb); have n2_ := zA.mk (Kd.zO (aR HO502) hb); have n3_ := zA.mk (Kd.R_elder' (aR HO505) (Kd.R_base ho1) hb); have n4_ := zA.mk (Kd.R_elder' (aR HO508) (Kd.R_base ho1) hb); have n5_ := zA.mk (Kd.zR (Kd.R_newB (Kd.R_newB ho0 (g := gb495) (o := ob495) (aB BK495)) (g := gb496) (o := ob496) (aB BK496)) (zF (aL HB))); have n6_ := zA.mk (Kd.zR (Kd.R_newB (Kd.R_newB (Kd.R_new' (Kd.R_new' ho1 (Kd.R_lt (aR HO505))) (Kd.R_lt (aR HO508))) (g := gb495) (o := ob495) (aB BK495)) (g := gb496) (o := ob496) (aB BK496)) (zF (aL HB))); have n7_ := zA.mk (blk_below (g := gb489) (o := .cells #[.slice A0_0 l0_0.length c0_0, .slice A0_1 l0_1.length c0_1, .slice A0_2 l0_2.length c0_2, .slice A0_3 l0_3.length c0_3, .slice A0_4 l0_4.length c0_4] 58 (0, 0)) (aB BK489) hb); have n8_ := zA.mk (blk_below (g := gb495) (o := ob495) (aB BK495) hb); have n9_ := zA.mk (blk_below (g := gb496) (o := ob496) (aB BK496) hb); have n10_ := zA.mk (blk_below (g := gb515) (o := .cells #[.slice none 0 0, .slice none 0 0] 60 (0, 0)) (aB BK515) hb); have n11_ := zA.mk (below_step (aL HB) hb); clear HO493; clear HO499; clear HO502; clear HO505; clear HO508; clear BK489; clear BK495; clear BK496; clear BK515; clear HB; have HO493 := n0_; have HO499 := n1_; have HO502 := n2_; have HO505 := n3_; have HO508 := n4_; have HO511 := n5_; have HO514 := n6_; have BK489 := n7_
    have BK495 := n8_; have BK496 := n9_; have BK515 := n10_; have HB := n11_; clear n0_ n1_ n2_ n3_ n4_ n5_ n6_ n7_ n8_ n9_ n10_ n11_; (try clear hb)
    (try clear hb2)
    (try clear hk)
    (try clear hi)
    (try clear ho0)
    (try clear ho1)
    refine hK.out _ _ ⟨(zE BK489.out 0).trans rfl, (zE BK489.out 1).trans rfl, (zE BK489.out 2).trans rfl, (zE BK489.out 3).trans rfl, (zE BK489.out 4).trans rfl⟩ (fun hHeld => ?_)
    clear hK K; refine norm_ (a' := ?_) ?_ ?_
    rotate_left
    ·show Act.put _ (some 36) _ = _
     simp only [Act.put, sA_, sB_, sC_, i64_w, i32_w]; rfl
    exact norm_ (by simp only [putAll, Act.put, sA_, sB_, sC_]) (hCont (.slice Ao37 t503.length co37, .slice Ao38 t506.length co38, v510, v513, gb515) _ ⟨hHeld, (by (with_reducible repeat (first | apply Kd.zG | apply Kd.zH | apply Kd.zI)); exact Kd.zS HO493.out (fun _ hk => ⟨hk.1.2, hk.2⟩)), (by (with_reducible repeat (first | apply Kd.zG | apply Kd.zH | apply Kd.zI)); exact Kd.zS HO499.out (fun _ hk => ⟨hk.1.2, hk.2⟩)), (by (with_reducible repeat (first | apply Kd.zG | apply Kd.zH | apply Kd.zI)); exact Kd.zS HO502.out (fun _ hk => ⟨hk.1.2, hk.2⟩)), (by (with_reducible repeat (first | apply Kd.zG | apply Kd.zH | apply Kd.zI)); exact Kd.zS HO505.out (fun _ hk => ⟨hk.1.2, ⟨hk.2, ⟨hk.1.1.1.2, hk.1.1.2⟩⟩⟩)), (by (with_reducible repeat (first | apply Kd.zG | apply Kd.zH | apply Kd.zI)); exact Kd.zS HO508.out (fun _ hk => ⟨hk.1.1.1.2, ⟨hk.2, ⟨hk.1.1.2, hk.1.2⟩⟩⟩)), (by (with_reducible repeat (first | apply Kd.zG | apply Kd.zH | apply Kd.zI)); exact Kd.zS HO511.out (fun _ hk => ⟨hk.1.2, hk.2⟩)), (by (with_reducible repeat (first | apply Kd.zG | apply Kd.zH | apply Kd.zI)); exact Kd.zS HO514.out (fun _ hk => ⟨hk.1.1.1.2, ⟨hk.1.1.2, ⟨hk.1.2, hk.2⟩⟩⟩)), (aB BK489), (aB BK495), (aB BK496), (aB BK515), GW515.out, GE515.out, NB489_515.out, NB515_489.out, NB495_515.out, NB515_495.out, NB496_515.out, NB515_496.out, (aL HB)⟩)
   skip
   refine box_step ?hg (N := 7) ?hd (cs := #[.slice none 0 0, .slice none 0 0]) (t := 60) ?hr ?_; (case hd => rfl); (case hg => rfl); (case hr => first | (go_simp; done) | (go_simp; rfl))
   intro gb515 hg w35 hbox hb
   have n0_ := zA.mk (Kd.zO (aR HO493) hb); have n1_ := zA.mk (Kd.zO (aR HO499) hb); have n2_ := zA.mk (Kd.zO (aR HO502) hb); have n3_ := zA.mk (Kd.zO (aR HO505) hb); have n4_ := zA.mk (blk_below (g := gb489) (o := .cells #[.slice A0_0 l0_0.length c0_0, .slice A0_1 l0_1.length c0_1, .slice A0_2 l0_2.length c0_2, .slice A0_3 l0_3.length c0_3, .slice A0_4 l0_4.length c0_4] 58 (0, 0)) (aB BK489) hb); have n5_ := zA.mk (blk_below (g := gb495) (o := ob495) (aB BK495) hb); have n6_ := zA.mk (blk_below (g := gb496) (o := ob496) (aB BK496) hb); have n7_ := zA.mk (below_step (aL HB) hb); have n8_ := zA.mk (hbox); have n9_ := zA.mk ((by rw [hg]; exact (zF (aL HB)) : w.heap.size ≤ gb515))
   have n10_ := zA.mk ((by rw [hg]; exact (zF (aL HB)) : w.heap.size ≤ gb515))
   have n11_ := zA.mk ((by rw [hg]; exact Nat.ne_of_lt (blk_lt (g := gb489) (o := .cells #[.slice A0_0 l0_0.length c0_0, .slice A0_1 l0_1.length c0_1, .slice A0_2 l0_2.length c0_2, .slice A0_3 l0_3.length c0_3, .slice A0_4 l0_4.length c0_4] 58 (0, 0)) (aB BK489)) : gb489 ≠ gb515))
   have n12_ := zA.mk ((by rw [hg]; exact Nat.ne_of_gt (blk_lt (g := gb489) (o := .cells #[.slice A0_0 l0_0.length c0_0, .slice A0_1 l0_1.length c0_1, .slice A0_2 l0_2.length c0_2, .slice A0_3 l0_3.length c0_3, .slice A0_4 l0_4.length c0_4] 58 (0, 0)) (aB BK489)) : gb515 ≠ gb489))
   have n13_ := zA.mk ((by rw [hg]; exact Nat.ne_of_lt (blk_lt (g := gb495) (o := ob495) (aB BK495)) : gb495 ≠ gb515))
   have n14_ := zA.mk ((by rw [hg]; exact Nat.ne_of_gt (blk_lt (g := gb495) (o := ob495) (aB BK495)) : gb515 ≠ gb495))
   have n15_ := zA.mk ((by rw [hg]; exact Nat.ne_of_lt (blk_lt (g := gb496) (o := ob496) (aB BK496)) : gb496 ≠ gb515))
   have n16_ := zA.mk ((by rw [hg]; exact Nat.ne_of_gt (blk_lt (g := gb496) (o := ob496) (aB BK496)) : gb515 ≠ gb496))
   clear HO493 HO499 HO502 HO505 BK489 BK495 BK496 HB; have HO493 := n0_; have HO499 := n1_; have HO502 := n2_; have HO505 := n3_; have BK489 := n4_; have BK495 := n5_; have BK496 := n6_; have HB := n7_; have BK515 := n8_; have GW515 := n9_; have GE515 := n10_; have NB489_515 := n11_; have NB515_489 := n12_; have NB495_515 := n13_; have NB515_495 := n14_; have NB496_515 := n15_; have NB515_496 := n16_; clear n0_ n1_ n2_ n3_ n4_ n5_ n6_ n7_ n8_ n9_ n10_ n11_ n12_ n13_ n14_ n15_ n16_; clear hb hbox hg; refine hK.out _ _ ⟨(zE BK489.out 0).trans rfl, (zE BK489.out 1).trans rfl, (zE BK489.out 2).trans rfl, (zE BK489.out 3).trans rfl, (zE BK489.out 4).trans rfl⟩ (fun hHeld => ?_)
   clear hK K; refine norm_ (a' := ?_) ?_ ?_
   rotate_left
   ·show Act.put _ (some 7) _ = _
    simp only [Act.put, sA_, sB_, sC_, i64_w, i32_w]; rfl
   refine one_ (i := 6) (N := some 32) #[true, true, true, true, true, true, true, true, true, true, false, true, false] rfl rfl (one_of HT_.out (by kernel_rfl)) (by decide) (fun K hK => ?_)
   refine goes_ Try.func18 (by kernel_rfl) rfl #[.slice A0_2 l0_2.length c0_2] (by rfl) rfl rfl aT ?_
   with_reducible refine (h3_Opps.calls k _ _ l0_2 t506 _ ?side1 ?side2 A14.out).mono ?_
   (case side1 => exact aA HR0_2 HB)
   (case side2 => exact HC0_2.out)
   rintro e w36 ⟨v507, rfl, ho0, hb⟩
   refine ⟨_, rfl, ?_⟩
   have n0_ := zA.mk (Kd.zO (aR HO493) hb); have n1_ := zA.mk (Kd.zO (aR HO499) hb); have n2_ := zA.mk (Kd.zO (aR HO502) hb); have n3_ := zA.mk (Kd.R_elder' (aR HO505) (Kd.R_base ho0) hb); have n4_ := zA.mk (Kd.zR (Kd.R_newB (Kd.R_newB (Kd.R_new' ho0 (Kd.R_lt (aR HO505))) (g := gb495) (o := ob495) (aB BK495)) (g := gb496) (o := ob496) (aB BK496)) (zF (aL HB))); have n5_ := zA.mk (blk_below (g := gb489) (o := .cells #[.slice A0_0 l0_0.length c0_0, .slice A0_1 l0_1.length c0_1, .slice A0_2 l0_2.length c0_2, .slice A0_3 l0_3.length c0_3, .slice A0_4 l0_4.length c0_4] 58 (0, 0)) (aB BK489) hb); have n6_ := zA.mk (blk_below (g := gb495) (o := ob495) (aB BK495) hb); have n7_ := zA.mk (blk_below (g := gb496) (o := ob496) (aB BK496) hb); have n8_ := zA.mk (blk_below (g := gb515) (o := .cells #[.slice none 0 0, .slice none 0 0] 60 (0, 0)) (aB BK515) hb); have n9_ := zA.mk (below_step (aL HB) hb); clear HO493; clear HO499; clear HO502; clear HO505; clear BK489; clear BK495; clear BK496; clear BK515; clear HB; have HO493 := n0_; have HO499 := n1_; have HO502 := n2_; have HO505 := n3_; have HO508 := n4_; have BK489 := n5_; have BK495 := n6_; have BK496 := n7_; have BK515 := n8_; have HB := n9_; clear n0_ n1_ n2_ n3_ n4_ n5_ n6_ n7_ n8_ n9_; (try clear hb)
   (try clear hb2)
   (try clear hk)
   (try clear hi)
   (try clear ho0)
   obtain ⟨Ao37, co37, eo37⟩ := Kd.zQ HO505.out; (first | subst eo37 | (injection eo37 with f1_ f2_ f3_; have f4_ := f1_.symm; have f5_ := f3_.symm; clear f1_ f2_ f3_; subst f4_; subst f5_))
   obtain ⟨Ao38, co38, eo38⟩ := Kd.zQ HO508.out; (first | subst eo38 | (injection eo38 with f1_ f2_ f3_; have f4_ := f1_.symm; have f5_ := f3_.symm; clear f1_ f2_ f3_; subst f4_; subst f5_))
   refine hK.out _ _ ⟨(zE BK489.out 0).trans rfl, (zE BK489.out 1).trans rfl, (zE BK489.out 2).trans rfl, (zE BK489.out 3).trans rfl, (zE BK489.out 4).trans rfl⟩ (fun hHeld => ?_)
   clear hK K; refine norm_ (a' := ?_) ?_ ?_
   rotate_left
   ·show Act.put _ (some 32) _ = _
    simp only [Act.put, sA_, sB_, sC_, i64_w, i32_w]; rfl
   refine one_ (i := 10) (N := some 36) #[true, true, true, true, true, true, true, true, true, true, true, true, false] rfl rfl (one_of HT_.out (by kernel_rfl)) (by decide) (fun K hK => ?_)
   refine goes_ Try.func24 (by kernel_rfl) rfl #[.slice Ao32 t500.length co32, .slice Ao37 t503.length co37, .slice Ao38 t506.length co38, .slice A0_3 l0_3.length c0_3, .pointer (some ⟨gb495, 0, none⟩)] (by rfl) rfl rfl aT ?_
   with_reducible refine (items_Make.calls k _ _ t500 _ _ t503 _ _ t506 _ _ l0_3 (.pointer (some ⟨gb495, 0, none⟩)) t496 t509 t512 _ ?side1 ?side2 ?side3 ?side4 ?side5 ?side6 ?side7 ?side8 ?side9 A15.out).mono ?_
   (case side1 => exact aF HO502)
   (case side2 => exact (Kd.zN HO502.out).2.1)
   (case side3 => exact aF HO505)
   (case side4 => exact (Kd.zN HO505.out).2.1)
   (case side5 => exact aF HO508)
   (case side6 => exact (Kd.zN HO508.out).2.1)
   (case side7 => exact aA HR0_3 HB)
   (case side8 => exact HC0_3.out)
   (case side9 => exact TabO.at HTt496.out (aB BK495) (aB BK496))
   rintro e w39 ⟨v510, v513, rfl, ho0, ho1, hb⟩
   refine ⟨_, rfl, ?_⟩
   have n0_ := zA.mk (Kd.zO (aR HO493) hb); have n1_ := zA.mk (Kd.zO (aR HO499) hb); have n2_ := zA.mk (Kd.zO (aR HO502) hb); have n3_ := zA.mk (Kd.R_elder' (aR HO505) (Kd.R_base ho1) hb); have n4_ := zA.mk (Kd.R_elder' (aR HO508) (Kd.R_base ho1) hb); have n5_ := zA.mk (Kd.zR (Kd.R_newB (Kd.R_newB ho0 (g := gb495) (o := ob495) (aB BK495)) (g := gb496) (o := ob496) (aB BK496)) (zF (aL HB))); have n6_ := zA.mk (Kd.zR (Kd.R_newB (Kd.R_newB (Kd.R_new' (Kd.R_new' ho1 (Kd.R_lt (aR HO505))) (Kd.R_lt (aR HO508))) (g := gb495) (o := ob495) (aB BK495)) (g := gb496) (o := ob496) (aB BK496)) (zF (aL HB))); have n7_ := zA.mk (blk_below (g := gb489) (o := .cells #[.slice A0_0 l0_0.length c0_0, .slice A0_1 l0_1.length c0_1, .slice A0_2 l0_2.length c0_2, .slice A0_3 l0_3.length c0_3, .slice A0_4 l0_4.length c0_4] 58 (0, 0)) (aB BK489) hb); have n8_ := zA.mk (blk_below (g := gb495) (o := ob495) (aB BK495) hb); have n9_ := zA.mk (blk_below (g := gb496) (o := ob496) (aB BK496) hb); have n10_ := zA.mk (blk_below (g := gb515) (o := .cells #[.slice none 0 0, .slice none 0 0] 60 (0, 0)) (aB BK515) hb); have n11_ := zA.mk (below_step (aL HB) hb); clear HO493; clear HO499; clear HO502; clear HO505; clear HO508; clear BK489; clear BK495; clear BK496; clear BK515; clear HB; have HO493 := n0_; have HO499 := n1_; have HO502 := n2_; have HO505 := n3_; have HO508 := n4_; have HO511 := n5_; have HO514 := n6_; have BK489 := n7_
   have BK495 := n8_; have BK496 := n9_; have BK515 := n10_; have HB := n11_; clear n0_ n1_ n2_ n3_ n4_ n5_ n6_ n7_ n8_ n9_ n10_ n11_; (try clear hb)
   (try clear hb2)
   (try clear hk)
   (try clear hi)
   (try clear ho0)
   (try clear ho1)
   refine hK.out _ _ ⟨(zE BK489.out 0).trans rfl, (zE BK489.out 1).trans rfl, (zE BK489.out 2).trans rfl, (zE BK489.out 3).trans rfl, (zE BK489.out 4).trans rfl⟩ (fun hHeld => ?_)
   clear hK K; refine norm_ (a' := ?_) ?_ ?_
   rotate_left
   ·show Act.put _ (some 36) _ = _
    simp only [Act.put, sA_, sB_, sC_, i64_w, i32_w]; rfl
   exact norm_ (by simp only [putAll, Act.put, sA_, sB_, sC_]) (hCont (.slice Ao37 t503.length co37, .slice Ao38 t506.length co38, v510, v513, gb515) _ ⟨hHeld, (by (with_reducible repeat (first | apply Kd.zG | apply Kd.zH | apply Kd.zI)); exact Kd.zS HO493.out (fun _ hk => ⟨hk.1.2, hk.2⟩)), (by (with_reducible repeat (first | apply Kd.zG | apply Kd.zH | apply Kd.zI)); exact Kd.zS HO499.out (fun _ hk => ⟨hk.1.2, hk.2⟩)), (by (with_reducible repeat (first | apply Kd.zG | apply Kd.zH | apply Kd.zI)); exact Kd.zS HO502.out (fun _ hk => ⟨hk.1.2, hk.2⟩)), (by (with_reducible repeat (first | apply Kd.zG | apply Kd.zH | apply Kd.zI)); exact Kd.zS HO505.out (fun _ hk => ⟨hk.1.2, ⟨hk.2, ⟨hk.1.1.1.2, hk.1.1.2⟩⟩⟩)), (by (with_reducible repeat (first | apply Kd.zG | apply Kd.zH | apply Kd.zI)); exact Kd.zS HO508.out (fun _ hk => ⟨hk.1.1.1.2, ⟨hk.2, ⟨hk.1.1.2, hk.1.2⟩⟩⟩)), (by (with_reducible repeat (first | apply Kd.zG | apply Kd.zH | apply Kd.zI)); exact Kd.zS HO511.out (fun _ hk => ⟨hk.1.2, hk.2⟩)), (by (with_reducible repeat (first | apply Kd.zG | apply Kd.zH | apply Kd.zI)); exact Kd.zS HO514.out (fun _ hk => ⟨hk.1.1.1.2, ⟨hk.1.1.2, ⟨hk.1.2, hk.2⟩⟩⟩)), (aB BK489), (aB BK495), (aB BK496), (aB BK515), GW515.out, GE515.out, NB489_515.out, NB515_489.out, NB495_515.out, NB515_495.out, NB496_515.out, NB515_496.out, (aL HB)⟩)
  skip
  refine box_step ?hg (N := 7) ?hd (cs := #[.slice none 0 0, .slice none 0 0]) (t := 60) ?hr ?_; (case hd => rfl); (case hg => rfl); (case hr => first | (go_simp; done) | (go_simp; rfl))
  intro gb515 hg w34 hbox hb
  have n0_ := zA.mk (Kd.zO (aR HO493) hb); have n1_ := zA.mk (Kd.zO (aR HO499) hb); have n2_ := zA.mk (Kd.zO (aR HO502) hb); have n3_ := zA.mk (blk_below (g := gb489) (o := .cells #[.slice A0_0 l0_0.length c0_0, .slice A0_1 l0_1.length c0_1, .slice A0_2 l0_2.length c0_2, .slice A0_3 l0_3.length c0_3, .slice A0_4 l0_4.length c0_4] 58 (0, 0)) (aB BK489) hb); have n4_ := zA.mk (blk_below (g := gb495) (o := ob495) (aB BK495) hb); have n5_ := zA.mk (blk_below (g := gb496) (o := ob496) (aB BK496) hb); have n6_ := zA.mk (below_step (aL HB) hb); have n7_ := zA.mk (hbox); have n8_ := zA.mk ((by rw [hg]; exact (zF (aL HB)) : w.heap.size ≤ gb515))
  have n9_ := zA.mk ((by rw [hg]; exact (zF (aL HB)) : w.heap.size ≤ gb515))
  have n10_ := zA.mk ((by rw [hg]; exact Nat.ne_of_lt (blk_lt (g := gb489) (o := .cells #[.slice A0_0 l0_0.length c0_0, .slice A0_1 l0_1.length c0_1, .slice A0_2 l0_2.length c0_2, .slice A0_3 l0_3.length c0_3, .slice A0_4 l0_4.length c0_4] 58 (0, 0)) (aB BK489)) : gb489 ≠ gb515))
  have n11_ := zA.mk ((by rw [hg]; exact Nat.ne_of_gt (blk_lt (g := gb489) (o := .cells #[.slice A0_0 l0_0.length c0_0, .slice A0_1 l0_1.length c0_1, .slice A0_2 l0_2.length c0_2, .slice A0_3 l0_3.length c0_3, .slice A0_4 l0_4.length c0_4] 58 (0, 0)) (aB BK489)) : gb515 ≠ gb489))
  have n12_ := zA.mk ((by rw [hg]; exact Nat.ne_of_lt (blk_lt (g := gb495) (o := ob495) (aB BK495)) : gb495 ≠ gb515))
  have n13_ := zA.mk ((by rw [hg]; exact Nat.ne_of_gt (blk_lt (g := gb495) (o := ob495) (aB BK495)) : gb515 ≠ gb495))
  have n14_ := zA.mk ((by rw [hg]; exact Nat.ne_of_lt (blk_lt (g := gb496) (o := ob496) (aB BK496)) : gb496 ≠ gb515))
  have n15_ := zA.mk ((by rw [hg]; exact Nat.ne_of_gt (blk_lt (g := gb496) (o := ob496) (aB BK496)) : gb515 ≠ gb496))
  clear HO493 HO499 HO502 BK489 BK495 BK496 HB; have HO493 := n0_; have HO499 := n1_; have HO502 := n2_; have BK489 := n3_; have BK495 := n4_; have BK496 := n5_; have HB := n6_; have BK515 := n7_; have GW515 := n8_; have GE515 := n9_; have NB489_515 := n10_; have NB515_489 := n11_; have NB495_515 := n12_; have NB515_495 := n13_; have NB496_515 := n14_; have NB515_496 := n15_; clear n0_ n1_ n2_ n3_ n4_ n5_ n6_ n7_ n8_ n9_ n10_ n11_ n12_ n13_ n14_ n15_; clear hb hbox hg; refine hK.out _ _ ⟨(zE BK489.out 0).trans rfl, (zE BK489.out 1).trans rfl, (zE BK489.out 2).trans rfl, (zE BK489.out 3).trans rfl, (zE BK489.out 4).trans rfl⟩ (fun hHeld => ?_)
  clear hK K; refine norm_ (a' := ?_) ?_ ?_
  rotate_left
  ·show Act.put _ (some 7) _ = _
   simp only [Act.put, sA_, sB_, sC_, i64_w, i32_w]; rfl
  refine one_ (i := 3) (N := some 29) #[true, true, true, true, true, true, false, true, true, true, false, true, false] rfl rfl (one_of HT_.out (by kernel_rfl)) (by decide) (fun K hK => ?_)
  refine goes_ Try.func18 (by kernel_rfl) rfl #[.slice A0_1 l0_1.length c0_1] (by rfl) rfl rfl aT ?_
  with_reducible refine (h3_Opps.calls k _ _ l0_1 t503 _ ?side1 ?side2 A13.out).mono ?_
  (case side1 => exact aA HR0_1 HB)
  (case side2 => exact HC0_1.out)
  rintro e w35 ⟨v504, rfl, ho0, hb⟩
  refine ⟨_, rfl, ?_⟩
  have n0_ := zA.mk (Kd.zO (aR HO493) hb); have n1_ := zA.mk (Kd.zO (aR HO499) hb); have n2_ := zA.mk (Kd.zO (aR HO502) hb); have n3_ := zA.mk (Kd.zR (Kd.R_newB (Kd.R_newB ho0 (g := gb495) (o := ob495) (aB BK495)) (g := gb496) (o := ob496) (aB BK496)) (zF (aL HB))); have n4_ := zA.mk (blk_below (g := gb489) (o := .cells #[.slice A0_0 l0_0.length c0_0, .slice A0_1 l0_1.length c0_1, .slice A0_2 l0_2.length c0_2, .slice A0_3 l0_3.length c0_3, .slice A0_4 l0_4.length c0_4] 58 (0, 0)) (aB BK489) hb); have n5_ := zA.mk (blk_below (g := gb495) (o := ob495) (aB BK495) hb); have n6_ := zA.mk (blk_below (g := gb496) (o := ob496) (aB BK496) hb); have n7_ := zA.mk (blk_below (g := gb515) (o := .cells #[.slice none 0 0, .slice none 0 0] 60 (0, 0)) (aB BK515) hb); have n8_ := zA.mk (below_step (aL HB) hb); clear HO493; clear HO499; clear HO502; clear BK489; clear BK495; clear BK496; clear BK515; clear HB; have HO493 := n0_; have HO499 := n1_; have HO502 := n2_; have HO505 := n3_; have BK489 := n4_; have BK495 := n5_; have BK496 := n6_; have BK515 := n7_; have HB := n8_; clear n0_ n1_ n2_ n3_ n4_ n5_ n6_ n7_ n8_; (try clear hb)
  (try clear hb2)
  (try clear hk)
  (try clear hi)
  (try clear ho0)
  refine hK.out _ _ ⟨(zE BK489.out 0).trans rfl, (zE BK489.out 1).trans rfl, (zE BK489.out 2).trans rfl, (zE BK489.out 3).trans rfl, (zE BK489.out 4).trans rfl⟩ (fun hHeld => ?_)
  clear hK K; refine norm_ (a' := ?_) ?_ ?_
  rotate_left
  ·show Act.put _ (some 29) _ = _
   simp only [Act.put, sA_, sB_, sC_, i64_w, i32_w]; rfl
  refine one_ (i := 6) (N := some 32) #[true, true, true, true, true, true, true, true, true, true, false, true, false] rfl rfl (one_of HT_.out (by kernel_rfl)) (by decide) (fun K hK => ?_)
  refine goes_ Try.func18 (by kernel_rfl) rfl #[.slice A0_2 l0_2.length c0_2] (by rfl) rfl rfl aT ?_
  with_reducible refine (h3_Opps.calls k _ _ l0_2 t506 _ ?side1 ?side2 A14.out).mono ?_
  (case side1 => exact aA HR0_2 HB)
  (case side2 => exact HC0_2.out)
  rintro e w36 ⟨v507, rfl, ho0, hb⟩
  refine ⟨_, rfl, ?_⟩
  have n0_ := zA.mk (Kd.zO (aR HO493) hb); have n1_ := zA.mk (Kd.zO (aR HO499) hb); have n2_ := zA.mk (Kd.zO (aR HO502) hb); have n3_ := zA.mk (Kd.R_elder' (aR HO505) (Kd.R_base ho0) hb); have n4_ := zA.mk (Kd.zR (Kd.R_newB (Kd.R_newB (Kd.R_new' ho0 (Kd.R_lt (aR HO505))) (g := gb495) (o := ob495) (aB BK495)) (g := gb496) (o := ob496) (aB BK496)) (zF (aL HB))); have n5_ := zA.mk (blk_below (g := gb489) (o := .cells #[.slice A0_0 l0_0.length c0_0, .slice A0_1 l0_1.length c0_1, .slice A0_2 l0_2.length c0_2, .slice A0_3 l0_3.length c0_3, .slice A0_4 l0_4.length c0_4] 58 (0, 0)) (aB BK489) hb); have n6_ := zA.mk (blk_below (g := gb495) (o := ob495) (aB BK495) hb); have n7_ := zA.mk (blk_below (g := gb496) (o := ob496) (aB BK496) hb); have n8_ := zA.mk (blk_below (g := gb515) (o := .cells #[.slice none 0 0, .slice none 0 0] 60 (0, 0)) (aB BK515) hb); have n9_ := zA.mk (below_step (aL HB) hb); clear HO493; clear HO499; clear HO502; clear HO505; clear BK489; clear BK495; clear BK496; clear BK515; clear HB; have HO493 := n0_; have HO499 := n1_; have HO502 := n2_; have HO505 := n3_; have HO508 := n4_; have BK489 := n5_; have BK495 := n6_; have BK496 := n7_; have BK515 := n8_; have HB := n9_; clear n0_ n1_ n2_ n3_ n4_ n5_ n6_ n7_ n8_ n9_; (try clear hb)
  (try clear hb2)
  (try clear hk)
  (try clear hi)
  (try clear ho0)
  obtain ⟨Ao37, co37, eo37⟩ := Kd.zQ HO505.out; (first | subst eo37 | (injection eo37 with f1_ f2_ f3_; have f4_ := f1_.symm; have f5_ := f3_.symm; clear f1_ f2_ f3_; subst f4_; subst f5_))
  obtain ⟨Ao38, co38, eo38⟩ := Kd.zQ HO508.out; (first | subst eo38 | (injection eo38 with f1_ f2_ f3_; have f4_ := f1_.symm; have f5_ := f3_.symm; clear f1_ f2_ f3_; subst f4_; subst f5_))
  refine hK.out _ _ ⟨(zE BK489.out 0).trans rfl, (zE BK489.out 1).trans rfl, (zE BK489.out 2).trans rfl, (zE BK489.out 3).trans rfl, (zE BK489.out 4).trans rfl⟩ (fun hHeld => ?_)
  clear hK K; refine norm_ (a' := ?_) ?_ ?_
  rotate_left
  ·show Act.put _ (some 32) _ = _
   simp only [Act.put, sA_, sB_, sC_, i64_w, i32_w]; rfl
  refine one_ (i := 10) (N := some 36) #[true, true, true, true, true, true, true, true, true, true, true, true, false] rfl rfl (one_of HT_.out (by kernel_rfl)) (by decide) (fun K hK => ?_)
  refine goes_ Try.func24 (by kernel_rfl) rfl #[.slice Ao32 t500.length co32, .slice Ao37 t503.length co37, .slice Ao38 t506.length co38, .slice A0_3 l0_3.length c0_3, .pointer (some ⟨gb495, 0, none⟩)] (by rfl) rfl rfl aT ?_
  with_reducible refine (items_Make.calls k _ _ t500 _ _ t503 _ _ t506 _ _ l0_3 (.pointer (some ⟨gb495, 0, none⟩)) t496 t509 t512 _ ?side1 ?side2 ?side3 ?side4 ?side5 ?side6 ?side7 ?side8 ?side9 A15.out).mono ?_
  (case side1 => exact aF HO502)
  (case side2 => exact (Kd.zN HO502.out).2.1)
  (case side3 => exact aF HO505)
  (case side4 => exact (Kd.zN HO505.out).2.1)
  (case side5 => exact aF HO508)
  (case side6 => exact (Kd.zN HO508.out).2.1)
  (case side7 => exact aA HR0_3 HB)
  (case side8 => exact HC0_3.out)
  (case side9 => exact TabO.at HTt496.out (aB BK495) (aB BK496))
  rintro e w39 ⟨v510, v513, rfl, ho0, ho1, hb⟩
  refine ⟨_, rfl, ?_⟩
  have n0_ := zA.mk (Kd.zO (aR HO493) hb); have n1_ := zA.mk (Kd.zO (aR HO499) hb); have n2_ := zA.mk (Kd.zO (aR HO502) hb); have n3_ := zA.mk (Kd.R_elder' (aR HO505) (Kd.R_base ho1) hb); have n4_ := zA.mk (Kd.R_elder' (aR HO508) (Kd.R_base ho1) hb); have n5_ := zA.mk (Kd.zR (Kd.R_newB (Kd.R_newB ho0 (g := gb495) (o := ob495) (aB BK495)) (g := gb496) (o := ob496) (aB BK496)) (zF (aL HB))); have n6_ := zA.mk (Kd.zR (Kd.R_newB (Kd.R_newB (Kd.R_new' (Kd.R_new' ho1 (Kd.R_lt (aR HO505))) (Kd.R_lt (aR HO508))) (g := gb495) (o := ob495) (aB BK495)) (g := gb496) (o := ob496) (aB BK496)) (zF (aL HB))); have n7_ := zA.mk (blk_below (g := gb489) (o := .cells #[.slice A0_0 l0_0.length c0_0, .slice A0_1 l0_1.length c0_1, .slice A0_2 l0_2.length c0_2, .slice A0_3 l0_3.length c0_3, .slice A0_4 l0_4.length c0_4] 58 (0, 0)) (aB BK489) hb); have n8_ := zA.mk (blk_below (g := gb495) (o := ob495) (aB BK495) hb); have n9_ := zA.mk (blk_below (g := gb496) (o := ob496) (aB BK496) hb); have n10_ := zA.mk (blk_below (g := gb515) (o := .cells #[.slice none 0 0, .slice none 0 0] 60 (0, 0)) (aB BK515) hb); have n11_ := zA.mk (below_step (aL HB) hb); clear HO493; clear HO499; clear HO502; clear HO505; clear HO508; clear BK489; clear BK495; clear BK496; clear BK515; clear HB; have HO493 := n0_; have HO499 := n1_; have HO502 := n2_; have HO505 := n3_; have HO508 := n4_; have HO511 := n5_; have HO514 := n6_; have BK489 := n7_
  have BK495 := n8_; have BK496 := n9_; have BK515 := n10_; have HB := n11_; clear n0_ n1_ n2_ n3_ n4_ n5_ n6_ n7_ n8_ n9_ n10_ n11_; (try clear hb)
  (try clear hb2)
  (try clear hk)
  (try clear hi)
  (try clear ho0)
  (try clear ho1)
  refine hK.out _ _ ⟨(zE BK489.out 0).trans rfl, (zE BK489.out 1).trans rfl, (zE BK489.out 2).trans rfl, (zE BK489.out 3).trans rfl, (zE BK489.out 4).trans rfl⟩ (fun hHeld => ?_)
  clear hK K; refine norm_ (a' := ?_) ?_ ?_
  rotate_left
  ·show Act.put _ (some 36) _ = _
   simp only [Act.put, sA_, sB_, sC_, i64_w, i32_w]; rfl
  exact norm_ (by simp only [putAll, Act.put, sA_, sB_, sC_]) (hCont (.slice Ao37 t503.length co37, .slice Ao38 t506.length co38, v510, v513, gb515) _ ⟨hHeld, (by (with_reducible repeat (first | apply Kd.zG | apply Kd.zH | apply Kd.zI)); exact Kd.zS HO493.out (fun _ hk => ⟨hk.1.2, hk.2⟩)), (by (with_reducible repeat (first | apply Kd.zG | apply Kd.zH | apply Kd.zI)); exact Kd.zS HO499.out (fun _ hk => ⟨hk.1.2, hk.2⟩)), (by (with_reducible repeat (first | apply Kd.zG | apply Kd.zH | apply Kd.zI)); exact Kd.zS HO502.out (fun _ hk => ⟨hk.1.2, hk.2⟩)), (by (with_reducible repeat (first | apply Kd.zG | apply Kd.zH | apply Kd.zI)); exact Kd.zS HO505.out (fun _ hk => ⟨hk.1.2, ⟨hk.2, ⟨hk.1.1.1.2, hk.1.1.2⟩⟩⟩)), (by (with_reducible repeat (first | apply Kd.zG | apply Kd.zH | apply Kd.zI)); exact Kd.zS HO508.out (fun _ hk => ⟨hk.1.1.1.2, ⟨hk.2, ⟨hk.1.1.2, hk.1.2⟩⟩⟩)), (by (with_reducible repeat (first | apply Kd.zG | apply Kd.zH | apply Kd.zI)); exact Kd.zS HO511.out (fun _ hk => ⟨hk.1.2, hk.2⟩)), (by (with_reducible repeat (first | apply Kd.zG | apply Kd.zH | apply Kd.zI)); exact Kd.zS HO514.out (fun _ hk => ⟨hk.1.1.1.2, ⟨hk.1.1.2, ⟨hk.1.2, hk.2⟩⟩⟩)), (aB BK489), (aB BK495), (aB BK496), (aB BK515), GW515.out, GE515.out, NB489_515.out, NB515_489.out, NB495_515.out, NB515_495.out, NB496_515.out, NB515_496.out, (aL HB)⟩)
 rintro ⟨v504, v507, v510, v513, gb515⟩ w40 ⟨hS_, h0_, h1_, h2_, h3_, h4_, h5_, h6_, h7_, h8_, h9_, h10_, h11_, h12_, h13_, h14_, h15_, h16_, h17_, h18_, h19_⟩
 have n0_ : zA (Kd.R k45 45 w40 w.heap.size (fun k_ => k_ ≠ gb495 ∧ k_ ≠ gb496) (.slice Ao24 t491.length co24) t491) := ⟨h0_⟩
 have n1_ : zA (Kd.R (Kd.int .u8) 5 w40 w.heap.size (fun k_ => k_ ≠ gb495 ∧ k_ ≠ gb496) (.slice Ao30 t497.length co30) t497) := ⟨h1_⟩
 have n2_ : zA (Kd.R k50 50 w40 w.heap.size (fun k_ => k_ ≠ gb495 ∧ k_ ≠ gb496) (.slice Ao32 t500.length co32) t500) := ⟨h2_⟩
 have n3_ : zA (Kd.R (Kd.int .u8) 53 w40 w.heap.size (fun k_ => some k_ ≠ (v507 : Value).ownBlock ∧ some k_ ≠ (v513 : Value).ownBlock ∧ k_ ≠ gb495 ∧ k_ ≠ gb496) v504 t503) := ⟨h3_⟩
 have n4_ : zA (Kd.R (Kd.int .u8) 53 w40 w.heap.size (fun k_ => some k_ ≠ (v504 : Value).ownBlock ∧ some k_ ≠ (v513 : Value).ownBlock ∧ k_ ≠ gb495 ∧ k_ ≠ gb496) v507 t506) := ⟨h4_⟩
 have n5_ : zA (Kd.R k48 48 w40 w.heap.size (fun k_ => k_ ≠ gb495 ∧ k_ ≠ gb496) v510 t509) := ⟨h5_⟩
 have n6_ : zA (Kd.R (Kd.int .u8) 53 w40 w.heap.size (fun k_ => some k_ ≠ (v504 : Value).ownBlock ∧ some k_ ≠ (v507 : Value).ownBlock ∧ k_ ≠ gb495 ∧ k_ ≠ gb496) v513 t512) := ⟨h6_⟩
 have n7_ : zA (w40.heap[gb489]? = some (.cells #[.slice A0_0 l0_0.length c0_0, .slice A0_1 l0_1.length c0_1, .slice A0_2 l0_2.length c0_2, .slice A0_3 l0_3.length c0_3, .slice A0_4 l0_4.length c0_4] 58 (0, 0))) := ⟨h7_⟩
 have n8_ : zA (w40.heap[gb495]? = some (ob495)) := ⟨h8_⟩
 have n9_ : zA (w40.heap[gb496]? = some (ob496)) := ⟨h9_⟩
 have n10_ : zA (w40.heap[gb515]? = some (.cells #[.slice none 0 0, .slice none 0 0] 60 (0, 0))) := ⟨h10_⟩
 have n11_ : zA (w.heap.size ≤ gb515) := ⟨h11_⟩
 have n12_ : zA (w.heap.size ≤ gb515) := ⟨h12_⟩
 have n13_ : zA (gb489 ≠ gb515) := ⟨h13_⟩
 have n14_ : zA (gb515 ≠ gb489) := ⟨h14_⟩
 have n15_ : zA (gb495 ≠ gb515) := ⟨h15_⟩
 have n16_ : zA (gb515 ≠ gb495) := ⟨h16_⟩
 have n17_ : zA (gb496 ≠ gb515) := ⟨h17_⟩
 have n18_ : zA (gb515 ≠ gb496) := ⟨h18_⟩
 have n19_ : zA (Below w.heap.size w w40) := ⟨h19_⟩
 clear HO493 HO499 HO502 BK489 BK495 BK496 HB h0_ h1_ h2_ h3_ h4_ h5_ h6_ h7_ h8_ h9_ h10_ h11_ h12_ h13_ h14_ h15_ h16_ h17_ h18_ h19_; have HO493 := n0_; have HO499 := n1_; have HO502 := n2_; have HO505 := n3_; have HO508 := n4_; have HO511 := n5_; have HO514 := n6_; have BK489 := n7_; have BK495 := n8_; have BK496 := n9_; have BK515 := n10_; have GW515 := n11_; have GE515 := n12_; have NB489_515 := n13_; have NB515_489 := n14_; have NB495_515 := n15_; have NB515_495 := n16_; have NB496_515 := n17_; have NB515_496 := n18_; have HB := n19_; clear n0_ n1_ n2_ n3_ n4_ n5_ n6_ n7_ n8_ n9_ n10_ n11_ n12_ n13_ n14_ n15_ n16_ n17_ n18_ n19_; have hHeld : w40.cell? ⟨gb489, 0, none⟩ = some (.slice A0_0 l0_0.length c0_0) ∧ w40.cell? ⟨gb489, 1, none⟩ = some (.slice A0_1 l0_1.length c0_1) ∧ w40.cell? ⟨gb489, 2, none⟩ = some (.slice A0_2 l0_2.length c0_2) ∧ w40.cell? ⟨gb489, 3, none⟩ = some (.slice A0_3 l0_3.length c0_3) ∧ w40.cell? ⟨gb489, 4, none⟩ = some (.slice A0_4 l0_4.length c0_4) := hS_
 obtain ⟨Ao41, co41, eo41⟩ := Kd.zQ HO511.out; (first | subst eo41 | (injection eo41 with f1_ f2_ f3_; have f4_ := f1_.symm; have f5_ := f3_.symm; clear f1_ f2_ f3_; subst f4_; subst f5_))
 obtain ⟨Ao43, co43, eo43⟩ := Kd.zQ HO514.out; (first | subst eo43 | (injection eo43 with f1_ f2_ f3_; have f4_ := f1_.symm; have f5_ := f3_.symm; clear f1_ f2_ f3_; subst f4_; subst f5_))
 refine norm_ (a' := ?_) ?_ ?_
 rotate_left
 ·simp only [putAll, Act.put, sA_, sB_, sC_]
  rfl
 refine one_ (i := 12) (N := none) #[true, true, true, true, true, true, true, true, true, true, true, true, true] rfl rfl (one_of HT_.out (by kernel_rfl)) (by decide) (fun K hK => ?_)
 have hs42 : w40.cell? ⟨gb515, 0, none⟩ = some (.slice none 0 0) := (zE BK515.out 0).trans rfl
 have hfs42 := blk_frozen BK515.out 0; have hns42_0 := NB489_515.out; have hns42_1 := NB495_515.out; have hns42_2 := NB496_515.out; have hms42_0 := NB515_489.out; have hms42_1 := NB515_495.out; have hms42_2 := NB515_496.out; have hs44 : w40.cell? ⟨gb515, 1, none⟩ = some (.slice none 0 0) := (zE BK515.out 1).trans rfl
 have hfs44 := blk_frozen BK515.out 1; have hns44_0 := NB489_515.out; have hns44_1 := NB495_515.out; have hns44_2 := NB496_515.out; have hms44_0 := NB515_489.out; have hms44_1 := NB515_495.out; have hms44_2 := NB515_496.out; refine skip_ (w1 := ?_) (by rfl) rfl ?_ ?_
 rotate_left
 ·go_simp
  rfl
 refine hK.out _ _ ⟨((cell_far (p := ⟨gb515, _, none⟩) NB489_515.out _).trans (((cell_far (p := ⟨gb515, _, none⟩) NB489_515.out _).trans (hHeld.1)))), ((cell_far (p := ⟨gb515, _, none⟩) NB489_515.out _).trans (((cell_far (p := ⟨gb515, _, none⟩) NB489_515.out _).trans (hHeld.2.1)))), ((cell_far (p := ⟨gb515, _, none⟩) NB489_515.out _).trans (((cell_far (p := ⟨gb515, _, none⟩) NB489_515.out _).trans (hHeld.2.2.1)))), ((cell_far (p := ⟨gb515, _, none⟩) NB489_515.out _).trans (((cell_far (p := ⟨gb515, _, none⟩) NB489_515.out _).trans (hHeld.2.2.2.1)))), ((cell_far (p := ⟨gb515, _, none⟩) NB489_515.out _).trans (((cell_far (p := ⟨gb515, _, none⟩) NB489_515.out _).trans (hHeld.2.2.2.2))))⟩ (fun hHeld => ?_)
 clear hK K; refine done_ (done_of HT_.out (by kernel_rfl)) ?_
 try go_wp2
 have n0_ : zA (Kd.R k45 45 ((w40.setCell ⟨gb515, 0, none⟩ (.slice Ao41 t509.length co41)).setCell ⟨gb515, 1, none⟩ (.slice Ao43 t512.length co43)) w.heap.size (fun k_ => k_ ≠ gb495 ∧ k_ ≠ gb496) (.slice Ao24 t491.length co24) t491) := ⟨by (with_reducible repeat (first | apply Kd.zG | apply Kd.zH | apply Kd.zI)); exact Kd.zS (Kd.zP (p := ⟨gb515, 1, none⟩) (Kd.zP (p := ⟨gb515, 0, none⟩) (Kd.zT HO493.out BK515.out (by decide)) (fun _ hk => hk.2) (.slice Ao41 t509.length co41)) (fun _ hk => hk.2) (.slice Ao43 t512.length co43)) (fun _ hk => ⟨hk.1.1, hk.1.2⟩)⟩
 have n1_ : zA (Kd.R (Kd.int .u8) 5 ((w40.setCell ⟨gb515, 0, none⟩ (.slice Ao41 t509.length co41)).setCell ⟨gb515, 1, none⟩ (.slice Ao43 t512.length co43)) w.heap.size (fun k_ => k_ ≠ gb495 ∧ k_ ≠ gb496) (.slice Ao30 t497.length co30) t497) := ⟨by (with_reducible repeat (first | apply Kd.zG | apply Kd.zH | apply Kd.zI)); exact Kd.zS (Kd.zP (p := ⟨gb515, 1, none⟩) (Kd.zP (p := ⟨gb515, 0, none⟩) (Kd.zT HO499.out BK515.out (by decide)) (fun _ hk => hk.2) (.slice Ao41 t509.length co41)) (fun _ hk => hk.2) (.slice Ao43 t512.length co43)) (fun _ hk => ⟨hk.1.1, hk.1.2⟩)⟩
 have n2_ : zA (Kd.R k50 50 ((w40.setCell ⟨gb515, 0, none⟩ (.slice Ao41 t509.length co41)).setCell ⟨gb515, 1, none⟩ (.slice Ao43 t512.length co43)) w.heap.size (fun k_ => k_ ≠ gb495 ∧ k_ ≠ gb496) (.slice Ao32 t500.length co32) t500) := ⟨by (with_reducible repeat (first | apply Kd.zG | apply Kd.zH | apply Kd.zI)); exact Kd.zS (Kd.zP (p := ⟨gb515, 1, none⟩) (Kd.zP (p := ⟨gb515, 0, none⟩) (Kd.zT HO502.out BK515.out (by decide)) (fun _ hk => hk.2) (.slice Ao41 t509.length co41)) (fun _ hk => hk.2) (.slice Ao43 t512.length co43)) (fun _ hk => ⟨hk.1.1, hk.1.2⟩)⟩
 have n3_ : zA (Kd.R (Kd.int .u8) 53 ((w40.setCell ⟨gb515, 0, none⟩ (.slice Ao41 t509.length co41)).setCell ⟨gb515, 1, none⟩ (.slice Ao43 t512.length co43)) w.heap.size (fun k_ => some k_ ≠ (v507 : Value).ownBlock ∧ some k_ ≠ (.slice Ao43 t512.length co43 : Value).ownBlock ∧ k_ ≠ gb495 ∧ k_ ≠ gb496) v504 t503) := ⟨by (with_reducible repeat (first | apply Kd.zG | apply Kd.zH | apply Kd.zI)); exact Kd.zS (Kd.zP (p := ⟨gb515, 1, none⟩) (Kd.zP (p := ⟨gb515, 0, none⟩) (Kd.zT HO505.out BK515.out (by decide)) (fun _ hk => hk.2) (.slice Ao41 t509.length co41)) (fun _ hk => hk.2) (.slice Ao43 t512.length co43)) (fun _ hk => ⟨hk.1.1, ⟨hk.1.2.1, ⟨hk.1.2.2.1, hk.1.2.2.2⟩⟩⟩)⟩
 have n4_ : zA (Kd.R (Kd.int .u8) 53 ((w40.setCell ⟨gb515, 0, none⟩ (.slice Ao41 t509.length co41)).setCell ⟨gb515, 1, none⟩ (.slice Ao43 t512.length co43)) w.heap.size (fun k_ => some k_ ≠ (v504 : Value).ownBlock ∧ some k_ ≠ (.slice Ao43 t512.length co43 : Value).ownBlock ∧ k_ ≠ gb495 ∧ k_ ≠ gb496) v507 t506) := ⟨by (with_reducible repeat (first | apply Kd.zG | apply Kd.zH | apply Kd.zI)); exact Kd.zS (Kd.zP (p := ⟨gb515, 1, none⟩) (Kd.zP (p := ⟨gb515, 0, none⟩) (Kd.zT HO508.out BK515.out (by decide)) (fun _ hk => hk.2) (.slice Ao41 t509.length co41)) (fun _ hk => hk.2) (.slice Ao43 t512.length co43)) (fun _ hk => ⟨hk.1.1, ⟨hk.1.2.1, ⟨hk.1.2.2.1, hk.1.2.2.2⟩⟩⟩)⟩
 have n5_ : zA (Kd.R k48 48 ((w40.setCell ⟨gb515, 0, none⟩ (.slice Ao41 t509.length co41)).setCell ⟨gb515, 1, none⟩ (.slice Ao43 t512.length co43)) w.heap.size (fun k_ => k_ ≠ gb495 ∧ k_ ≠ gb496) (.slice Ao41 t509.length co41) t509) := ⟨by (with_reducible repeat (first | apply Kd.zG | apply Kd.zH | apply Kd.zI)); exact Kd.zS (Kd.zP (p := ⟨gb515, 1, none⟩) (Kd.zP (p := ⟨gb515, 0, none⟩) (Kd.zT HO511.out BK515.out (by decide)) (fun _ hk => hk.2) (.slice Ao41 t509.length co41)) (fun _ hk => hk.2) (.slice Ao43 t512.length co43)) (fun _ hk => ⟨hk.1.1, hk.1.2⟩)⟩
 have n6_ : zA (Kd.R (Kd.int .u8) 53 ((w40.setCell ⟨gb515, 0, none⟩ (.slice Ao41 t509.length co41)).setCell ⟨gb515, 1, none⟩ (.slice Ao43 t512.length co43)) w.heap.size (fun k_ => some k_ ≠ (v504 : Value).ownBlock ∧ some k_ ≠ (v507 : Value).ownBlock ∧ k_ ≠ gb495 ∧ k_ ≠ gb496) (.slice Ao43 t512.length co43) t512) := ⟨by (with_reducible repeat (first | apply Kd.zG | apply Kd.zH | apply Kd.zI)); exact Kd.zS (Kd.zP (p := ⟨gb515, 1, none⟩) (Kd.zP (p := ⟨gb515, 0, none⟩) (Kd.zT HO514.out BK515.out (by decide)) (fun _ hk => hk.2) (.slice Ao41 t509.length co41)) (fun _ hk => hk.2) (.slice Ao43 t512.length co43)) (fun _ hk => ⟨hk.1.1, ⟨hk.1.2.1, ⟨hk.1.2.2.1, hk.1.2.2.2⟩⟩⟩)⟩
 have n7_ : zA (((w40.setCell ⟨gb515, 0, none⟩ (.slice Ao41 t509.length co41)).setCell ⟨gb515, 1, none⟩ (.slice Ao43 t512.length co43)).heap[gb489]? = some (.cells #[.slice A0_0 l0_0.length c0_0, .slice A0_1 l0_1.length c0_1, .slice A0_2 l0_2.length c0_2, .slice A0_3 l0_3.length c0_3, .slice A0_4 l0_4.length c0_4] 58 (0, 0))) := ⟨by (with_reducible repeat (first | refine zD ?_ _ | refine zC ?_ | refine zB ?_ _)); refine blk_far ?_ NB489_515.out _; (with_reducible repeat (first | refine zD ?_ _ | refine zC ?_ | refine zB ?_ _)); refine blk_far ?_ NB489_515.out _; (with_reducible repeat (first | refine zD ?_ _ | refine zC ?_ | refine zB ?_ _)); exact BK489.out⟩
 have n8_ : zA (((w40.setCell ⟨gb515, 0, none⟩ (.slice Ao41 t509.length co41)).setCell ⟨gb515, 1, none⟩ (.slice Ao43 t512.length co43)).heap[gb495]? = some (ob495)) := ⟨by (with_reducible repeat (first | refine zD ?_ _ | refine zC ?_ | refine zB ?_ _)); refine blk_farO ?_ NB495_515.out _; (with_reducible repeat (first | refine zD ?_ _ | refine zC ?_ | refine zB ?_ _)); refine blk_farO ?_ NB495_515.out _; (with_reducible repeat (first | refine zD ?_ _ | refine zC ?_ | refine zB ?_ _)); exact BK495.out⟩
 have n9_ : zA (((w40.setCell ⟨gb515, 0, none⟩ (.slice Ao41 t509.length co41)).setCell ⟨gb515, 1, none⟩ (.slice Ao43 t512.length co43)).heap[gb496]? = some (ob496)) := ⟨by (with_reducible repeat (first | refine zD ?_ _ | refine zC ?_ | refine zB ?_ _)); refine blk_farO ?_ NB496_515.out _; (with_reducible repeat (first | refine zD ?_ _ | refine zC ?_ | refine zB ?_ _)); refine blk_farO ?_ NB496_515.out _; (with_reducible repeat (first | refine zD ?_ _ | refine zC ?_ | refine zB ?_ _)); exact BK496.out⟩
 have n10_ : zA (((w40.setCell ⟨gb515, 0, none⟩ (.slice Ao41 t509.length co41)).setCell ⟨gb515, 1, none⟩ (.slice Ao43 t512.length co43)).heap[gb515]? = some (.cells #[.slice Ao41 t509.length co41, .slice Ao43 t512.length co43] 60 (0, 0))) := ⟨by (with_reducible repeat (first | refine zD ?_ _ | refine zC ?_ | refine zB ?_ _)); refine blk_put (cs := #[.slice Ao41 t509.length co41, .slice none 0 0]) ?_ 1 _ rfl; (with_reducible repeat (first | refine zD ?_ _ | refine zC ?_ | refine zB ?_ _)); refine blk_put (cs := #[.slice none 0 0, .slice none 0 0]) ?_ 0 _ rfl; (with_reducible repeat (first | refine zD ?_ _ | refine zC ?_ | refine zB ?_ _)); exact BK515.out⟩
 have n11_ : zA (Below w.heap.size w ((w40.setCell ⟨gb515, 0, none⟩ (.slice Ao41 t509.length co41)).setCell ⟨gb515, 1, none⟩ (.slice Ao43 t512.length co43))) := ⟨aL HB⟩
 (try clear HO493)
 (try clear HO499)
 (try clear HO502)
 (try clear HO505)
 (try clear HO508)
 (try clear HO511)
 (try clear HO514)
 (try clear BK489)
 (try clear BK495)
 (try clear BK496)
 (try clear BK515)
 (try clear HB)
 generalize ((w40.setCell ⟨gb515, 0, none⟩ (.slice Ao41 t509.length co41)).setCell ⟨gb515, 1, none⟩ (.slice Ao43 t512.length co43)) = w45 at n0_ n1_ n2_ n3_ n4_ n5_ n6_ n7_ n8_ n9_ n10_ n11_ ⊢
 have HO493 := n0_; have HO499 := n1_; have HO502 := n2_; have HO505 := n3_; have HO508 := n4_; have HO511 := n5_; have HO514 := n6_; have BK489 := n7_; have BK495 := n8_; have BK496 := n9_; have BK515 := n10_; have HB := n11_; clear n0_ n1_ n2_ n3_ n4_ n5_ n6_ n7_ n8_ n9_ n10_ n11_; have n0_ := zA.mk (Kd.zI HO493.out); have n1_ := zA.mk (Kd.zI HO499.out); have n2_ := zA.mk (Kd.zI HO502.out); have n3_ := zA.mk (Kd.zI HO505.out); have n4_ := zA.mk (Kd.zI HO508.out); have n5_ := zA.mk (Kd.zI HO511.out); have n6_ := zA.mk (Kd.zI HO514.out); have n7_ := zA.mk (zC BK489.out); have n8_ := zA.mk (zC BK495.out); have n9_ := zA.mk (zC BK496.out); have n10_ := zA.mk (zC BK515.out); have n11_ := zA.mk (below_drew1 HB.out); clear HO493; clear HO499; clear HO502; clear HO505; clear HO508; clear HO511; clear HO514; clear BK489; clear BK495; clear BK496; clear BK515; clear HB; have HO493 := n0_; have HO499 := n1_; have HO502 := n2_; have HO505 := n3_; have HO508 := n4_; have HO511 := n5_; have HO514 := n6_; have BK489 := n7_; have BK495 := n8_; have BK496 := n9_; have BK515 := n10_; have HB := n11_; clear n0_ n1_ n2_ n3_ n4_ n5_ n6_ n7_ n8_ n9_ n10_ n11_; refine start_ (n := 18) (S := fun w' => w'.cell? ⟨gb515, 0, none⟩ = some (.slice Ao41 t509.length co41) ∧ w'.cell? ⟨gb515, 1, none⟩ = some (.slice Ao43 t512.length co43) ∧ w'.cell? ⟨gb489, 0, none⟩ = some (.slice A0_0 l0_0.length c0_0) ∧ w'.cell? ⟨gb489, 1, none⟩ = some (.slice A0_1 l0_1.length c0_1) ∧ w'.cell? ⟨gb489, 2, none⟩ = some (.slice A0_2 l0_2.length c0_2) ∧ w'.cell? ⟨gb489, 3, none⟩ = some (.slice A0_3 l0_3.length c0_3) ∧ w'.cell? ⟨gb489, 4, none⟩ = some (.slice A0_4 l0_4.length c0_4)) (ds := []) #[false, false, false, false, false, false, false, false, false, false, false, false, false, false, false, false, false, false] (by kernel_rfl) rfl rfl ⟨(zE BK515.out 0).trans rfl, (zE BK515.out 1).trans rfl, (zE BK489.out 0).trans rfl, (zE BK489.out 1).trans rfl, (zE BK489.out 2).trans rfl, (zE BK489.out 3).trans rfl, (zE BK489.out 4).trans rfl⟩ (fun hHeld => ?_); refine with_tabW stanzalaw11_ItemsMakes.tab9 stanzalaw11_ItemsMakes.bits9 (fun HT_ HW_ => ?_)
 generalize w45.drew = w46 at HO493 HO499 HO502 HO505 HO508 HO511 HO514 BK489 BK495 BK496 BK515 HB hHeld ⊢
 refine aP 0 (some 37) (tf_ 1 18) HT_ ?_
 refine aP 1 (some 38) (tf_ 2 18) HT_ ?_
 refine aP 2 (some 39) (tf_ 3 18) HT_ ?_
 refine aP 4 (some 41) #[true, true, true, false, true, false, false, false, false, false, false, false, false, false, false, false, false, false] HT_ ?_
 refine aP 5 (some 42) #[true, true, true, false, true, true, false, false, false, false, false, false, false, false, false, false, false, false] HT_ ?_
 refine aP 8 (some 45) #[true, true, true, false, true, true, false, false, true, false, false, false, false, false, false, false, false, false] HT_ ?_
 refine aP 11 (some 48) #[true, true, true, false, true, true, false, false, true, false, false, true, false, false, false, false, false, false] HT_ ?_
 refine aP 13 (some 50) #[true, true, true, false, true, true, false, false, true, false, false, true, false, true, false, false, false, false] HT_ ?_
 refine take_ (i := 3) (N := some 40) (v := ?_) (a' := ?_) #[true, true, true, true, true, true, false, false, true, false, false, true, false, true, false, false, false, false] rfl rfl (take_ofW HT_.out HW_.out (by kernel_rfl)) (fun _ _ _ h => h) (Or.inl ⟨by rfl, ?_⟩) hHeld ?_ ?_
 rotate_left
 ·rintro w' ⟨s0, s1, s2, s3, s4, s5, s6⟩
  go_simp
  with_reducible rfl
 rotate_left
 ·simp only [Act.put, sA_, sB_, sC_, i64_w, i32_w]
  rfl
 refine take_ (i := 6) (N := some 43) (v := ?_) (a' := ?_) #[true, true, true, true, true, true, true, false, true, false, false, true, false, true, false, false, false, false] rfl rfl (take_ofW HT_.out HW_.out (by kernel_rfl)) (fun _ _ _ h => h) (Or.inl ⟨by rfl, ?_⟩) hHeld ?_ ?_
 rotate_left
 ·rintro w' ⟨s0, s1, s2, s3, s4, s5, s6⟩
  go_simp
  with_reducible rfl
 rotate_left
 ·simp only [Act.put, sA_, sB_, sC_, i64_w, i32_w]
  rfl
 refine take_ (i := 9) (N := some 46) (v := ?_) (a' := ?_) #[true, true, true, true, true, true, true, false, true, true, false, true, false, true, false, false, false, false] rfl rfl (take_ofW HT_.out HW_.out (by kernel_rfl)) (fun _ _ _ h => h) (Or.inl ⟨by rfl, ?_⟩) hHeld ?_ ?_
 rotate_left
 ·rintro w' ⟨s0, s1, s2, s3, s4, s5, s6⟩
  go_simp
  with_reducible rfl
 rotate_left
 ·simp only [Act.put, sA_, sB_, sC_, i64_w, i32_w]
  rfl
 refine take_ (i := 12) (N := some 49) (v := ?_) (a' := ?_) #[true, true, true, true, true, true, true, false, true, true, false, true, true, true, false, false, false, false] rfl rfl (take_ofW HT_.out HW_.out (by kernel_rfl)) (fun _ _ _ h => h) (Or.inl ⟨by rfl, ?_⟩) hHeld ?_ ?_
 rotate_left
 ·rintro w' ⟨s0, s1, s2, s3, s4, s5, s6⟩
  go_simp
  with_reducible rfl
 rotate_left
 ·simp only [Act.put, sA_, sB_, sC_, i64_w, i32_w]
  rfl
 refine one_ (i := 7) (N := some 44) #[true, true, true, true, true, true, true, true, true, true, false, true, true, true, false, false, false, false] rfl rfl (one_of HT_.out (by kernel_rfl)) (by decide) (fun K hK => ?_)
 refine goes_ Try.func18 (by kernel_rfl) rfl #[.slice A0_1 l0_1.length c0_1] (by rfl) rfl rfl aT ?_
 with_reducible refine (h3_Opps.calls k _ _ l0_1 t516 _ ?side1 ?side2 A16.out).mono ?_
 (case side1 => exact aA HR0_1 HB)
 (case side2 => exact HC0_1.out)
 rintro e w47 ⟨v517, rfl, ho0, hb⟩
 refine ⟨_, rfl, ?_⟩
 have n0_ := zA.mk (Kd.zO (aR HO493) hb); have n1_ := zA.mk (Kd.zO (aR HO499) hb); have n2_ := zA.mk (Kd.zO (aR HO502) hb); have n3_ := zA.mk (Kd.R_elder' (aR HO505) (Kd.R_base ho0) hb); have n4_ := zA.mk (Kd.R_elder' (aR HO508) (Kd.R_base ho0) hb); have n5_ := zA.mk (Kd.zO (aR HO511) hb); have n6_ := zA.mk (Kd.R_elder' (aR HO514) (Kd.R_base ho0) hb); have n7_ := zA.mk (Kd.zR (Kd.R_newB (Kd.R_newB (Kd.R_new' (Kd.R_new' (Kd.R_new' ho0 (Kd.R_lt (aR HO505))) (Kd.R_lt (aR HO508))) (Kd.R_lt (aR HO514))) (g := gb495) (o := ob495) (aB BK495)) (g := gb496) (o := ob496) (aB BK496)) (zF (aL HB))); have n8_ := zA.mk (blk_below (g := gb489) (o := .cells #[.slice A0_0 l0_0.length c0_0, .slice A0_1 l0_1.length c0_1, .slice A0_2 l0_2.length c0_2, .slice A0_3 l0_3.length c0_3, .slice A0_4 l0_4.length c0_4] 58 (0, 0)) (aB BK489) hb); have n9_ := zA.mk (blk_below (g := gb495) (o := ob495) (aB BK495) hb); have n10_ := zA.mk (blk_below (g := gb496) (o := ob496) (aB BK496) hb); have n11_ := zA.mk (blk_below (g := gb515) (o := .cells #[.slice Ao41 t509.length co41, .slice Ao43 t512.length co43] 60 (0, 0)) (aB BK515) hb); have n12_ := zA.mk (below_step (aL HB) hb); clear HO493; clear HO499; clear HO502; clear HO505; clear HO508; clear HO511; clear HO514; clear BK489; clear BK495; clear BK496; clear BK515; clear HB; have HO493 := n0_; have HO499 := n1_; have HO502 := n2_; have HO505 := n3_; have HO508 := n4_; have HO511 := n5_
 have HO514 := n6_; have HO518 := n7_; have BK489 := n8_; have BK495 := n9_; have BK496 := n10_; have BK515 := n11_; have HB := n12_; clear n0_ n1_ n2_ n3_ n4_ n5_ n6_ n7_ n8_ n9_ n10_ n11_ n12_; (try clear hb)
 (try clear hb2)
 (try clear hk)
 (try clear hi)
 (try clear ho0)
 refine hK.out _ _ ⟨(zE BK515.out 0).trans rfl, (zE BK515.out 1).trans rfl, (zE BK489.out 0).trans rfl, (zE BK489.out 1).trans rfl, (zE BK489.out 2).trans rfl, (zE BK489.out 3).trans rfl, (zE BK489.out 4).trans rfl⟩ (fun hHeld => ?_)
 clear hK K; refine norm_ (a' := ?_) ?_ ?_
 rotate_left
 ·show Act.put _ (some 44) _ = _
  simp only [Act.put, sA_, sB_, sC_, i64_w, i32_w]; rfl
 refine one_ (i := 10) (N := some 47) #[true, true, true, true, true, true, true, true, true, true, true, true, true, true, false, false, false, false] rfl rfl (one_of HT_.out (by kernel_rfl)) (by decide) (fun K hK => ?_)
 refine goes_ Try.func18 (by kernel_rfl) rfl #[.slice A0_2 l0_2.length c0_2] (by rfl) rfl rfl aT ?_
 with_reducible refine (h3_Opps.calls k _ _ l0_2 t519 _ ?side1 ?side2 A17.out).mono ?_
 (case side1 => exact aA HR0_2 HB)
 (case side2 => exact HC0_2.out)
 rintro e w48 ⟨v520, rfl, ho0, hb⟩
 refine ⟨_, rfl, ?_⟩
 have n0_ := zA.mk (Kd.zO (aR HO493) hb); have n1_ := zA.mk (Kd.zO (aR HO499) hb); have n2_ := zA.mk (Kd.zO (aR HO502) hb); have n3_ := zA.mk (Kd.R_elder' (aR HO505) (Kd.R_base ho0) hb); have n4_ := zA.mk (Kd.R_elder' (aR HO508) (Kd.R_base ho0) hb); have n5_ := zA.mk (Kd.zO (aR HO511) hb); have n6_ := zA.mk (Kd.R_elder' (aR HO514) (Kd.R_base ho0) hb); have n7_ := zA.mk (Kd.R_elder' (aR HO518) (Kd.R_base ho0) hb); have n8_ := zA.mk (Kd.zR (Kd.R_newB (Kd.R_newB (Kd.R_new' (Kd.R_new' (Kd.R_new' (Kd.R_new' ho0 (Kd.R_lt (aR HO505))) (Kd.R_lt (aR HO508))) (Kd.R_lt (aR HO514))) (Kd.R_lt (aR HO518))) (g := gb495) (o := ob495) (aB BK495)) (g := gb496) (o := ob496) (aB BK496)) (zF (aL HB))); have n9_ := zA.mk (blk_below (g := gb489) (o := .cells #[.slice A0_0 l0_0.length c0_0, .slice A0_1 l0_1.length c0_1, .slice A0_2 l0_2.length c0_2, .slice A0_3 l0_3.length c0_3, .slice A0_4 l0_4.length c0_4] 58 (0, 0)) (aB BK489) hb); have n10_ := zA.mk (blk_below (g := gb495) (o := ob495) (aB BK495) hb); have n11_ := zA.mk (blk_below (g := gb496) (o := ob496) (aB BK496) hb); have n12_ := zA.mk (blk_below (g := gb515) (o := .cells #[.slice Ao41 t509.length co41, .slice Ao43 t512.length co43] 60 (0, 0)) (aB BK515) hb); have n13_ := zA.mk (below_step (aL HB) hb); clear HO493; clear HO499; clear HO502; clear HO505; clear HO508; clear HO511; clear HO514; clear HO518; clear BK489; clear BK495; clear BK496; clear BK515
 clear HB; have HO493 := n0_; have HO499 := n1_; have HO502 := n2_; have HO505 := n3_; have HO508 := n4_; have HO511 := n5_; have HO514 := n6_; have HO518 := n7_; have HO521 := n8_; have BK489 := n9_; have BK495 := n10_; have BK496 := n11_; have BK515 := n12_; have HB := n13_; clear n0_ n1_ n2_ n3_ n4_ n5_ n6_ n7_ n8_ n9_ n10_ n11_ n12_ n13_; (try clear hb)
 (try clear hb2)
 (try clear hk)
 (try clear hi)
 (try clear ho0)
 obtain ⟨Ao49, co49, eo49⟩ := Kd.zQ HO518.out; (first | subst eo49 | (injection eo49 with f1_ f2_ f3_; have f4_ := f1_.symm; have f5_ := f3_.symm; clear f1_ f2_ f3_; subst f4_; subst f5_))
 obtain ⟨Ao50, co50, eo50⟩ := Kd.zQ HO521.out; (first | subst eo50 | (injection eo50 with f1_ f2_ f3_; have f4_ := f1_.symm; have f5_ := f3_.symm; clear f1_ f2_ f3_; subst f4_; subst f5_))
 refine hK.out _ _ ⟨(zE BK515.out 0).trans rfl, (zE BK515.out 1).trans rfl, (zE BK489.out 0).trans rfl, (zE BK489.out 1).trans rfl, (zE BK489.out 2).trans rfl, (zE BK489.out 3).trans rfl, (zE BK489.out 4).trans rfl⟩ (fun hHeld => ?_)
 clear hK K; refine norm_ (a' := ?_) ?_ ?_
 rotate_left
 ·show Act.put _ (some 47) _ = _
  simp only [Act.put, sA_, sB_, sC_, i64_w, i32_w]; rfl
 refine one_ (i := 14) (N := some 51) #[true, true, true, true, true, true, true, true, true, true, true, true, true, true, true, false, false, false] rfl rfl (one_of HT_.out (by kernel_rfl)) (by decide) (fun K hK => ?_)
 refine goes_ Try.func26 (by kernel_rfl) rfl #[.slice Ao32 t500.length co32, .slice Ao49 t516.length co49, .slice Ao50 t519.length co50, .slice A0_3 l0_3.length c0_3, .slice Ao24 t491.length co24] (by rfl) rfl rfl aT ?_
 with_reducible refine (r0_Make.calls k _ _ t500 _ _ t516 _ _ t519 _ _ l0_3 _ _ t491 t522 t525 _ ?side1 ?side2 ?side3 ?side4 ?side5 ?side6 ?side7 ?side8 ?side9 ?side10 A18.out).mono ?_
 (case side1 => exact aF HO502)
 (case side2 => exact (Kd.zN HO502.out).2.1)
 (case side3 => exact aF HO518)
 (case side4 => exact (Kd.zN HO518.out).2.1)
 (case side5 => exact aF HO521)
 (case side6 => exact (Kd.zN HO521.out).2.1)
 (case side7 => exact aA HR0_3 HB)
 (case side8 => exact HC0_3.out)
 (case side9 => exact aF HO493)
 (case side10 => exact (Kd.zN HO493.out).2.1)
 rintro e w51 ⟨v523, v526, rfl, ho0, ho1, hb⟩
 refine ⟨_, rfl, ?_⟩
 have n0_ := zA.mk (Kd.zO (aR HO493) hb); have n1_ := zA.mk (Kd.zO (aR HO499) hb); have n2_ := zA.mk (Kd.zO (aR HO502) hb); have n3_ := zA.mk (Kd.R_elder' (aR HO505) (Kd.R_base ho1) hb); have n4_ := zA.mk (Kd.R_elder' (aR HO508) (Kd.R_base ho1) hb); have n5_ := zA.mk (Kd.R_elder' (aR HO511) (Kd.R_base ho0) hb); have n6_ := zA.mk (Kd.R_elder' (aR HO514) (Kd.R_base ho1) hb); have n7_ := zA.mk (Kd.R_elder' (aR HO518) (Kd.R_base ho1) hb); have n8_ := zA.mk (Kd.R_elder' (aR HO521) (Kd.R_base ho1) hb); have n9_ := zA.mk (Kd.zR (Kd.R_newB (Kd.R_newB (Kd.R_new' ho0 (Kd.R_lt (aR HO511))) (g := gb495) (o := ob495) (aB BK495)) (g := gb496) (o := ob496) (aB BK496)) (zF (aL HB))); have n10_ := zA.mk (Kd.zR (Kd.R_newB (Kd.R_newB (Kd.R_new' (Kd.R_new' (Kd.R_new' (Kd.R_new' (Kd.R_new' ho1 (Kd.R_lt (aR HO505))) (Kd.R_lt (aR HO508))) (Kd.R_lt (aR HO514))) (Kd.R_lt (aR HO518))) (Kd.R_lt (aR HO521))) (g := gb495) (o := ob495) (aB BK495)) (g := gb496) (o := ob496) (aB BK496)) (zF (aL HB))); have n11_ := zA.mk (blk_below (g := gb489) (o := .cells #[.slice A0_0 l0_0.length c0_0, .slice A0_1 l0_1.length c0_1, .slice A0_2 l0_2.length c0_2, .slice A0_3 l0_3.length c0_3, .slice A0_4 l0_4.length c0_4] 58 (0, 0)) (aB BK489) hb); have n12_ := zA.mk (blk_below (g := gb495) (o := ob495) (aB BK495) hb); have n13_ := zA.mk (blk_below (g := gb496) (o := ob496) (aB BK496) hb); have n14_ := zA.mk (blk_below (g := gb515) (o := .cells #[.slice Ao41 t509.length co41, .slice Ao43 t512.length co43] 60 (0, 0)) (aB BK515) hb)
 have n15_ := zA.mk (below_step (aL HB) hb); clear HO493; clear HO499; clear HO502; clear HO505; clear HO508; clear HO511; clear HO514; clear HO518; clear HO521; clear BK489; clear BK495; clear BK496; clear BK515; clear HB; have HO493 := n0_; have HO499 := n1_; have HO502 := n2_; have HO505 := n3_; have HO508 := n4_; have HO511 := n5_; have HO514 := n6_; have HO518 := n7_; have HO521 := n8_; have HO524 := n9_; have HO527 := n10_; have BK489 := n11_; have BK495 := n12_; have BK496 := n13_; have BK515 := n14_; have HB := n15_; clear n0_ n1_ n2_ n3_ n4_ n5_ n6_ n7_ n8_ n9_ n10_ n11_ n12_ n13_ n14_ n15_; (try clear hb)
 (try clear hb2)
 (try clear hk)
 (try clear hi)
 (try clear ho0)
 (try clear ho1)
 obtain ⟨Ao52, co52, eo52⟩ := Kd.zQ HO524.out; (first | subst eo52 | (injection eo52 with f1_ f2_ f3_; have f4_ := f1_.symm; have f5_ := f3_.symm; clear f1_ f2_ f3_; subst f4_; subst f5_))
 obtain ⟨Ao53, co53, eo53⟩ := Kd.zQ HO527.out; (first | subst eo53 | (injection eo53 with f1_ f2_ f3_; have f4_ := f1_.symm; have f5_ := f3_.symm; clear f1_ f2_ f3_; subst f4_; subst f5_))
 refine hK.out _ _ ⟨(zE BK515.out 0).trans rfl, (zE BK515.out 1).trans rfl, (zE BK489.out 0).trans rfl, (zE BK489.out 1).trans rfl, (zE BK489.out 2).trans rfl, (zE BK489.out 3).trans rfl, (zE BK489.out 4).trans rfl⟩ (fun hHeld => ?_)
 clear hK K; refine norm_ (a' := ?_) ?_ ?_
 rotate_left
 ·show Act.put _ (some 51) _ = _
  simp only [Act.put, sA_, sB_, sC_, i64_w, i32_w]; rfl
 refine one_ (i := 15) (N := some 52) #[true, true, true, true, true, true, true, true, true, true, true, true, true, true, true, true, false, false] rfl rfl (one_of HT_.out (by kernel_rfl)) (by decide) (fun K hK => ?_)
 refine goes_ Try.func25 (by kernel_rfl) rfl #[.agg #[.slice Ao41 t509.length co41, .slice Ao43 t512.length co43], .agg #[.slice Ao52 t522.length co52, .slice Ao53 t525.length co53]] (by rfl) rfl rfl aT ?_
 with_reducible refine (r0_SameParas.calls k _ _ t509 _ _ t512 _ _ t522 _ _ t525 t528 _ ?side1 ?side2 ?side3 ?side4 ?side5 ?side6 ?side7 ?side8 A19.out).mono ?_
 (case side1 => exact aF HO511)
 (case side2 => exact (Kd.zN HO511.out).2.1)
 (case side3 => exact aF HO514)
 (case side4 => exact (Kd.zN HO514.out).2.1)
 (case side5 => exact aF HO524)
 (case side6 => exact (Kd.zN HO524.out).2.1)
 (case side7 => exact aF HO527)
 (case side8 => exact (Kd.zN HO527.out).2.1)
 rintro e w54 ⟨rfl, hb⟩
 refine ⟨_, rfl, ?_⟩
 have n0_ := zA.mk (Kd.zO (aR HO493) hb); have n1_ := zA.mk (Kd.zO (aR HO499) hb); have n2_ := zA.mk (Kd.zO (aR HO502) hb); have n3_ := zA.mk (Kd.zO (aR HO505) hb); have n4_ := zA.mk (Kd.zO (aR HO508) hb); have n5_ := zA.mk (Kd.zO (aR HO511) hb); have n6_ := zA.mk (Kd.zO (aR HO514) hb); have n7_ := zA.mk (Kd.zO (aR HO518) hb); have n8_ := zA.mk (Kd.zO (aR HO521) hb); have n9_ := zA.mk (Kd.zO (aR HO524) hb); have n10_ := zA.mk (Kd.zO (aR HO527) hb); have n11_ := zA.mk (blk_below (g := gb489) (o := .cells #[.slice A0_0 l0_0.length c0_0, .slice A0_1 l0_1.length c0_1, .slice A0_2 l0_2.length c0_2, .slice A0_3 l0_3.length c0_3, .slice A0_4 l0_4.length c0_4] 58 (0, 0)) (aB BK489) hb); have n12_ := zA.mk (blk_below (g := gb495) (o := ob495) (aB BK495) hb); have n13_ := zA.mk (blk_below (g := gb496) (o := ob496) (aB BK496) hb); have n14_ := zA.mk (blk_below (g := gb515) (o := .cells #[.slice Ao41 t509.length co41, .slice Ao43 t512.length co43] 60 (0, 0)) (aB BK515) hb); have n15_ := zA.mk (below_step (aL HB) hb); clear HO493; clear HO499; clear HO502; clear HO505; clear HO508; clear HO511; clear HO514; clear HO518; clear HO521; clear HO524; clear HO527; clear BK489; clear BK495; clear BK496; clear BK515; clear HB; have HO493 := n0_; have HO499 := n1_; have HO502 := n2_; have HO505 := n3_; have HO508 := n4_; have HO511 := n5_; have HO514 := n6_; have HO518 := n7_; have HO521 := n8_
 have HO524 := n9_; have HO527 := n10_; have BK489 := n11_; have BK495 := n12_; have BK496 := n13_; have BK515 := n14_; have HB := n15_; clear n0_ n1_ n2_ n3_ n4_ n5_ n6_ n7_ n8_ n9_ n10_ n11_ n12_ n13_ n14_ n15_; (try clear hb)
 (try clear hb2)
 (try clear hk)
 (try clear hi)
 refine hK.out _ _ ⟨(zE BK515.out 0).trans rfl, (zE BK515.out 1).trans rfl, (zE BK489.out 0).trans rfl, (zE BK489.out 1).trans rfl, (zE BK489.out 2).trans rfl, (zE BK489.out 3).trans rfl, (zE BK489.out 4).trans rfl⟩ (fun hHeld => ?_)
 clear hK K; refine norm_ (a' := ?_) ?_ ?_
 rotate_left
 ·show Act.put _ (some 52) _ = _
  simp only [Act.put, sA_, sB_, sC_, i64_w, i32_w]; rfl
 refine aP 16 (some 53) (tf_ 17 18) HT_ ?_
 refine aP 17 (some 2) #[true, true, true, true, true, true, true, true, true, true, true, true, true, true, true, true, true, true] HT_ ?_
 refine done_ (done_of HT_.out (by kernel_rfl)) ?_
 try go_wp2
 go_ret
 exact ⟨aX, aL HB⟩
def stanzalaw11_ItemsMakes.Pure : Prop := ∀ (l0_0 : List Int) (l0_1 : List Int) (l0_2 : List Int) (l0_3 : List Bool) (l0_4 : List (S45)), ((l0_0.length * 1 ≤ 140737488351232 ∧ ∀ y0 ∈ l0_0, (Lit.int .u8 y0).wf = true) ∧ ((l0_1.length * 1 ≤ 140737488351232 ∧ ∀ y0 ∈ l0_1, (Lit.int .u8 y0).wf = true) ∧ ((l0_2.length * 1 ≤ 140737488351232 ∧ ∀ y0 ∈ l0_2, (Lit.int .u8 y0).wf = true) ∧ ((l0_3.length * 1 ≤ 140737488351232 ∧ ∀ y0 ∈ l0_3, True) ∧ (l0_4.length * 16 ≤ 140737488351232 ∧ ∀ y0 ∈ l0_4, ((Lit.int .i32 y0.f0).wf = true ∧ ((Lit.int .i32 y0.f1).wf = true ∧ (Lit.int .i64 y0.f2).wf = true))))))) → ∃ k, stanzalaw11_ItemsMakes.f k l0_0 l0_1 l0_2 l0_3 l0_4 = some true
end Go.Proofs.Ytigajcipjklknaa.F
end
