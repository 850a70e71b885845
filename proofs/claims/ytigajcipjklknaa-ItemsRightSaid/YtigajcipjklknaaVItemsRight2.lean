/- Printed by a program: Lean functions that answer as the Go functions do, and the proofs of it. -/
import Derived.Test.YtigajcipjklknaaXItemsRight0
import Derived.Test.YtigajcipjklknaaVItemsRight0
import Derived.Test.YtigajcipjklknaaVItemsRight1
section
namespace Go.Proofs.Ytigajcipjklknaa.F
open Go.RowKit Go.Proofs.YtigajcipjklknaaW.PrintWords Go.Proofs.YtigajcipjklknaaW.PrintLast Go.Proofs.YtigajcipjklknaaW.PrintMore
attribute [local go_sem] max2_int min2_int max_two min_two max_three min_three max_four min_four   -- for this text's walks alone
set_option linter.unusedVariables false
set_option linter.unusedSimpArgs false
def stanzalaw11_Awake.f (k : Nat)  : Option (Bool) := if prop_Make.c ([] : List (S45)) 1 = true then ((prop_MakeY.f ([] : List (S45)) 1).bind fun t235 => ((items_Make.f k ([] : List (S50)) ([] : List Int) ([] : List Int) ([] : List Bool) t235).bind fun bt236 => ((items_Make.f k (([(⟨97, 0, 1⟩ : S50), (⟨98, 1, 1⟩ : S50)] : List (S50))) (([0, 1, 2] : List Int)) (([0, 0, 2] : List Int)) (([false, true, false] : List Bool)) t235).bind fun bt255 => (if (bt236.2.length : Int) = 1 then (if 0 < (bt236.2.length : Int) then (if (rd bt236.2 0) = 2 then ((items_Check.f k bt236.1 bt236.2).bind fun t263 => (if t263 = true then (if (bt255.2.length : Int) = 3 then (if 1 < (bt255.2.length : Int) then (if (rd bt255.2 1) = 3 then ((items_Parts.f k bt255.1 bt255.2).bind fun t265 => (some ((t265.length : Int) == 1))) else (some false)) else (none)) else (some false)) else (some false))) else (some false)) else (none)) else (some false))))) else ((prop_MakeN.f ([] : List (S45)) 1).bind fun _ => (some false))
theorem stanzalaw11_Awake.mono : ∀ k, LeO (stanzalaw11_Awake.f k ) (stanzalaw11_Awake.f (k + 1) ) := by
 intro  k
 unfold stanzalaw11_Awake.f
 repeat' (with_reducible first | exact items_Check.mono _ _ _ | exact items_Make.mono _ _ _ _ _ _ | exact items_Parts.mono _ _ _ | exact LeO.refl _ | exact LeO.none _ | refine LeO.ite ?_ ?_ | refine LeO.bind ?_ (fun _ => ?_))
set_option maxHeartbeats 8000000 in
set_option maxRecDepth 100000 in
theorem stanzalaw11_Awake.calls (k : Nat)  (r : Bool) (w : World) (h : stanzalaw11_Awake.f k  = some r) (hrt_ : zA (r = true)) :
  Calls Try.prog 23 #[] w fun e w' => e = .returned (.bool r) ∧ Below w.heap.size w w' := by
 have hu60 := Try.underlying60; have hu50 := Try.underlying50; have HB := zA.mk (Below.refl w.heap.size w); have H : (if prop_Make.c ([] : List (S45)) 1 = true then ((prop_MakeY.f ([] : List (S45)) 1).bind fun t235 => ((items_Make.f k ([] : List (S50)) ([] : List Int) ([] : List Int) ([] : List Bool) t235).bind fun bt236 => ((items_Make.f k (([(⟨97, 0, 1⟩ : S50), (⟨98, 1, 1⟩ : S50)] : List (S50))) (([0, 1, 2] : List Int)) (([0, 0, 2] : List Int)) (([false, true, false] : List Bool)) t235).bind fun bt255 => (if (bt236.2.length : Int) = 1 then (if 0 < (bt236.2.length : Int) then (if (rd bt236.2 0) = 2 then ((items_Check.f k bt236.1 bt236.2).bind fun t263 => (if t263 = true then (if (bt255.2.length : Int) = 3 then (if 1 < (bt255.2.length : Int) then (if (rd bt255.2 1) = 3 then ((items_Parts.f k bt255.1 bt255.2).bind fun t265 => (some ((t265.length : Int) == 1))) else (some false)) else (none)) else (some false)) else (some false))) else (some false)) else (none)) else (some false))))) else ((prop_MakeN.f ([] : List (S45)) 1).bind fun _ => (some false))) = some r := h
 clear h; by_cases c1 : prop_Make.c ([] : List (S45)) 1 = true
 rotate_left
 ·rw [if_neg c1] at H
  have c1b0 : prop_Make.c ([] : List (S45)) 1 = false := by simpa using c1
  clear c1; replace H := Option.bind_eq_some_iff.mp H; obtain ⟨_, A490, H⟩ := H; replace H : (some false) = some r := H; have A49 := zA.mk A490; clear A490; exact absurd ((Option.some.inj H).trans hrt_.out) (by decide)
 rw [if_pos c1] at H; have c1b0 : prop_Make.c ([] : List (S45)) 1 = true := c1
 clear c1; replace H := Option.bind_eq_some_iff.mp H; obtain ⟨t235, A20, H⟩ := H; replace H : ((items_Make.f k ([] : List (S50)) ([] : List Int) ([] : List Int) ([] : List Bool) t235).bind fun bt236 => ((items_Make.f k (([(⟨97, 0, 1⟩ : S50), (⟨98, 1, 1⟩ : S50)] : List (S50))) (([0, 1, 2] : List Int)) (([0, 0, 2] : List Int)) (([false, true, false] : List Bool)) t235).bind fun bt255 => (if (bt236.2.length : Int) = 1 then (if 0 < (bt236.2.length : Int) then (if (rd bt236.2 0) = 2 then ((items_Check.f k bt236.1 bt236.2).bind fun t263 => (if t263 = true then (if (bt255.2.length : Int) = 3 then (if 1 < (bt255.2.length : Int) then (if (rd bt255.2 1) = 3 then ((items_Parts.f k bt255.1 bt255.2).bind fun t265 => (some ((t265.length : Int) == 1))) else (some false)) else (none)) else (some false)) else (some false))) else (some false)) else (none)) else (some false)))) = some r := H
 have A2 := zA.mk A20; clear A20; replace H := Option.bind_eq_some_iff.mp H; obtain ⟨⟨t236, t239⟩, A30, H⟩ := H; replace H : ((items_Make.f k (([(⟨97, 0, 1⟩ : S50), (⟨98, 1, 1⟩ : S50)] : List (S50))) (([0, 1, 2] : List Int)) (([0, 0, 2] : List Int)) (([false, true, false] : List Bool)) t235).bind fun bt255 => (if (t239.length : Int) = 1 then (if 0 < (t239.length : Int) then (if (rd t239 0) = 2 then ((items_Check.f k t236 t239).bind fun t263 => (if t263 = true then (if (bt255.2.length : Int) = 3 then (if 1 < (bt255.2.length : Int) then (if (rd bt255.2 1) = 3 then ((items_Parts.f k bt255.1 bt255.2).bind fun t265 => (some ((t265.length : Int) == 1))) else (some false)) else (none)) else (some false)) else (some false))) else (some false)) else (none)) else (some false))) = some r := H
 have A3 := zA.mk A30; clear A30; obtain ⟨y243, hy243⟩ : ∃ y_ : List (S50), y_ = (([(⟨97, 0, 1⟩ : S50), (⟨98, 1, 1⟩ : S50)] : List (S50))) := ⟨_, rfl⟩; replace H : ((items_Make.f k y243 (([0, 1, 2] : List Int)) (([0, 0, 2] : List Int)) (([false, true, false] : List Bool)) t235).bind fun bt255 => (if (t239.length : Int) = 1 then (if 0 < (t239.length : Int) then (if (rd t239 0) = 2 then ((items_Check.f k t236 t239).bind fun t263 => (if t263 = true then (if (bt255.2.length : Int) = 3 then (if 1 < (bt255.2.length : Int) then (if (rd bt255.2 1) = 3 then ((items_Parts.f k bt255.1 bt255.2).bind fun t265 => (some ((t265.length : Int) == 1))) else (some false)) else (none)) else (some false)) else (some false))) else (some false)) else (none)) else (some false))) = some r := by first | (rw [hy243]; with_reducible exact H) | (have H2_ := (Option.bind_some _ _).symm.trans H; rw [hy243]; with_reducible exact H2_) | (have H2_ := (Option.bind_some _ _).symm.trans H; with_reducible exact H2_) | with_reducible exact H | (rw [hy243]; exact H) | exact H
 have Ny243 := zA.mk hy243; clear hy243; obtain ⟨y246, hy246⟩ : ∃ y_ : List Int, y_ = (([0, 1, 2] : List Int)) := ⟨_, rfl⟩; replace H : ((items_Make.f k y243 y246 (([0, 0, 2] : List Int)) (([false, true, false] : List Bool)) t235).bind fun bt255 => (if (t239.length : Int) = 1 then (if 0 < (t239.length : Int) then (if (rd t239 0) = 2 then ((items_Check.f k t236 t239).bind fun t263 => (if t263 = true then (if (bt255.2.length : Int) = 3 then (if 1 < (bt255.2.length : Int) then (if (rd bt255.2 1) = 3 then ((items_Parts.f k bt255.1 bt255.2).bind fun t265 => (some ((t265.length : Int) == 1))) else (some false)) else (none)) else (some false)) else (some false))) else (some false)) else (none)) else (some false))) = some r := by first | (rw [hy246]; with_reducible exact H) | (have H2_ := (Option.bind_some _ _).symm.trans H; rw [hy246]; with_reducible exact H2_) | (have H2_ := (Option.bind_some _ _).symm.trans H; with_reducible exact H2_) | with_reducible exact H | (rw [hy246]; exact H) | exact H
 have Ny246 := zA.mk hy246; clear hy246; obtain ⟨y249, hy249⟩ : ∃ y_ : List Int, y_ = (([0, 0, 2] : List Int)) := ⟨_, rfl⟩; replace H : ((items_Make.f k y243 y246 y249 (([false, true, false] : List Bool)) t235).bind fun bt255 => (if (t239.length : Int) = 1 then (if 0 < (t239.length : Int) then (if (rd t239 0) = 2 then ((items_Check.f k t236 t239).bind fun t263 => (if t263 = true then (if (bt255.2.length : Int) = 3 then (if 1 < (bt255.2.length : Int) then (if (rd bt255.2 1) = 3 then ((items_Parts.f k bt255.1 bt255.2).bind fun t265 => (some ((t265.length : Int) == 1))) else (some false)) else (none)) else (some false)) else (some false))) else (some false)) else (none)) else (some false))) = some r := by first | (rw [hy249]; with_reducible exact H) | (have H2_ := (Option.bind_some _ _).symm.trans H; rw [hy249]; with_reducible exact H2_) | (have H2_ := (Option.bind_some _ _).symm.trans H; with_reducible exact H2_) | with_reducible exact H | (rw [hy249]; exact H) | exact H
 have Ny249 := zA.mk hy249; clear hy249; obtain ⟨y252, hy252⟩ : ∃ y_ : List Bool, y_ = (([false, true, false] : List Bool)) := ⟨_, rfl⟩; replace H : ((items_Make.f k y243 y246 y249 y252 t235).bind fun bt255 => (if (t239.length : Int) = 1 then (if 0 < (t239.length : Int) then (if (rd t239 0) = 2 then ((items_Check.f k t236 t239).bind fun t263 => (if t263 = true then (if (bt255.2.length : Int) = 3 then (if 1 < (bt255.2.length : Int) then (if (rd bt255.2 1) = 3 then ((items_Parts.f k bt255.1 bt255.2).bind fun t265 => (some ((t265.length : Int) == 1))) else (some false)) else (none)) else (some false)) else (some false))) else (some false)) else (none)) else (some false))) = some r := by first | (rw [hy252]; with_reducible exact H) | (have H2_ := (Option.bind_some _ _).symm.trans H; rw [hy252]; with_reducible exact H2_) | (have H2_ := (Option.bind_some _ _).symm.trans H; with_reducible exact H2_) | with_reducible exact H | (rw [hy252]; exact H) | exact H
 have Ny252 := zA.mk hy252; clear hy252; replace H := Option.bind_eq_some_iff.mp H; obtain ⟨⟨t255, t258⟩, A40, H⟩ := H; replace H : (if (t239.length : Int) = 1 then (if 0 < (t239.length : Int) then (if (rd t239 0) = 2 then ((items_Check.f k t236 t239).bind fun t263 => (if t263 = true then (if (t258.length : Int) = 3 then (if 1 < (t258.length : Int) then (if (rd t258 1) = 3 then ((items_Parts.f k t255 t258).bind fun t265 => (some ((t265.length : Int) == 1))) else (some false)) else (none)) else (some false)) else (some false))) else (some false)) else (none)) else (some false)) = some r := H
 have A4 := zA.mk A40; clear A40; by_cases c5 : (t239.length : Int) = 1
 rotate_left
 ·rw [if_neg c5] at H
  have c5b0 : ((t239.length : Int) == 1) = false := beq_eq_false_iff_ne.mpr c5
  have c5b1 : ((t239.length : Int) != 1) = true := bne_iff_ne.mpr c5
  exact absurd ((Option.some.inj H).trans hrt_.out) (by decide)
 rw [if_pos c5] at H; have c5b0 : ((t239.length : Int) == 1) = true := beq_iff_eq.mpr c5
 have c5b1 : ((t239.length : Int) != 1) = false := bne_eq_false_iff_eq.mpr c5
 clear c5; by_cases c6 : 0 < (t239.length : Int)
 rotate_left
 ·rw [if_neg c6] at H
  exact absurd H (by simp)
 rw [if_pos c6] at H; have c6b0 : decide (0 < (t239.length : Int)) = true := decide_eq_true c6
 have c6b1 : decide (0 < t239.length) = true := decide_eq_true (by omega)
 clear c6; by_cases c7 : (rd t239 0) = 2
 rotate_left
 ·rw [if_neg c7] at H
  have c7b0 : ((rd t239 0) == 2) = false := beq_eq_false_iff_ne.mpr c7
  have c7b1 : ((rd t239 0) != 2) = true := bne_iff_ne.mpr c7
  exact absurd ((Option.some.inj H).trans hrt_.out) (by decide)
 rw [if_pos c7] at H; have c7b0 : ((rd t239 0) == 2) = true := beq_iff_eq.mpr c7
 have c7b1 : ((rd t239 0) != 2) = false := bne_eq_false_iff_eq.mpr c7
 clear c7; replace H := Option.bind_eq_some_iff.mp H; obtain ⟨t263, A80, H⟩ := H; replace H : (if t263 = true then (if (t258.length : Int) = 3 then (if 1 < (t258.length : Int) then (if (rd t258 1) = 3 then ((items_Parts.f k t255 t258).bind fun t265 => (some ((t265.length : Int) == 1))) else (some false)) else (none)) else (some false)) else (some false)) = some r := H
 have A8 := zA.mk A80; clear A80; by_cases c9 : t263 = true
 rotate_left
 ·replace c9 := Bool.eq_false_iff.mpr c9
  subst c9; have H1 : (some false) = some r := by rw [if_neg (show ¬ (false = true) by decide)] at H; exact H
  clear H; have H := H1; clear H1; exact absurd ((Option.some.inj H).trans hrt_.out) (by decide)
 subst c9; have H1 : (if (t258.length : Int) = 3 then (if 1 < (t258.length : Int) then (if (rd t258 1) = 3 then ((items_Parts.f k t255 t258).bind fun t265 => (some ((t265.length : Int) == 1))) else (some false)) else (none)) else (some false)) = some r := by rw [if_pos rfl] at H; exact H
 clear H; have H := H1; clear H1; by_cases c10 : (t258.length : Int) = 3
 rotate_left
 ·rw [if_neg c10] at H
  have c10b0 : ((t258.length : Int) == 3) = false := beq_eq_false_iff_ne.mpr c10
  have c10b1 : ((t258.length : Int) != 3) = true := bne_iff_ne.mpr c10
  exact absurd ((Option.some.inj H).trans hrt_.out) (by decide)
 rw [if_pos c10] at H; have c10b0 : ((t258.length : Int) == 3) = true := beq_iff_eq.mpr c10
 have c10b1 : ((t258.length : Int) != 3) = false := bne_eq_false_iff_eq.mpr c10
 clear c10; by_cases c11 : 1 < (t258.length : Int)
 rotate_left
 ·rw [if_neg c11] at H
  exact absurd H (by simp)
 rw [if_pos c11] at H; have c11b0 : decide (1 < (t258.length : Int)) = true := decide_eq_true c11
 have c11b1 : decide (1 < t258.length) = true := decide_eq_true (by omega)
 clear c11; by_cases c12 : (rd t258 1) = 3
 rotate_left
 ·rw [if_neg c12] at H
  have c12b0 : ((rd t258 1) == 3) = false := beq_eq_false_iff_ne.mpr c12
  have c12b1 : ((rd t258 1) != 3) = true := bne_iff_ne.mpr c12
  exact absurd ((Option.some.inj H).trans hrt_.out) (by decide)
 rw [if_pos c12] at H; have c12b0 : ((rd t258 1) == 3) = true := beq_iff_eq.mpr c12
 have c12b1 : ((rd t258 1) != 3) = false := bne_eq_false_iff_eq.mpr c12
 clear c12; replace H := Option.bind_eq_some_iff.mp H; obtain ⟨t265, A130, H⟩ := H; replace H : (some ((t265.length : Int) == 1)) = some r := H; have A13 := zA.mk A130; clear A130; obtain rfl := Option.some.inj H
 go_enter Try.func23, Try.ntmps23
 go_wp2_with (first | ((with_reducible refine gate_callee (f := 14) rfl ?_); refine goesL_ (some 6) rfl rfl Try.func14 (by kernel_rfl) rfl #[.slice none 0 0, .int .i64 1] rfl aT ?_; (refine (prop_MakeY.calls _ _ ([] : List (S45)) 1 t235 _ ?side1 ?side2 A2.out).mono ?_); (case side1 => exact Kd.C_nil _ _); (case side2 => exact Nat.le_refl _); rintro e w14 ⟨gb234, ob234, gb235, ob235, rfl, hx1, hx2, hg1, hg2, hne, htb, hb⟩; refine ⟨_, rfl, ?_⟩; have BK234 := zA.mk (hx1); have GW234 := zA.mk ((Nat.le_trans (below_size (aL HB)) hg1 : w.heap.size ≤ gb234)); have GE234 := zA.mk ((Nat.le_trans (below_size (aL HB)) hg1 : w.heap.size ≤ gb234)); have NB234_235 := zA.mk (hne); have BK235 := zA.mk (hx2); have GW235 := zA.mk ((Nat.le_trans (below_size (aL HB)) hg2 : w.heap.size ≤ gb235)); have GE235 := zA.mk ((Nat.le_trans (below_size (aL HB)) hg2 : w.heap.size ≤ gb235)); replace HB := zA.mk (below_step (aL HB) hb); have NB235_234 := zA.mk (Ne.symm hne); have HTt235 := zA.mk (htb); clear hb hx1 hx2 hg1 hg2 hne htb) | ((with_reducible refine gate_callee (f := 24) rfl ?_); refine goesL_ (some 12) rfl rfl Try.func24 (by kernel_rfl) rfl #[.slice none 0 0, .slice none 0 0, .slice none 0 0, .slice none 0 0, .pointer (some ⟨gb234, 0, none⟩)] rfl aT ?_; (refine (items_Make.calls k _ _ ([] : List (S50)) _ _ ([] : List Int) _ _ ([] : List Int) _ _ ([] : List Bool) (.pointer (some ⟨gb234, 0, none⟩)) t235 t236 t239 _ ?side1 ?side2 ?side3 ?side4 ?side5 ?side6 ?side7 ?side8 ?side9 A3.out).mono ?_); (case side1 => exact Kd.C_nil _ _); (case side2 => exact Nat.le_refl _); (case side3 => exact Kd.C_nil _ _); (case side4 => exact Nat.le_refl _); (case side5 => exact Kd.C_nil _ _); (case side6 => exact Nat.le_refl _); (case side7 => exact Kd.C_nil _ _); (case side8 => exact Nat.le_refl _); (case side9 => exact TabO.at HTt235.out (aB BK234) (aB BK235)); rintro e w15 ⟨v237, v240, rfl, ho0, ho1, hb⟩; refine ⟨_, rfl, ?_⟩; have HO238 := zA.mk (Kd.zR (Kd.R_newB (Kd.R_newB ho0 (g := gb234) (o := ob234) (aB BK234)) (g := gb235) (o := ob235) (aB BK235)) (below_size (aL HB))); have HO241 := zA.mk (Kd.zR (Kd.R_newB (Kd.R_newB ho1 (g := gb234) (o := ob234) (aB BK234)) (g := gb235) (o := ob235) (aB BK235)) (below_size (aL HB))); replace BK234 := zA.mk (zF (aB BK234) hb); replace BK235 := zA.mk (zF (aB BK235) hb); replace HB := zA.mk (below_step (aL HB) hb); (try clear hb); (try clear hb2); (try clear hk); (try clear hi); (try clear ho0); (try clear ho1)) | ((with_reducible refine gate_dst (N := 3) rfl ?_); (try (refine gate_guard (by rfl) ?_; dsimp only)); refine box_event ?hg (N := 3) ?hd (cs := #[.slice none 0 0, .slice none 0 0]) (t := 60) ?hr ?_; (case hd => rfl); (case hg => rfl); (case hr => first | (go_simp; done) | (go_simp; rfl)); intro gb242 hg w16 hbox hb; replace HO238 := zA.mk (Kd.zO (aR HO238) hb); replace HO241 := zA.mk (Kd.zO (aR HO241) hb); have BK242 := zA.mk (hbox); have GW242 := zA.mk ((by rw [hg]; exact (below_size (aL HB)) : w.heap.size ≤ gb242)); replace HB := zA.mk (below_step (aL HB) hb); have GE242 := GW242; have NB234_242 := zA.mk ((by rw [hg]; exact Nat.ne_of_lt (blk_lt (aB BK234)) : gb234 ≠ gb242)); have NB242_234 := zA.mk ((by rw [hg]; exact Nat.ne_of_gt (blk_lt (g := gb234) (o := ob234) (aB BK234)) : gb242 ≠ gb234)); replace BK234 := zA.mk (zF (aB BK234) hb); have NB235_242 := zA.mk ((by rw [hg]; exact Nat.ne_of_lt (blk_lt (aB BK235)) : gb235 ≠ gb242)); have NB242_235 := zA.mk ((by rw [hg]; exact Nat.ne_of_gt (blk_lt (g := gb235) (o := ob235) (aB BK235)) : gb242 ≠ gb235)); replace BK235 := zA.mk (zF (aB BK235) hb); clear hb hbox hg; obtain ⟨Ao17, co17, eo17⟩ := Kd.zQ HO238.out; subst eo17; have hnb18 := NB242_234.out; have hnc18 := NB234_242.out; have hnb19 := NB242_235.out; have hnc19 := NB235_242.out; obtain ⟨hcz20_0, hcz20_1, hfz20_0, hfz20_1⟩ := aC2 BK242; obtain ⟨Ao21, co21, eo21⟩ := Kd.zQ HO241.out; subst eo21) | ((with_reducible refine gate_store (t := 60) (p := 3) rfl ?_); refine store_event (t := 60) (p := 3) (v := ?vo_w22) (w1 := ((w16.setCell ⟨gb242, 0, none⟩ (.slice Ao17 t236.length co17)).setCell ⟨gb242, 1, none⟩ (.slice Ao21 t239.length co21))) ?hg ?ho ?hn ?hr ?_; (case ho => rfl); (case hg => rfl); (case hn => rfl); (case hr => first | (go_simp; done) | (go_simp; rfl)); intro w22 hw; have n0_ : zA (Kd.R k48 48 w22 w.heap.size (fun k_ => k_ ≠ gb234 ∧ k_ ≠ gb235) (.slice Ao17 t236.length co17) t236) := ⟨(by rw [hw]; exact (by (with_reducible repeat (first | apply Kd.zG | apply Kd.zH | apply Kd.zI)); exact Kd.zS (Kd.zP (p := ⟨gb242, 1, none⟩) (Kd.zP (p := ⟨gb242, 0, none⟩) (Kd.zT HO238.out BK242.out (by decide)) (fun _ hk => hk.2) (.slice Ao17 t236.length co17)) (fun _ hk => hk.2) (.slice Ao21 t239.length co21)) (fun _ hk => ⟨hk.1.1.2, hk.1.2⟩)))⟩; have n1_ : zA (Kd.R (Kd.int .u8) 53 w22 w.heap.size (fun k_ => k_ ≠ gb234 ∧ k_ ≠ gb235) (.slice Ao21 t239.length co21) t239) := ⟨(by rw [hw]; exact (by (with_reducible repeat (first | apply Kd.zG | apply Kd.zH | apply Kd.zI)); exact Kd.zS (Kd.zP (p := ⟨gb242, 1, none⟩) (Kd.zP (p := ⟨gb242, 0, none⟩) (Kd.zT HO241.out BK242.out (by decide)) (fun _ hk => hk.2) (.slice Ao17 t236.length co17)) (fun _ hk => hk.2) (.slice Ao21 t239.length co21)) (fun _ hk => ⟨hk.1.1.2, hk.1.2⟩)))⟩; have n2_ : zA (w22.heap[gb234]? = some (ob234)) := ⟨(by rw [hw]; exact (by (with_reducible repeat (first | refine zD ?_ _ | refine zC ?_ | refine zB ?_ _)); refine blk_farO ?_ NB234_242.out _; (with_reducible repeat (first | refine zD ?_ _ | refine zC ?_ | refine zB ?_ _)); refine blk_farO ?_ NB234_242.out _; (with_reducible repeat (first | refine zD ?_ _ | refine zC ?_ | refine zB ?_ _)); exact BK234.out))⟩; have n3_ : zA (w22.heap[gb235]? = some (ob235)) := ⟨(by rw [hw]; exact (by (with_reducible repeat (first | refine zD ?_ _ | refine zC ?_ | refine zB ?_ _)); refine blk_farO ?_ NB235_242.out _; (with_reducible repeat (first | refine zD ?_ _ | refine zC ?_ | refine zB ?_ _)); refine blk_farO ?_ NB235_242.out _; (with_reducible repeat (first | refine zD ?_ _ | refine zC ?_ | refine zB ?_ _)); exact BK235.out))⟩; have n4_ : zA (w22.heap[gb242]? = some (.cells #[.slice Ao17 t236.length co17, .slice Ao21 t239.length co21] 60 (0, 0))) := ⟨(by rw [hw]; exact (by (with_reducible repeat (first | refine zD ?_ _ | refine zC ?_ | refine zB ?_ _)); refine blk_put (cs := #[.slice Ao17 t236.length co17, .slice none 0 0]) ?_ 1 _ rfl; (with_reducible repeat (first | refine zD ?_ _ | refine zC ?_ | refine zB ?_ _)); refine blk_put (cs := #[.slice none 0 0, .slice none 0 0]) ?_ 0 _ rfl; (with_reducible repeat (first | refine zD ?_ _ | refine zC ?_ | refine zB ?_ _)); exact BK242.out))⟩; have n5_ : zA (Below w.heap.size w w22) := ⟨(by rw [hw]; exact (aL HB))⟩; clear hw; clear HO238; clear HO241; clear BK234; clear BK235; clear BK242; clear HB; have HO238 := n0_; have HO241 := n1_; have BK234 := n2_; have BK235 := n3_; have BK242 := n4_; have HB := n5_; clear n0_ n1_ n2_ n3_ n4_ n5_) | ((with_reducible refine gate_dst (N := 15) rfl ?_); (try (refine gate_guard (by rfl) ?_; dsimp only)); refine Kd.R_lit k50 _ 50 ?hg (N := 15) ?hd (xs := ([(⟨97, 0, 1⟩ : S50), (⟨98, 1, 1⟩ : S50)] : List (S50))) (inner := [.int .i32 97, .int .i64 0, .int .i64 1, .int .i32 98, .int .i64 1, .int .i64 1]) (ok := fun _ => True) (okp := fun _ => True) ?hr ?hp (fun _ hk => hk) trivial (Below.refl _ _) (Nat.le_refl _) (by simp) ?_; (case hd => rfl); (case hg => rfl); (case hr => first | (go_simp; done) | (go_simp; rfl)); (case hp => exact (Reps.c3 (show Kd.M k50 _ _ _ (⟨97, 0, 1⟩ : S50) [.int .i32 97, .int .i64 0, .int .i64 1] from (k50_mkM _ _ _ (⟨97, 0, 1⟩ : S50) )) (Reps.c3 (show Kd.M k50 _ _ _ (⟨98, 1, 1⟩ : S50) [.int .i32 98, .int .i64 1, .int .i64 1] from (k50_mkM _ _ _ (⟨98, 1, 1⟩ : S50) )) (Reps.none _ _)))); intro v244 w23 ho24 hb hg_ hnew_; clear hg_ hnew_; (first | rw [← Ny243.out] at ho24 | (simp only [Int.reduceToNat] at ho24; rw [← Ny243.out] at ho24)); replace HO238 := zA.mk (Kd.zO (aR HO238) hb); replace HO241 := zA.mk (Kd.zO (aR HO241) hb); have HO245 := zA.mk (Kd.zR (Kd.R_newB (Kd.R_newB ho24 (g := gb234) (o := ob234) (aB BK234)) (g := gb235) (o := ob235) (aB BK235)) (below_size (aL HB))); replace BK234 := zA.mk (zF (aB BK234) hb); replace BK235 := zA.mk (zF (aB BK235) hb); replace BK242 := zA.mk (zF (aB BK242) hb); replace HB := zA.mk (below_step (aL HB) hb); clear hb ho24) | ((with_reducible refine gate_dst (N := 16) rfl ?_); (try (refine gate_guard (by rfl) ?_; dsimp only)); refine Kd.R_lit (Kd.int .u8) _ 53 ?hg (N := 16) ?hd (xs := ([0, 1, 2] : List Int)) (inner := [.int .u8 0, .int .u8 1, .int .u8 2]) (ok := fun _ => True) (okp := fun _ => True) ?hr ?hp (fun _ hk => hk) trivial (Below.refl _ _) (Nat.le_refl _) (by simp) ?_; (case hd => rfl); (case hg => rfl); (case hr => first | (go_simp; done) | (go_simp; rfl)); (case hp => exact (Reps.one (show Kd.M (Kd.int .u8) _ _ _ 0 [.int .u8 0] from rfl) (Reps.one (show Kd.M (Kd.int .u8) _ _ _ 1 [.int .u8 1] from rfl) (Reps.one (show Kd.M (Kd.int .u8) _ _ _ 2 [.int .u8 2] from rfl) (Reps.none _ _))))); intro v247 w25 ho26 hb hg_ hnew_; clear hg_ hnew_; (first | rw [← Ny246.out] at ho26 | (simp only [Int.reduceToNat] at ho26; rw [← Ny246.out] at ho26)); replace HO238 := zA.mk (Kd.zO (aR HO238) hb); replace HO245 := zA.mk (Kd.zO (aR HO245) hb); have HO248 := zA.mk (Kd.zR (Kd.R_newB (Kd.R_newB (Kd.R_new' ho26 (Kd.R_lt (aR HO241))) (g := gb234) (o := ob234) (aB BK234)) (g := gb235) (o := ob235) (aB BK235)) (below_size (aL HB))); replace HO241 := zA.mk (Kd.R_elder' (aR HO241) (Kd.R_base ho26) hb); replace BK234 := zA.mk (zF (aB BK234) hb); replace BK235 := zA.mk (zF (aB BK235) hb); replace BK242 := zA.mk (zF (aB BK242) hb); replace HB := zA.mk (below_step (aL HB) hb); clear hb ho26) | ((with_reducible refine gate_dst (N := 17) rfl ?_); (try (refine gate_guard (by rfl) ?_; dsimp only)); refine Kd.R_lit (Kd.int .u8) _ 53 ?hg (N := 17) ?hd (xs := ([0, 0, 2] : List Int)) (inner := [.int .u8 0, .int .u8 0, .int .u8 2]) (ok := fun _ => True) (okp := fun _ => True) ?hr ?hp (fun _ hk => hk) trivial (Below.refl _ _) (Nat.le_refl _) (by simp) ?_; (case hd => rfl); (case hg => rfl); (case hr => first | (go_simp; done) | (go_simp; rfl)); (case hp => exact (Reps.one (show Kd.M (Kd.int .u8) _ _ _ 0 [.int .u8 0] from rfl) (Reps.one (show Kd.M (Kd.int .u8) _ _ _ 0 [.int .u8 0] from rfl) (Reps.one (show Kd.M (Kd.int .u8) _ _ _ 2 [.int .u8 2] from rfl) (Reps.none _ _))))); intro v250 w27 ho28 hb hg_ hnew_; clear hg_ hnew_; (first | rw [← Ny249.out] at ho28 | (simp only [Int.reduceToNat] at ho28; rw [← Ny249.out] at ho28)); replace HO238 := zA.mk (Kd.zO (aR HO238) hb); replace HO245 := zA.mk (Kd.zO (aR HO245) hb); have HO251 := zA.mk (Kd.zR (Kd.R_newB (Kd.R_newB (Kd.R_new' (Kd.R_new' ho28 (Kd.R_lt (aR HO241))) (Kd.R_lt (aR HO248))) (g := gb234) (o := ob234) (aB BK234)) (g := gb235) (o := ob235) (aB BK235)) (below_size (aL HB))); replace HO241 := zA.mk (Kd.R_elder' (aR HO241) (Kd.R_base ho28) hb); replace HO248 := zA.mk (Kd.R_elder' (aR HO248) (Kd.R_base ho28) hb); replace BK234 := zA.mk (zF (aB BK234) hb); replace BK235 := zA.mk (zF (aB BK235) hb); replace BK242 := zA.mk (zF (aB BK242) hb); replace HB := zA.mk (below_step (aL HB) hb); clear hb ho28) | ((with_reducible refine gate_dst (N := 18) rfl ?_); (try (refine gate_guard (by rfl) ?_; dsimp only)); refine Kd.R_lit Kd.bool _ 4 ?hg (N := 18) ?hd (xs := ([false, true, false] : List Bool)) (inner := [.bool false, .bool true, .bool false]) (ok := fun _ => True) (okp := fun _ => True) ?hr ?hp (fun _ hk => hk) trivial (Below.refl _ _) (Nat.le_refl _) (by simp) ?_; (case hd => rfl); (case hg => rfl); (case hr => first | (go_simp; done) | (go_simp; rfl)); (case hp => exact (Reps.one (show Kd.M Kd.bool _ _ _ false [.bool false] from rfl) (Reps.one (show Kd.M Kd.bool _ _ _ true [.bool true] from rfl) (Reps.one (show Kd.M Kd.bool _ _ _ false [.bool false] from rfl) (Reps.none _ _))))); intro v253 w29 ho30 hb hg_ hnew_; clear hg_ hnew_; (first | rw [← Ny252.out] at ho30 | (simp only [Int.reduceToNat] at ho30; rw [← Ny252.out] at ho30)); replace HO238 := zA.mk (Kd.zO (aR HO238) hb); replace HO241 := zA.mk (Kd.zO (aR HO241) hb); replace HO245 := zA.mk (Kd.zO (aR HO245) hb); replace HO248 := zA.mk (Kd.zO (aR HO248) hb); replace HO251 := zA.mk (Kd.zO (aR HO251) hb); have HO254 := zA.mk (Kd.zR (Kd.R_newB (Kd.R_newB ho30 (g := gb234) (o := ob234) (aB BK234)) (g := gb235) (o := ob235) (aB BK235)) (below_size (aL HB))); replace BK234 := zA.mk (zF (aB BK234) hb); replace BK235 := zA.mk (zF (aB BK235) hb); replace BK242 := zA.mk (zF (aB BK242) hb); replace HB := zA.mk (below_step (aL HB) hb); clear hb ho30; obtain ⟨Ao31, co31, eo31⟩ := Kd.zQ HO245.out; subst eo31; obtain ⟨Ao32, co32, eo32⟩ := Kd.zQ HO248.out; subst eo32; obtain ⟨Ao33, co33, eo33⟩ := Kd.zQ HO251.out; subst eo33; obtain ⟨Ao34, co34, eo34⟩ := Kd.zQ HO254.out; subst eo34) | ((with_reducible refine gate_callee (f := 24) rfl ?_); refine goesL_ (some 20) rfl rfl Try.func24 (by kernel_rfl) rfl #[.slice Ao31 y243.length co31, .slice Ao32 y246.length co32, .slice Ao33 y249.length co33, .slice Ao34 y252.length co34, .pointer (some ⟨gb234, 0, none⟩)] rfl aT ?_; (with_reducible refine (items_Make.calls k _ _ y243 _ _ y246 _ _ y249 _ _ y252 (.pointer (some ⟨gb234, 0, none⟩)) t235 t255 t258 _ ?side1 ?side2 ?side3 ?side4 ?side5 ?side6 ?side7 ?side8 ?side9 A4.out).mono ?_); (case side1 => exact aF HO245); (case side2 => exact (Kd.zN HO245.out).2.1); (case side3 => exact aF HO248); (case side4 => exact (Kd.zN HO248.out).2.1); (case side5 => exact aF HO251); (case side6 => exact (Kd.zN HO251.out).2.1); (case side7 => exact aF HO254); (case side8 => exact (Kd.zN HO254.out).2.1); (case side9 => exact TabO.at HTt235.out (aB BK234) (aB BK235)); rintro e w35 ⟨v256, v259, rfl, ho0, ho1, hb⟩; refine ⟨_, rfl, ?_⟩; replace HO245 := zA.mk (Kd.zO (aR HO245) hb); replace HO254 := zA.mk (Kd.zO (aR HO254) hb); have HO257 := zA.mk (Kd.zR (Kd.R_newB (Kd.R_newB (Kd.R_new' ho0 (Kd.R_lt (aR HO238))) (g := gb234) (o := ob234) (aB BK234)) (g := gb235) (o := ob235) (aB BK235)) (below_size (aL HB))); replace HO238 := zA.mk (Kd.R_elder' (aR HO238) (Kd.R_base ho0) hb); have HO260 := zA.mk (Kd.zR (Kd.R_newB (Kd.R_newB (Kd.R_new' (Kd.R_new' (Kd.R_new' ho1 (Kd.R_lt (aR HO241))) (Kd.R_lt (aR HO248))) (Kd.R_lt (aR HO251))) (g := gb234) (o := ob234) (aB BK234)) (g := gb235) (o := ob235) (aB BK235)) (below_size (aL HB))); replace HO241 := zA.mk (Kd.R_elder' (aR HO241) (Kd.R_base ho1) hb); replace HO248 := zA.mk (Kd.R_elder' (aR HO248) (Kd.R_base ho1) hb); replace HO251 := zA.mk (Kd.R_elder' (aR HO251) (Kd.R_base ho1) hb); replace BK234 := zA.mk (zF (aB BK234) hb); replace BK235 := zA.mk (zF (aB BK235) hb); replace BK242 := zA.mk (zF (aB BK242) hb); replace HB := zA.mk (below_step (aL HB) hb); (try clear hb); (try clear hb2); (try clear hk); (try clear hi); (try clear ho0); (try clear ho1)) | ((with_reducible refine gate_dst (N := 4) rfl ?_); (try (refine gate_guard (by rfl) ?_; dsimp only)); refine box_event ?hg (N := 4) ?hd (cs := #[.slice none 0 0, .slice none 0 0]) (t := 60) ?hr ?_; (case hd => rfl); (case hg => rfl); (case hr => first | (go_simp; done) | (go_simp; rfl)); intro gb261 hg w36 hbox hb; replace HO238 := zA.mk (Kd.zO (aR HO238) hb); replace HO241 := zA.mk (Kd.zO (aR HO241) hb); replace HO245 := zA.mk (Kd.zO (aR HO245) hb); replace HO248 := zA.mk (Kd.zO (aR HO248) hb); replace HO251 := zA.mk (Kd.zO (aR HO251) hb); replace HO254 := zA.mk (Kd.zO (aR HO254) hb); replace HO257 := zA.mk (Kd.zO (aR HO257) hb); replace HO260 := zA.mk (Kd.zO (aR HO260) hb); have BK261 := zA.mk (hbox); have GW261 := zA.mk ((by rw [hg]; exact (below_size (aL HB)) : w.heap.size ≤ gb261)); replace HB := zA.mk (below_step (aL HB) hb); have GE261 := GW261; have NB234_261 := zA.mk ((by rw [hg]; exact Nat.ne_of_lt (blk_lt (aB BK234)) : gb234 ≠ gb261)); have NB261_234 := zA.mk ((by rw [hg]; exact Nat.ne_of_gt (blk_lt (g := gb234) (o := ob234) (aB BK234)) : gb261 ≠ gb234)); replace BK234 := zA.mk (zF (aB BK234) hb); have NB235_261 := zA.mk ((by rw [hg]; exact Nat.ne_of_lt (blk_lt (aB BK235)) : gb235 ≠ gb261)); have NB261_235 := zA.mk ((by rw [hg]; exact Nat.ne_of_gt (blk_lt (g := gb235) (o := ob235) (aB BK235)) : gb261 ≠ gb235)); replace BK235 := zA.mk (zF (aB BK235) hb); have NB242_261 := zA.mk ((by rw [hg]; exact Nat.ne_of_lt (blk_lt (aB BK242)) : gb242 ≠ gb261)); have NB261_242 := zA.mk ((by rw [hg]; exact Nat.ne_of_gt (blk_lt (g := gb242) (o := .cells #[.slice Ao17 t236.length co17, .slice Ao21 t239.length co21] 60 (0, 0)) (aB BK242)) : gb261 ≠ gb242)); replace BK242 := zA.mk (zF (aB BK242) hb); clear hb hbox hg; obtain ⟨Ao37, co37, eo37⟩ := Kd.zQ HO257.out; subst eo37; have hnb38 := NB261_234.out; have hnc38 := NB234_261.out; have hnb39 := NB261_235.out; have hnc39 := NB235_261.out; have hnb40 := NB261_242.out; have hnc40 := NB242_261.out; obtain ⟨hcz41_0, hcz41_1, hfz41_0, hfz41_1⟩ := aC2 BK261; obtain ⟨Ao42, co42, eo42⟩ := Kd.zQ HO260.out; subst eo42) | ((with_reducible refine gate_store (t := 60) (p := 4) rfl ?_); refine store_event (t := 60) (p := 4) (v := ?vo_w43) (w1 := ((w36.setCell ⟨gb261, 0, none⟩ (.slice Ao37 t255.length co37)).setCell ⟨gb261, 1, none⟩ (.slice Ao42 t258.length co42))) ?hg ?ho ?hn ?hr ?_; (case ho => rfl); (case hg => rfl); (case hn => rfl); (case hr => first | (go_simp; done) | (go_simp; rfl)); intro w43 hw; have n0_ : zA (Kd.R k48 48 w43 w.heap.size (fun k_ => some k_ ≠ (.slice Ao37 t255.length co37 : Value).ownBlock ∧ k_ ≠ gb234 ∧ k_ ≠ gb235) (.slice Ao17 t236.length co17) t236) := ⟨(by rw [hw]; exact (by (with_reducible repeat (first | apply Kd.zG | apply Kd.zH | apply Kd.zI)); exact Kd.zS (Kd.zP (p := ⟨gb261, 1, none⟩) (Kd.zP (p := ⟨gb261, 0, none⟩) (Kd.zT HO238.out BK261.out (by decide)) (fun _ hk => hk.2) (.slice Ao37 t255.length co37)) (fun _ hk => hk.2) (.slice Ao42 t258.length co42)) (fun _ hk => ⟨hk.1.2, ⟨hk.1.1.1, hk.1.1.2⟩⟩)))⟩; have n1_ : zA (Kd.R (Kd.int .u8) 53 w43 w.heap.size (fun k_ => some k_ ≠ (.slice Ao32 y246.length co32 : Value).ownBlock ∧ some k_ ≠ (.slice Ao33 y249.length co33 : Value).ownBlock ∧ some k_ ≠ (.slice Ao42 t258.length co42 : Value).ownBlock ∧ k_ ≠ gb234 ∧ k_ ≠ gb235) (.slice Ao21 t239.length co21) t239) := ⟨(by rw [hw]; exact (by (with_reducible repeat (first | apply Kd.zG | apply Kd.zH | apply Kd.zI)); exact Kd.zS (Kd.zP (p := ⟨gb261, 1, none⟩) (Kd.zP (p := ⟨gb261, 0, none⟩) (Kd.zT HO241.out BK261.out (by decide)) (fun _ hk => hk.2) (.slice Ao37 t255.length co37)) (fun _ hk => hk.2) (.slice Ao42 t258.length co42)) (fun _ hk => ⟨hk.1.1.1.2, ⟨hk.1.1.2, ⟨hk.1.2, ⟨hk.1.1.1.1.1, hk.1.1.1.1.2⟩⟩⟩⟩)))⟩; have n2_ : zA (Kd.R k50 50 w43 w.heap.size (fun k_ => k_ ≠ gb234 ∧ k_ ≠ gb235) (.slice Ao31 y243.length co31) y243) := ⟨(by rw [hw]; exact (by (with_reducible repeat (first | apply Kd.zG | apply Kd.zH | apply Kd.zI)); exact Kd.zS (Kd.zP (p := ⟨gb261, 1, none⟩) (Kd.zP (p := ⟨gb261, 0, none⟩) (Kd.zT HO245.out BK261.out (by decide)) (fun _ hk => hk.2) (.slice Ao37 t255.length co37)) (fun _ hk => hk.2) (.slice Ao42 t258.length co42)) (fun _ hk => ⟨hk.1.1.2, hk.1.2⟩)))⟩; have n3_ : zA (Kd.R (Kd.int .u8) 53 w43 w.heap.size (fun k_ => some k_ ≠ (.slice Ao21 t239.length co21 : Value).ownBlock ∧ some k_ ≠ (.slice Ao33 y249.length co33 : Value).ownBlock ∧ some k_ ≠ (.slice Ao42 t258.length co42 : Value).ownBlock ∧ k_ ≠ gb234 ∧ k_ ≠ gb235) (.slice Ao32 y246.length co32) y246) := ⟨(by rw [hw]; exact (by (with_reducible repeat (first | apply Kd.zG | apply Kd.zH | apply Kd.zI)); exact Kd.zS (Kd.zP (p := ⟨gb261, 1, none⟩) (Kd.zP (p := ⟨gb261, 0, none⟩) (Kd.zT HO248.out BK261.out (by decide)) (fun _ hk => hk.2) (.slice Ao37 t255.length co37)) (fun _ hk => hk.2) (.slice Ao42 t258.length co42)) (fun _ hk => ⟨hk.1.1.1.1.1.2, ⟨hk.1.1.2, ⟨hk.1.2, ⟨hk.1.1.1.1.2, hk.1.1.1.2⟩⟩⟩⟩)))⟩; have n4_ : zA (Kd.R (Kd.int .u8) 53 w43 w.heap.size (fun k_ => some k_ ≠ (.slice Ao21 t239.length co21 : Value).ownBlock ∧ some k_ ≠ (.slice Ao32 y246.length co32 : Value).ownBlock ∧ some k_ ≠ (.slice Ao42 t258.length co42 : Value).ownBlock ∧ k_ ≠ gb234 ∧ k_ ≠ gb235) (.slice Ao33 y249.length co33) y249) := ⟨(by rw [hw]; exact (by (with_reducible repeat (first | apply Kd.zG | apply Kd.zH | apply Kd.zI)); exact Kd.zS (Kd.zP (p := ⟨gb261, 1, none⟩) (Kd.zP (p := ⟨gb261, 0, none⟩) (Kd.zT HO251.out BK261.out (by decide)) (fun _ hk => hk.2) (.slice Ao37 t255.length co37)) (fun _ hk => hk.2) (.slice Ao42 t258.length co42)) (fun _ hk => ⟨hk.1.1.1.1.1.2, ⟨hk.1.1.1.1.2, ⟨hk.1.2, ⟨hk.1.1.1.2, hk.1.1.2⟩⟩⟩⟩)))⟩; have n5_ : zA (Kd.R Kd.bool 4 w43 w.heap.size (fun k_ => k_ ≠ gb234 ∧ k_ ≠ gb235) (.slice Ao34 y252.length co34) y252) := ⟨(by rw [hw]; exact (by (with_reducible repeat (first | apply Kd.zG | apply Kd.zH | apply Kd.zI)); exact Kd.zS (Kd.zP (p := ⟨gb261, 1, none⟩) (Kd.zP (p := ⟨gb261, 0, none⟩) (Kd.zT HO254.out BK261.out (by decide)) (fun _ hk => hk.2) (.slice Ao37 t255.length co37)) (fun _ hk => hk.2) (.slice Ao42 t258.length co42)) (fun _ hk => ⟨hk.1.1.2, hk.1.2⟩)))⟩; have n6_ : zA (Kd.R k48 48 w43 w.heap.size (fun k_ => some k_ ≠ (.slice Ao17 t236.length co17 : Value).ownBlock ∧ k_ ≠ gb234 ∧ k_ ≠ gb235) (.slice Ao37 t255.length co37) t255) := ⟨(by rw [hw]; exact (by (with_reducible repeat (first | apply Kd.zG | apply Kd.zH | apply Kd.zI)); exact Kd.zS (Kd.zP (p := ⟨gb261, 1, none⟩) (Kd.zP (p := ⟨gb261, 0, none⟩) (Kd.zT HO257.out BK261.out (by decide)) (fun _ hk => hk.2) (.slice Ao37 t255.length co37)) (fun _ hk => hk.2) (.slice Ao42 t258.length co42)) (fun _ hk => ⟨hk.1.1.1.2, ⟨hk.1.1.2, hk.1.2⟩⟩)))⟩; have n7_ : zA (Kd.R (Kd.int .u8) 53 w43 w.heap.size (fun k_ => some k_ ≠ (.slice Ao21 t239.length co21 : Value).ownBlock ∧ some k_ ≠ (.slice Ao32 y246.length co32 : Value).ownBlock ∧ some k_ ≠ (.slice Ao33 y249.length co33 : Value).ownBlock ∧ k_ ≠ gb234 ∧ k_ ≠ gb235) (.slice Ao42 t258.length co42) t258) := ⟨(by rw [hw]; exact (by (with_reducible repeat (first | apply Kd.zG | apply Kd.zH | apply Kd.zI)); exact Kd.zS (Kd.zP (p := ⟨gb261, 1, none⟩) (Kd.zP (p := ⟨gb261, 0, none⟩) (Kd.zT HO260.out BK261.out (by decide)) (fun _ hk => hk.2) (.slice Ao37 t255.length co37)) (fun _ hk => hk.2) (.slice Ao42 t258.length co42)) (fun _ hk => ⟨hk.1.1.1.1.1.2, ⟨hk.1.1.1.1.2, ⟨hk.1.1.1.2, ⟨hk.1.1.2, hk.1.2⟩⟩⟩⟩)))⟩; have n8_ : zA (w43.heap[gb234]? = some (ob234)) := ⟨(by rw [hw]; exact (by (with_reducible repeat (first | refine zD ?_ _ | refine zC ?_ | refine zB ?_ _)); refine blk_farO ?_ NB234_261.out _; (with_reducible repeat (first | refine zD ?_ _ | refine zC ?_ | refine zB ?_ _)); refine blk_farO ?_ NB234_261.out _; (with_reducible repeat (first | refine zD ?_ _ | refine zC ?_ | refine zB ?_ _)); exact BK234.out))⟩; have n9_ : zA (w43.heap[gb235]? = some (ob235)) := ⟨(by rw [hw]; exact (by (with_reducible repeat (first | refine zD ?_ _ | refine zC ?_ | refine zB ?_ _)); refine blk_farO ?_ NB235_261.out _; (with_reducible repeat (first | refine zD ?_ _ | refine zC ?_ | refine zB ?_ _)); refine blk_farO ?_ NB235_261.out _; (with_reducible repeat (first | refine zD ?_ _ | refine zC ?_ | refine zB ?_ _)); exact BK235.out))⟩; have n10_ : zA (w43.heap[gb242]? = some (.cells #[.slice Ao17 t236.length co17, .slice Ao21 t239.length co21] 60 (0, 0))) := ⟨(by rw [hw]; exact (aB BK242))⟩; have n11_ : zA (w43.heap[gb261]? = some (.cells #[.slice Ao37 t255.length co37, .slice Ao42 t258.length co42] 60 (0, 0))) := ⟨(by rw [hw]; exact (by (with_reducible repeat (first | refine zD ?_ _ | refine zC ?_ | refine zB ?_ _)); refine blk_put (cs := #[.slice Ao37 t255.length co37, .slice none 0 0]) ?_ 1 _ rfl; (with_reducible repeat (first | refine zD ?_ _ | refine zC ?_ | refine zB ?_ _)); refine blk_put (cs := #[.slice none 0 0, .slice none 0 0]) ?_ 0 _ rfl; (with_reducible repeat (first | refine zD ?_ _ | refine zC ?_ | refine zB ?_ _)); exact BK261.out))⟩; have n12_ : zA (Below w.heap.size w w43) := ⟨(by rw [hw]; exact (aL HB))⟩; clear hw; clear HO238; clear HO241; clear HO245; clear HO248; clear HO251; clear HO254; clear HO257; clear HO260; clear BK234; clear BK235; clear BK242; clear BK261; clear HB; have HO238 := n0_; have HO241 := n1_; have HO245 := n2_; have HO248 := n3_; have HO251 := n4_; have HO254 := n5_; have HO257 := n6_; have HO260 := n7_; have BK234 := n8_; have BK235 := n9_; have BK242 := n10_; have BK261 := n11_; have HB := n12_; clear n0_ n1_ n2_ n3_ n4_ n5_ n6_ n7_ n8_ n9_ n10_ n11_ n12_; obtain ⟨hcz44_0, hcz44_1, hfz44_0, hfz44_1⟩ := aC2 BK242; have p262 : 0 ≤ (0 : Int) := (by omega); have q262 : 0 < (t239.length : Int) := aD; obtain ⟨ad262, e262, hx262_0⟩ := Kd.at_int (Kd.zN HO241.out).2.2 0 p262 q262; cases e262; have qi262 : (0 < t239.length) = True := eq_true (by omega); (try rw [show ((0 : Int)).toNat = 0 from rfl] at hx262_0); (try rw [Addr.add_zero'] at hx262_0); replace p262 := eq_true p262; replace q262 := eq_true q262) | (go_at_call 28; (with_reducible refine (items_Check.calls k _ _ t236 _ _ t239 true _ ?side1 ?side2 ?side3 ?side4 A8.out).mono ?_); (case side1 => exact aF HO238); (case side2 => exact (Kd.zN HO238.out).2.1); (case side3 => exact aF HO241); (case side4 => exact (Kd.zN HO241.out).2.1); rintro e w45 ⟨rfl, hb⟩; replace HO238 := zA.mk (Kd.zO (aR HO238) hb); replace HO241 := zA.mk (Kd.zO (aR HO241) hb); replace HO245 := zA.mk (Kd.zO (aR HO245) hb); replace HO248 := zA.mk (Kd.zO (aR HO248) hb); replace HO251 := zA.mk (Kd.zO (aR HO251) hb); replace HO254 := zA.mk (Kd.zO (aR HO254) hb); replace HO257 := zA.mk (Kd.zO (aR HO257) hb); replace HO260 := zA.mk (Kd.zO (aR HO260) hb); replace BK234 := zA.mk (zF (aB BK234) hb); replace BK235 := zA.mk (zF (aB BK235) hb); replace BK242 := zA.mk (zF (aB BK242) hb); replace BK261 := zA.mk (zF (aB BK261) hb); replace HB := zA.mk (below_step (aL HB) hb); (try clear hb); (try clear hb2); (try clear hk); (try clear hi); obtain ⟨hcz46_0, hcz46_1, hfz46_0, hfz46_1⟩ := aC2 BK261; have p264 : 0 ≤ (1 : Int) := (by omega); have q264 : 1 < (t258.length : Int) := aD; obtain ⟨ad264, e264, hx264_0⟩ := Kd.at_int (Kd.zN HO260.out).2.2 1 p264 q264; cases e264; (try simp only [show (1 : Int).toNat = 1 from rfl, Nat.reduceMul, Nat.reduceEqDiff, Go.Addr.add, ↓reduceIte] at hx264_0); have qi264 : (1 < t258.length) = True := eq_true (by omega); (try rw [show ((1 : Int)).toNat = 1 from rfl] at hx264_0); replace p264 := eq_true p264; replace q264 := eq_true q264) | (go_at_call 30; (with_reducible refine (items_Parts.calls k _ _ t255 _ _ t258 t265 _ ?side1 ?side2 ?side3 ?side4 A13.out).mono ?_); (case side1 => exact aF HO257); (case side2 => exact (Kd.zN HO257.out).2.1); (case side3 => exact aF HO260); (case side4 => exact (Kd.zN HO260.out).2.1); rintro e w47 ⟨v266, rfl, ho0, hb⟩; replace HO238 := zA.mk (Kd.zO (aR HO238) hb); replace HO241 := zA.mk (Kd.zO (aR HO241) hb); replace HO245 := zA.mk (Kd.zO (aR HO245) hb); replace HO248 := zA.mk (Kd.zO (aR HO248) hb); replace HO251 := zA.mk (Kd.zO (aR HO251) hb); replace HO254 := zA.mk (Kd.zO (aR HO254) hb); replace HO257 := zA.mk (Kd.zO (aR HO257) hb); replace HO260 := zA.mk (Kd.zO (aR HO260) hb); have HO267 := zA.mk (Kd.zR (Kd.R_newB (Kd.R_newB ho0 (g := gb234) (o := ob234) (aB BK234)) (g := gb235) (o := ob235) (aB BK235)) (below_size (aL HB))); replace BK234 := zA.mk (zF (aB BK234) hb); replace BK235 := zA.mk (zF (aB BK235) hb); replace BK242 := zA.mk (zF (aB BK242) hb); replace BK261 := zA.mk (zF (aB BK261) hb); replace HB := zA.mk (below_step (aL HB) hb); (try clear hb); (try clear hb2); (try clear hk); (try clear hi); (try clear ho0); obtain ⟨Ao48, co48, eo48⟩ := Kd.zQ HO267.out; subst eo48))
 go_ret
 exact ⟨aX, aL HB⟩
def items_Bytes.l0 : Nat → Int → List (S48) → Int → Int → Option (Int)
 | 0, _, _, _, _ => none
 | k + 1, x3, x7, x8, x9 => if x9 < x8 then (if 0 ≤ x9 then (if x9 < (x7.length : Int) then (items_Bytes.l0 k (wrap64 (x3 + ((rd_T48 x7 x9).f1))) x7 x8 (wrap64 (x9 + 1))) else (none)) else (none)) else (some x3)
def items_Bytes.f (k : Nat) (l0_0 : List (S48)) (l0_1 : List Int) : Option (Int) := items_Bytes.l0 k 0 l0_0 (l0_0.length : Int) 0
theorem items_Bytes.mono_l : ∀ k, (∀ y0 y1 y2 y3, LeO (items_Bytes.l0 k y0 y1 y2 y3) (items_Bytes.l0 (k + 1) y0 y1 y2 y3))
 | 0 => fun _ _ _ _ r h => by simp [items_Bytes.l0] at h
 | k + 1 => by
  have ih0 := items_Bytes.mono_l k
  ·intro y0 y1 y2 y3
   unfold items_Bytes.l0
   repeat' (with_reducible first | exact ih0 _ _ _ _ | exact LeO.refl _ | exact LeO.none _ | refine LeO.ite ?_ ?_ | refine LeO.bind ?_ (fun _ => ?_))
theorem items_Bytes.mono : ∀ a0 a1 k, LeO (items_Bytes.f k a0 a1) (items_Bytes.f (k + 1) a0 a1) := by
 intro a0 a1 k
 have ih0 := items_Bytes.mono_l k; unfold items_Bytes.f
 repeat' (with_reducible first | exact ih0 _ _ _ _ | exact LeO.refl _ | exact LeO.none _ | refine LeO.ite ?_ ?_ | refine LeO.bind ?_ (fun _ => ?_))
set_option maxHeartbeats 8000000 in
set_option maxRecDepth 100000 in
theorem items_Bytes.calls (k : Nat) (A0_0 : Option Addr) (c0_0 : Nat) (l0_0 : List (S48)) (A0_1 : Option Addr) (c0_1 : Nat) (l0_1 : List Int) (r : Int) (w : World) (hr0_0 : Kd.C k48 w A0_0 l0_0.length l0_0) (hc0_0 : l0_0.length ≤ c0_0) (hr0_1 : Kd.C (Kd.int .u8) w A0_1 l0_1.length l0_1) (hc0_1 : l0_1.length ≤ c0_1) (h : items_Bytes.f k l0_0 l0_1 = some r) :
  Calls Try.prog 31 #[.agg #[.slice A0_0 l0_0.length c0_0, .slice A0_1 l0_1.length c0_1]] w fun e w' => e = .returned (.int .i64 r) ∧ Below w.heap.size w w' := by
 have hu60 := Try.underlying60; have hu48 := Try.underlying48; have HR0_0 := zA.mk hr0_0; have HC0_0 := zA.mk hc0_0; clear hr0_0 hc0_0; have HR0_1 := zA.mk hr0_1; have HC0_1 := zA.mk hc0_1; clear hr0_1 hc0_1; have HB := zA.mk (Below.refl w.heap.size w); have H : (items_Bytes.l0 k 0 l0_0 (l0_0.length : Int) 0) = some r := h
 clear h; have H' := zA.mk H
 clear H; go_enter Try.func31, Try.ntmps31
 go_wp2_with (first | ((with_reducible refine gate_dst (N := 1) rfl ?_); refine box_event ?hg (N := 1) ?hd (cs := #[.slice A0_0 l0_0.length c0_0, .slice A0_1 l0_1.length c0_1]) (t := 60) ?hr ?_; (case hd => rfl); (case hg => rfl); (case hr => first | (go_simp; done) | (go_simp; rfl)); intro gb268 hg w2 hbox hb; have BK268 := zA.mk (hbox); have GW268 := zA.mk ((by rw [hg]; exact (below_size (aL HB)) : w.heap.size ≤ gb268)); replace HB := zA.mk (below_step (aL HB) hb); have GE268 := GW268; clear hb hbox hg; obtain ⟨hcz3_0, hcz3_1, hfz3_0, hfz3_1⟩ := aC2 BK268))
 go_loopg [3, 9] k (fun kq v3 v9 w' => ∃ (x3_1 : Int) (x9_1 : Int), v3 = .int .i64 x3_1 ∧ v9 = .int .i64 x9_1 ∧ zA (items_Bytes.l0 kq x3_1 l0_0 (l0_0.length : Int) x9_1 = some r) ∧ zA (kq ≤ k) ∧ zA (w'.heap[gb268]? = some (.cells #[(.slice A0_0 l0_0.length c0_0), (.slice A0_1 l0_1.length c0_1)] 60 (0, 0))) ∧ zA (Below w.heap.size w w'))
 case atStart => exact ⟨(0), (0), aZ, aZ, H', ⟨Nat.le_refl _⟩, ⟨aB BK268⟩, ⟨aL HB⟩⟩
 clear H'; obtain ⟨x3_1, x9_1, rfl, rfl, HA, HK1, BK268, HB⟩ := hrel; cases gk with
 | zero => exact absurd HA.out (by simp [items_Bytes.l0])
 | succ k1 =>
  have H := HA.out; clear HA; simp only [items_Bytes.l0] at H; by_cases c4 : x9_1 < (l0_0.length : Int)
  rotate_left
  ·rw [if_neg c4] at H
   have c4b0 : decide (x9_1 < (l0_0.length : Int)) = false := decide_eq_false c4
   clear c4; obtain rfl := Option.some.inj H
   go_wp2
   go_ret
   exact ⟨aX, aL HB⟩
  rw [if_pos c4] at H; have c4b0 : decide (x9_1 < (l0_0.length : Int)) = true := decide_eq_true c4
  clear c4; by_cases c5 : 0 ≤ x9_1
  rotate_left
  ·rw [if_neg c5] at H
   exact absurd H (by simp)
  rw [if_pos c5] at H; have c5b0 : decide (0 ≤ x9_1) = true := decide_eq_true c5
  clear c5; by_cases c6 : x9_1 < (l0_0.length : Int)
  rotate_left
  ·rw [if_neg c6] at H
   exact absurd H (by simp)
  rw [if_pos c6] at H; have c6b0 : decide (x9_1 < (l0_0.length : Int)) = true := decide_eq_true c6
  clear c6; have H' := zA.mk H
  clear H; have p269 : 0 ≤ (x9_1 : Int) := aD
  have q269 : x9_1 < (l0_0.length : Int) := aD
  obtain ⟨ad269, e269, hx269_0, hx269_1, hx269_2, hx269_3⟩ := at_T48 HR0_0.out x9_1 p269 q269; cases e269
  replace hx269_0 := (HB.out.cell (World.block_lt_of_cell? w _ hx269_0)).trans hx269_0; replace hx269_1 := (HB.out.cell (World.block_lt_of_cell? w _ hx269_1)).trans hx269_1; replace hx269_2 := (HB.out.cell (World.block_lt_of_cell? w _ hx269_2)).trans hx269_2; replace hx269_3 := (HB.out.cell (World.block_lt_of_cell? w _ hx269_3)).trans hx269_3; replace p269 := eq_true p269; replace q269 := eq_true q269; go_wp2_with (first | ((with_reducible refine gate_dst (N := 5) rfl ?_); refine box_event ?hg (N := 5) ?hd (cs := #[.int .i64 0, .int .i64 0, .int .i64 0, .int .u8 0]) (t := 48) ?hr ?_; (case hd => rfl); (case hg => rfl); (case hr => first | (go_simp; done) | (go_simp; rfl)); intro gb270 hg w7 hbox hb; have BK270 := zA.mk (hbox); have GW270 := zA.mk ((by rw [hg]; exact (below_size (aL HB)) : w.heap.size ≤ gb270)); replace HB := zA.mk (below_step (aL HB) hb); have GE270 := GW270; have NB268_270 := zA.mk ((by rw [hg]; exact Nat.ne_of_lt (blk_lt (aB BK268)) : gb268 ≠ gb270)); have NB270_268 := zA.mk ((by rw [hg]; exact Nat.ne_of_gt (blk_lt (g := gb268) (o := .cells #[.slice (some ad269) l0_0.length c0_0, .slice A0_1 l0_1.length c0_1] 60 (0, 0)) (aB BK268)) : gb270 ≠ gb268)); replace BK268 := zA.mk (zF (aB BK268) hb); clear hb hbox hg; have hnb8 := NB270_268.out; have hnc8 := NB268_270.out; obtain ⟨hcz9_0, hcz9_1, hcz9_2, hcz9_3, hfz9_0, hfz9_1, hfz9_2, hfz9_3⟩ := aC4 BK270) | ((with_reducible refine gate_store (t := 48) (p := 5) rfl ?_); refine store_event (t := 48) (p := 5) (v := ?vo_w10) (w1 := ((((w7.setCell ⟨gb270, 0, none⟩ (.int .i64 ((rd_T48 l0_0 x9_1).f0))).setCell ⟨gb270, 1, none⟩ (.int .i64 ((rd_T48 l0_0 x9_1).f1))).setCell ⟨gb270, 2, none⟩ (.int .i64 ((rd_T48 l0_0 x9_1).f2))).setCell ⟨gb270, 3, none⟩ (.int .u8 ((rd_T48 l0_0 x9_1).f3)))) ?hg ?ho ?hn ?hr ?_; (case ho => rfl); (case hg => rfl); (case hn => rfl); (case hr => first | (go_simp; done) | (go_simp; rfl)); intro w10 hw; have n0_ : zA (w10.heap[gb268]? = some (.cells #[.slice (some ad269) l0_0.length c0_0, .slice A0_1 l0_1.length c0_1] 60 (0, 0))) := ⟨(by rw [hw]; exact (aB BK268))⟩; have n1_ : zA (w10.heap[gb270]? = some (.cells #[.int .i64 ((rd_T48 l0_0 x9_1).f0), .int .i64 ((rd_T48 l0_0 x9_1).f1), .int .i64 ((rd_T48 l0_0 x9_1).f2), .int .u8 ((rd_T48 l0_0 x9_1).f3)] 48 (0, 0))) := ⟨(by rw [hw]; exact (by (with_reducible repeat (first | refine zD ?_ _ | refine zC ?_ | refine zB ?_ _)); refine blk_put (cs := #[.int .i64 ((rd_T48 l0_0 x9_1).f0), .int .i64 ((rd_T48 l0_0 x9_1).f1), .int .i64 ((rd_T48 l0_0 x9_1).f2), .int .u8 0]) ?_ 3 _ rfl; (with_reducible repeat (first | refine zD ?_ _ | refine zC ?_ | refine zB ?_ _)); refine blk_put (cs := #[.int .i64 ((rd_T48 l0_0 x9_1).f0), .int .i64 ((rd_T48 l0_0 x9_1).f1), .int .i64 0, .int .u8 0]) ?_ 2 _ rfl; (with_reducible repeat (first | refine zD ?_ _ | refine zC ?_ | refine zB ?_ _)); refine blk_put (cs := #[.int .i64 ((rd_T48 l0_0 x9_1).f0), .int .i64 0, .int .i64 0, .int .u8 0]) ?_ 1 _ rfl; (with_reducible repeat (first | refine zD ?_ _ | refine zC ?_ | refine zB ?_ _)); refine blk_put (cs := #[.int .i64 0, .int .i64 0, .int .i64 0, .int .u8 0]) ?_ 0 _ rfl; (with_reducible repeat (first | refine zD ?_ _ | refine zC ?_ | refine zB ?_ _)); exact BK270.out))⟩; have n2_ : zA (Below w.heap.size w w10) := ⟨(by rw [hw]; exact (aL HB))⟩; clear hw; clear BK268; clear BK270; clear HB; have BK268 := n0_; have BK270 := n1_; have HB := n2_; clear n0_ n1_ n2_; obtain ⟨hcz11_0, hcz11_1, hcz11_2, hcz11_3, hfz11_0, hfz11_1, hfz11_2, hfz11_3⟩ := aC4 BK270))
  go_roundg k1
  case measure => have := HK1.out; omega
  case rel => exact ⟨(wrap64 (x3_1 + ((rd_T48 l0_0 x9_1).f1))), (wrap64 (x9_1 + 1)), aZ, aZ, H', ⟨by have := HK1.out; omega⟩, ⟨aB BK268⟩, ⟨aL HB⟩⟩
mutual
def stanzalaw11_ItemsRight.l0 : Nat → Option (List (Int × Int × Int)) → List Int → List Int → Int → Int → List Int → List Int → List Int → List Bool → List (S45) → Option (Bool)
 | 0, _, _, _, _, _, _, _, _, _, _ => none
 | k + 1, x3, x5, x6, x34, x35, x272000, x272001, x272002, x272003, x272004 => if x35 < x34 then (if 0 ≤ x35 then (if x35 < (x6.length : Int) then (stanzalaw11_ItemsRight.l0 k x3 x5 (x6.set (x35 : Int).toNat (Int.tmod (rd x6 x35) 3)) x34 (wrap64 (x35 + 1)) x272000 x272001 x272002 x272003 x272004) else (none)) else (none)) else ((stanzaref01_All.f k x5).bind fun t287 => ((h3_Opps.f k x272001).bind fun t290 => ((items_Make.f k t287 t290 x6 x272003 x3).bind fun bt293 => ((items_Parts.f k bt293.1 bt293.2).bind fun t300 => ((items_Check.f k bt293.1 bt293.2).bind fun t303 => (if t303 = true then ((items_Bytes.f k bt293.1 bt293.2).bind fun t304 => (if t304 = (x5.length : Int) then (if (t300.length : Int) = 0 then (stanzalaw11_ItemsRight.j1 k t300 true bt293.1 bt293.2) else (if 0 ≤ (wrap64 ((t300.length : Int) - 1)) then (if (wrap64 ((t300.length : Int) - 1)) < (t300.length : Int) then (stanzalaw11_ItemsRight.j1 k t300 ((rd t300 (wrap64 ((t300.length : Int) - 1))) != (bt293.1.length : Int)) bt293.1 bt293.2) else (none)) else (none))) else (stanzalaw11_ItemsRight.j1 k t300 true bt293.1 bt293.2))) else (stanzalaw11_ItemsRight.j1 k t300 true bt293.1 bt293.2)))))))
def stanzalaw11_ItemsRight.j1 : Nat → List Int → Bool → List (S48) → List Int → Option (Bool)
 | 0, _, _, _, _ => none
 | k + 1, x9, x83, x300000, x300001 => if x83 = true then (some false) else (stanzalaw11_ItemsRight.l1 k x9 x9 (x9.length : Int) 0 x300000 x300001)
def stanzalaw11_ItemsRight.l1 : Nat → List Int → List Int → Int → Int → List (S48) → List Int → Option (Bool)
 | 0, _, _, _, _, _, _ => none
 | k + 1, x9, x84, x85, x86, x300000, x300001 => if x86 < x85 then (if 0 ≤ x86 then (if x86 < (x84.length : Int) then (if 0 ≤ (rd x84 x86) then (if (rd x84 x86) < (x300001.length : Int) then (if (rd x300001 (rd x84 x86)) = 2 then (if x86 > 0 then (if 0 ≤ (wrap64 (x86 - 1)) then (if (wrap64 (x86 - 1)) < (x9.length : Int) then (if (rd x84 x86) ≤ (rd x9 (wrap64 (x86 - 1))) then (some false) else (stanzalaw11_ItemsRight.l1 k x9 x84 x85 (wrap64 (x86 + 1)) x300000 x300001)) else (none)) else (none)) else (stanzalaw11_ItemsRight.l1 k x9 x84 x85 (wrap64 (x86 + 1)) x300000 x300001)) else (some false)) else (none)) else (none)) else (none)) else (none)) else (some true)
end
def stanzalaw11_ItemsRight.f (k : Nat) (l0_0 : List Int) (l0_1 : List Int) (l0_2 : List Int) (l0_3 : List Bool) (l0_4 : List (S45)) : Option (Bool) := (stanzalaw11_Awake.f k).bind fun t272 => (if t272 = true then (if (l0_0.length : Int) > 500 then (some true) else ((stanzalaw02_Right.f k l0_4 3).bind fun t273 => (if prop_Make.c t273 3 = true then ((prop_MakeY.f t273 3).bind fun t278 => ((h3_Words.f k l0_0).bind fun t279 => ((h3_Opps.f k l0_2).bind fun t282 => (stanzalaw11_ItemsRight.l0 k t278 t279 t282 (t282.length : Int) 0 l0_0 l0_1 l0_2 l0_3 l0_4)))) else ((prop_MakeN.f t273 3).bind fun _ => (some false))))) else (some false))
theorem stanzalaw11_ItemsRight.mono_l : ∀ k, (∀ y0 y1 y2 y3 y4 y5 y6 y7 y8 y9, LeO (stanzalaw11_ItemsRight.l0 k y0 y1 y2 y3 y4 y5 y6 y7 y8 y9) (stanzalaw11_ItemsRight.l0 (k + 1) y0 y1 y2 y3 y4 y5 y6 y7 y8 y9)) ∧ (∀ y0 y1 y2 y3, LeO (stanzalaw11_ItemsRight.j1 k y0 y1 y2 y3) (stanzalaw11_ItemsRight.j1 (k + 1) y0 y1 y2 y3)) ∧ (∀ y0 y1 y2 y3 y4 y5, LeO (stanzalaw11_ItemsRight.l1 k y0 y1 y2 y3 y4 y5) (stanzalaw11_ItemsRight.l1 (k + 1) y0 y1 y2 y3 y4 y5))
 | 0 => ⟨fun _ _ _ _ _ _ _ _ _ _ r h => by simp [stanzalaw11_ItemsRight.l0] at h, fun _ _ _ _ r h => by simp [stanzalaw11_ItemsRight.j1] at h, fun _ _ _ _ _ _ r h => by simp [stanzalaw11_ItemsRight.l1] at h⟩
 | k + 1 => by
  obtain ⟨ih0, ih1, ih2⟩ := stanzalaw11_ItemsRight.mono_l k; refine ⟨?_, ?_, ?_⟩
  ·intro y0 y1 y2 y3 y4 y5 y6 y7 y8 y9
   unfold stanzalaw11_ItemsRight.l0
   repeat' (with_reducible first | exact ih0 _ _ _ _ _ _ _ _ _ _ | exact ih1 _ _ _ _ | exact ih2 _ _ _ _ _ _ | exact items_Bytes.mono _ _ _ | exact items_Check.mono _ _ _ | exact items_Make.mono _ _ _ _ _ _ | exact items_Parts.mono _ _ _ | exact h3_Opps.mono _ _ | exact h3_Words.mono _ _ | exact stanzalaw02_Right.mono _ _ _ | exact stanzalaw11_Awake.mono _ | exact stanzaref01_All.mono _ _ | exact LeO.refl _ | exact LeO.none _ | refine LeO.ite ?_ ?_ | refine LeO.bind ?_ (fun _ => ?_))
  ·intro y0 y1 y2 y3
   unfold stanzalaw11_ItemsRight.j1
   repeat' (with_reducible first | exact ih0 _ _ _ _ _ _ _ _ _ _ | exact ih1 _ _ _ _ | exact ih2 _ _ _ _ _ _ | exact items_Bytes.mono _ _ _ | exact items_Check.mono _ _ _ | exact items_Make.mono _ _ _ _ _ _ | exact items_Parts.mono _ _ _ | exact h3_Opps.mono _ _ | exact h3_Words.mono _ _ | exact stanzalaw02_Right.mono _ _ _ | exact stanzalaw11_Awake.mono _ | exact stanzaref01_All.mono _ _ | exact LeO.refl _ | exact LeO.none _ | refine LeO.ite ?_ ?_ | refine LeO.bind ?_ (fun _ => ?_))
  ·intro y0 y1 y2 y3 y4 y5
   unfold stanzalaw11_ItemsRight.l1
   repeat' (with_reducible first | exact ih0 _ _ _ _ _ _ _ _ _ _ | exact ih1 _ _ _ _ | exact ih2 _ _ _ _ _ _ | exact items_Bytes.mono _ _ _ | exact items_Check.mono _ _ _ | exact items_Make.mono _ _ _ _ _ _ | exact items_Parts.mono _ _ _ | exact h3_Opps.mono _ _ | exact h3_Words.mono _ _ | exact stanzalaw02_Right.mono _ _ _ | exact stanzalaw11_Awake.mono _ | exact stanzaref01_All.mono _ _ | exact LeO.refl _ | exact LeO.none _ | refine LeO.ite ?_ ?_ | refine LeO.bind ?_ (fun _ => ?_))
theorem stanzalaw11_ItemsRight.mono : ∀ a0 a1 a2 a3 a4 k, LeO (stanzalaw11_ItemsRight.f k a0 a1 a2 a3 a4) (stanzalaw11_ItemsRight.f (k + 1) a0 a1 a2 a3 a4) := by
 intro a0 a1 a2 a3 a4 k
 obtain ⟨ih0, ih1, ih2⟩ := stanzalaw11_ItemsRight.mono_l k; unfold stanzalaw11_ItemsRight.f
 repeat' (with_reducible first | exact ih0 _ _ _ _ _ _ _ _ _ _ | exact ih1 _ _ _ _ | exact ih2 _ _ _ _ _ _ | exact items_Bytes.mono _ _ _ | exact items_Check.mono _ _ _ | exact items_Make.mono _ _ _ _ _ _ | exact items_Parts.mono _ _ _ | exact h3_Opps.mono _ _ | exact h3_Words.mono _ _ | exact stanzalaw02_Right.mono _ _ _ | exact stanzalaw11_Awake.mono _ | exact stanzaref01_All.mono _ _ | exact LeO.refl _ | exact LeO.none _ | refine LeO.ite ?_ ?_ | refine LeO.bind ?_ (fun _ => ?_))
def stanzalaw11_ItemsRight.T15 : Bool × List (List Nat × List Nat) := (true, [([], []), ([0], [0]), ([], []), ([2], [2]), ([3, 1], [3]), ([], []), ([], []), ([6], [6]), ([], []), ([1, 4, 5, 7, 8, 4], [1, 4, 5, 7, 8]), ([], []), ([10, 9, 9, 0, 1, 2, 3, 4, 5, 6, 7, 8, 9, 10], [9, 10])])
def stanzalaw11_ItemsRight.B15 : List Nat := [0, 1, 0, 4, 15, 0, 0, 64, 0, 511, 0, 2047]
theorem stanzalaw11_ItemsRight.tab15 : rtab .any (opsOf Try.f10 15) = stanzalaw11_ItemsRight.T15 := by kernel_rfl
theorem stanzalaw11_ItemsRight.bits15 : waitsOk stanzalaw11_ItemsRight.T15.2 stanzalaw11_ItemsRight.B15 = true := by kernel_rfl
def stanzalaw11_ItemsRight.T17 : Bool × List (List Nat × List Nat) := (true, [([], []), ([0], [0]), ([1], [1]), ([2, 1], [2]), ([3], [3]), ([4, 3, 3], [3, 4]), ([3], [3]), ([6, 3], [3, 6]), ([5, 7, 3], [3, 5, 7]), ([3, 8], [3, 8]), ([9, 5], [9]), ([10], [10]), ([11, 10], [10, 11]), ([12, 10], [10, 12]), ([10, 13], [10, 13]), ([14, 10], [14]), ([15], [15]), ([15], [15]), ([17, 15], [15, 17]), ([18, 15], [15, 18]), ([16, 19, 15], [15, 16, 19]), ([20, 15], [15, 20]), ([15], [15]), ([22, 15], [15, 22]), ([23, 15], [15, 23]), ([21, 24, 15], [15, 21, 24]), ([15, 25], [15, 25])])
def stanzalaw11_ItemsRight.B17 : List Nat := [0, 1, 3, 7, 15, 31, 15, 79, 255, 511, 1023, 2047, 4095, 8191, 16383, 32767, 65535, 65535, 196607, 458751, 1048575, 2097151, 65535, 4259839, 12648447, 33554431, 67108863]
theorem stanzalaw11_ItemsRight.tab17 : rtab .any (opsOf Try.f10 17) = stanzalaw11_ItemsRight.T17 := by kernel_rfl
theorem stanzalaw11_ItemsRight.bits17 : waitsOk stanzalaw11_ItemsRight.T17.2 stanzalaw11_ItemsRight.B17 = true := by kernel_rfl
set_option maxHeartbeats 8000000 in
set_option maxRecDepth 100000 in
theorem stanzalaw11_ItemsRight.calls (k : Nat) (A0_0 : Option Addr) (c0_0 : Nat) (l0_0 : List Int) (A0_1 : Option Addr) (c0_1 : Nat) (l0_1 : List Int) (A0_2 : Option Addr) (c0_2 : Nat) (l0_2 : List Int) (A0_3 : Option Addr) (c0_3 : Nat) (l0_3 : List Bool) (A0_4 : Option Addr) (c0_4 : Nat) (l0_4 : List (S45)) (r : Bool) (w : World) (hr0_0 : Kd.C (Kd.int .u8) w A0_0 l0_0.length l0_0) (hc0_0 : l0_0.length ≤ c0_0) (hr0_1 : Kd.C (Kd.int .u8) w A0_1 l0_1.length l0_1) (hc0_1 : l0_1.length ≤ c0_1) (hr0_2 : Kd.C (Kd.int .u8) w A0_2 l0_2.length l0_2) (hc0_2 : l0_2.length ≤ c0_2) (hr0_3 : Kd.C Kd.bool w A0_3 l0_3.length l0_3) (hc0_3 : l0_3.length ≤ c0_3) (hr0_4 : Kd.C k45 w A0_4 l0_4.length l0_4) (hc0_4 : l0_4.length ≤ c0_4) (h : stanzalaw11_ItemsRight.f k l0_0 l0_1 l0_2 l0_3 l0_4 = some r) (hrt_ : zA (r = true)) :
  Calls Try.prog 10 #[.agg #[.slice A0_0 l0_0.length c0_0, .slice A0_1 l0_1.length c0_1, .slice A0_2 l0_2.length c0_2, .slice A0_3 l0_3.length c0_3, .slice A0_4 l0_4.length c0_4]] w fun e w' => e = .returned (.bool r) ∧ Below w.heap.size w w' := by
 have hu58 := Try.underlying58; have hu60 := Try.underlying60; have HR0_0 := zA.mk hr0_0; have HC0_0 := zA.mk hc0_0; clear hr0_0 hc0_0; have HR0_1 := zA.mk hr0_1; have HC0_1 := zA.mk hc0_1; clear hr0_1 hc0_1; have HR0_2 := zA.mk hr0_2; have HC0_2 := zA.mk hc0_2; clear hr0_2 hc0_2; have HR0_3 := zA.mk hr0_3; have HC0_3 := zA.mk hc0_3; clear hr0_3 hc0_3; have HR0_4 := zA.mk hr0_4; have HC0_4 := zA.mk hc0_4; clear hr0_4 hc0_4; have HB := zA.mk (Below.refl w.heap.size w); have H : ((stanzalaw11_Awake.f k).bind fun t272 => (if t272 = true then (if (l0_0.length : Int) > 500 then (some true) else ((stanzalaw02_Right.f k l0_4 3).bind fun t273 => (if prop_Make.c t273 3 = true then ((prop_MakeY.f t273 3).bind fun t278 => ((h3_Words.f k l0_0).bind fun t279 => ((h3_Opps.f k l0_2).bind fun t282 => (stanzalaw11_ItemsRight.l0 k t278 t279 t282 (t282.length : Int) 0 l0_0 l0_1 l0_2 l0_3 l0_4)))) else ((prop_MakeN.f t273 3).bind fun _ => (some false))))) else (some false))) = some r := h
 clear h; replace H := Option.bind_eq_some_iff.mp H; obtain ⟨t272, A20, H⟩ := H; replace H : (if t272 = true then (if (l0_0.length : Int) > 500 then (some true) else ((stanzalaw02_Right.f k l0_4 3).bind fun t273 => (if prop_Make.c t273 3 = true then ((prop_MakeY.f t273 3).bind fun t278 => ((h3_Words.f k l0_0).bind fun t279 => ((h3_Opps.f k l0_2).bind fun t282 => (stanzalaw11_ItemsRight.l0 k t278 t279 t282 (t282.length : Int) 0 l0_0 l0_1 l0_2 l0_3 l0_4)))) else ((prop_MakeN.f t273 3).bind fun _ => (some false))))) else (some false)) = some r := H
 have A2 := zA.mk A20; clear A20; by_cases c3 : t272 = true
 rotate_left
 ·replace c3 := Bool.eq_false_iff.mpr c3
  subst c3; have H1 : (some false) = some r := by rw [if_neg (show ¬ (false = true) by decide)] at H; exact H
  clear H; have H := H1; clear H1; exact absurd ((Option.some.inj H).trans hrt_.out) (by decide)
 subst c3; have H1 : (if (l0_0.length : Int) > 500 then (some true) else ((stanzalaw02_Right.f k l0_4 3).bind fun t273 => (if prop_Make.c t273 3 = true then ((prop_MakeY.f t273 3).bind fun t278 => ((h3_Words.f k l0_0).bind fun t279 => ((h3_Opps.f k l0_2).bind fun t282 => (stanzalaw11_ItemsRight.l0 k t278 t279 t282 (t282.length : Int) 0 l0_0 l0_1 l0_2 l0_3 l0_4)))) else ((prop_MakeN.f t273 3).bind fun _ => (some false))))) = some r := by rw [if_pos rfl] at H; exact H
 clear H; have H := H1; clear H1; by_cases c4 : (l0_0.length : Int) > 500
 ·rw [if_pos c4] at H
  have c4b0 : decide (500 < (l0_0.length : Int)) = true := decide_eq_true c4
  have c4b1 : decide (500 < l0_0.length) = true := decide_eq_true (by omega)
  clear c4; obtain rfl := Option.some.inj H
  go_enter Try.func10, Try.ntmps10
  go_wp2_with (first | ((with_reducible refine gate_dst (N := 1) rfl ?_); (try (refine gate_guard (by rfl) ?_; dsimp only)); refine box_event ?hg (N := 1) ?hd (cs := #[.slice A0_0 l0_0.length c0_0, .slice A0_1 l0_1.length c0_1, .slice A0_2 l0_2.length c0_2, .slice A0_3 l0_3.length c0_3, .slice A0_4 l0_4.length c0_4]) (t := 58) ?hr ?_; (case hd => rfl); (case hg => rfl); (case hr => first | (go_simp; done) | (go_simp; rfl)); intro gb271 hg w5 hbox hb; have n0_ := zA.mk (below_step (aL HB) hb); have n1_ := zA.mk (hbox); have n2_ := zA.mk ((by rw [hg]; exact (below_size (aL HB)) : w.heap.size ≤ gb271)); have n3_ := zA.mk ((by rw [hg]; exact (below_size (aL HB)) : w.heap.size ≤ gb271)); clear HB; have HB := n0_; have BK271 := n1_; have GW271 := n2_; have GE271 := n3_; clear n0_ n1_ n2_ n3_; clear hb hbox hg) | ((with_reducible refine gate_callee (f := 23) rfl ?_); refine goesL_ (some 12) rfl rfl Try.func23 (by kernel_rfl) rfl #[] rfl aT ?_; (with_reducible refine (stanzalaw11_Awake.calls k  true _ A2.out (by first | exact ⟨rfl⟩ | exact hrt_)).mono ?_); rintro e w6 ⟨rfl, hb⟩; refine ⟨_, rfl, ?_⟩; have n0_ := zA.mk (zF (g := gb271) (o := .cells #[.slice A0_0 l0_0.length c0_0, .slice A0_1 l0_1.length c0_1, .slice A0_2 l0_2.length c0_2, .slice A0_3 l0_3.length c0_3, .slice A0_4 l0_4.length c0_4] 58 (0, 0)) (aB BK271) hb); have n1_ := zA.mk (below_step (aL HB) hb); clear BK271; clear HB; have BK271 := n0_; have HB := n1_; clear n0_ n1_; (try clear hb); (try clear hb2); (try clear hk); (try clear hi); obtain ⟨hcz7_0, hcz7_1, hcz7_2, hcz7_3, hcz7_4, hfz7_0, hfz7_1, hfz7_2, hfz7_3, hfz7_4⟩ := aC5 BK271))
  go_ret
  exact ⟨aX, aL HB⟩
 rw [if_neg c4] at H; have c4b0 : decide (500 < (l0_0.length : Int)) = false := decide_eq_false c4
 have c4b1 : decide (500 < l0_0.length) = false := decide_eq_false (by omega)
 clear c4; replace H := Option.bind_eq_some_iff.mp H; obtain ⟨t273, A80, H⟩ := H; replace H : (if prop_Make.c t273 3 = true then ((prop_MakeY.f t273 3).bind fun t278 => ((h3_Words.f k l0_0).bind fun t279 => ((h3_Opps.f k l0_2).bind fun t282 => (stanzalaw11_ItemsRight.l0 k t278 t279 t282 (t282.length : Int) 0 l0_0 l0_1 l0_2 l0_3 l0_4)))) else ((prop_MakeN.f t273 3).bind fun _ => (some false))) = some r := H
 have A8 := zA.mk A80; clear A80; by_cases c9 : prop_Make.c t273 3 = true
 rotate_left
 ·rw [if_neg c9] at H
  have c9b0 : prop_Make.c t273 3 = false := by simpa using c9
  clear c9; replace H := Option.bind_eq_some_iff.mp H; obtain ⟨_, A970, H⟩ := H; replace H : (some false) = some r := H; have A97 := zA.mk A970; clear A970; exact absurd ((Option.some.inj H).trans hrt_.out) (by decide)
 rw [if_pos c9] at H; have c9b0 : prop_Make.c t273 3 = true := c9
 clear c9; replace H := Option.bind_eq_some_iff.mp H; obtain ⟨t278, A100, H⟩ := H; replace H : ((h3_Words.f k l0_0).bind fun t279 => ((h3_Opps.f k l0_2).bind fun t282 => (stanzalaw11_ItemsRight.l0 k t278 t279 t282 (t282.length : Int) 0 l0_0 l0_1 l0_2 l0_3 l0_4))) = some r := H
 have A10 := zA.mk A100; clear A100; replace H := Option.bind_eq_some_iff.mp H; obtain ⟨t279, A110, H⟩ := H; replace H : ((h3_Opps.f k l0_2).bind fun t282 => (stanzalaw11_ItemsRight.l0 k t278 t279 t282 (t282.length : Int) 0 l0_0 l0_1 l0_2 l0_3 l0_4)) = some r := H
 have A11 := zA.mk A110; clear A110; replace H := Option.bind_eq_some_iff.mp H; obtain ⟨t282, A120, H⟩ := H; replace H : (stanzalaw11_ItemsRight.l0 k t278 t279 t282 (t282.length : Int) 0 l0_0 l0_1 l0_2 l0_3 l0_4) = some r := H; have A12 := zA.mk A120; clear A120; have H' := zA.mk H
 clear H; go_enter Try.func10, Try.ntmps10
 go_wp2_with (first | ((with_reducible refine gate_dst (N := 1) rfl ?_); (try (refine gate_guard (by rfl) ?_; dsimp only)); refine box_event ?hg (N := 1) ?hd (cs := #[.slice A0_0 l0_0.length c0_0, .slice A0_1 l0_1.length c0_1, .slice A0_2 l0_2.length c0_2, .slice A0_3 l0_3.length c0_3, .slice A0_4 l0_4.length c0_4]) (t := 58) ?hr ?_; (case hd => rfl); (case hg => rfl); (case hr => first | (go_simp; done) | (go_simp; rfl)); intro gb271 hg w13 hbox hb; have n0_ := zA.mk (below_step (aL HB) hb); have n1_ := zA.mk (hbox); have n2_ := zA.mk ((by rw [hg]; exact (below_size (aL HB)) : w.heap.size ≤ gb271)); have n3_ := zA.mk ((by rw [hg]; exact (below_size (aL HB)) : w.heap.size ≤ gb271)); clear HB; have HB := n0_; have BK271 := n1_; have GW271 := n2_; have GE271 := n3_; clear n0_ n1_ n2_ n3_; clear hb hbox hg) | ((with_reducible refine gate_callee (f := 23) rfl ?_); refine goesL_ (some 12) rfl rfl Try.func23 (by kernel_rfl) rfl #[] rfl aT ?_; (with_reducible refine (stanzalaw11_Awake.calls k  true _ A2.out (by first | exact ⟨rfl⟩ | exact hrt_)).mono ?_); rintro e w14 ⟨rfl, hb⟩; refine ⟨_, rfl, ?_⟩; have n0_ := zA.mk (zF (g := gb271) (o := .cells #[.slice A0_0 l0_0.length c0_0, .slice A0_1 l0_1.length c0_1, .slice A0_2 l0_2.length c0_2, .slice A0_3 l0_3.length c0_3, .slice A0_4 l0_4.length c0_4] 58 (0, 0)) (aB BK271) hb); have n1_ := zA.mk (below_step (aL HB) hb); clear BK271; clear HB; have BK271 := n0_; have HB := n1_; clear n0_ n1_; (try clear hb); (try clear hb2); (try clear hk); (try clear hi); obtain ⟨hcz15_0, hcz15_1, hcz15_2, hcz15_3, hcz15_4, hfz15_0, hfz15_1, hfz15_2, hfz15_3, hfz15_4⟩ := aC5 BK271) | ((with_reducible refine gate_callee (f := 13) rfl ?_); refine goesL_ (some 21) rfl rfl Try.func13 (by kernel_rfl) rfl #[.slice A0_4 l0_4.length c0_4, .int .i64 3] rfl aT ?_; (with_reducible refine (stanzalaw02_Right.calls k _ _ l0_4 3 t273 _ ?side1 ?side2 A8.out).mono ?_); (case side1 => exact aA HR0_4 HB); (case side2 => exact HC0_4.out); rintro e w16 ⟨v274, rfl, ho0, hb⟩; refine ⟨_, rfl, ?_⟩; have n0_ := zA.mk (Kd.zR ho0 (below_size (aL HB))); have n1_ := zA.mk (zF (g := gb271) (o := .cells #[.slice A0_0 l0_0.length c0_0, .slice A0_1 l0_1.length c0_1, .slice A0_2 l0_2.length c0_2, .slice A0_3 l0_3.length c0_3, .slice A0_4 l0_4.length c0_4] 58 (0, 0)) (aB BK271) hb); have n2_ := zA.mk (below_step (aL HB) hb); clear BK271; clear HB; have HO275 := n0_; have BK271 := n1_; have HB := n2_; clear n0_ n1_ n2_; (try clear hb); (try clear hb2); (try clear hk); (try clear hi); (try clear ho0); obtain ⟨Ao17, co17, eo17⟩ := Kd.zQ HO275.out; subst eo17) | ((with_reducible refine gate_callee (f := 14) rfl ?_); refine goesL_ (some 22) rfl rfl Try.func14 (by kernel_rfl) rfl #[.slice Ao17 t273.length co17, .int .i64 3] rfl aT ?_; (with_reducible refine (prop_MakeY.calls _ _ t273 3 t278 _ ?side1 ?side2 A10.out).mono ?_); (case side1 => exact aF HO275); (case side2 => exact (Kd.zN HO275.out).2.1); rintro e w18 ⟨gb277, ob277, gb278, ob278, rfl, hx1, hx2, hg1, hg2, hne, htb, hb⟩; refine ⟨_, rfl, ?_⟩; have n0_ := zA.mk (Kd.zO (Kd.R_elderB (Kd.R_elderB (aR HO275) gb277 hg1) gb278 hg2) hb); have n1_ := zA.mk (zF (g := gb271) (o := .cells #[.slice A0_0 l0_0.length c0_0, .slice A0_1 l0_1.length c0_1, .slice A0_2 l0_2.length c0_2, .slice A0_3 l0_3.length c0_3, .slice A0_4 l0_4.length c0_4] 58 (0, 0)) (aB BK271) hb); have n2_ := zA.mk (below_step (aL HB) hb); have n3_ := zA.mk (hx1); have n4_ := zA.mk ((Nat.le_trans (below_size (aL HB)) hg1 : w.heap.size ≤ gb277)); have n5_ := zA.mk ((Nat.le_trans (below_size (aL HB)) hg1 : w.heap.size ≤ gb277)); have n6_ := zA.mk (hne); have n7_ := zA.mk ((Nat.ne_of_lt (Nat.lt_of_lt_of_le (blk_lt (g := gb271) (o := .cells #[.slice A0_0 l0_0.length c0_0, .slice A0_1 l0_1.length c0_1, .slice A0_2 l0_2.length c0_2, .slice A0_3 l0_3.length c0_3, .slice A0_4 l0_4.length c0_4] 58 (0, 0)) (aB BK271)) hg1) : gb271 ≠ gb277)); have n8_ := zA.mk ((Nat.ne_of_gt (Nat.lt_of_lt_of_le (blk_lt (g := gb271) (o := .cells #[.slice A0_0 l0_0.length c0_0, .slice A0_1 l0_1.length c0_1, .slice A0_2 l0_2.length c0_2, .slice A0_3 l0_3.length c0_3, .slice A0_4 l0_4.length c0_4] 58 (0, 0)) (aB BK271)) hg1) : gb277 ≠ gb271)); have n9_ := zA.mk (hx2); have n10_ := zA.mk ((Nat.le_trans (below_size (aL HB)) hg2 : w.heap.size ≤ gb278)); have n11_ := zA.mk ((Nat.le_trans (below_size (aL HB)) hg2 : w.heap.size ≤ gb278)); have n12_ := zA.mk (Ne.symm hne); have n13_ := zA.mk ((Nat.ne_of_lt (Nat.lt_of_lt_of_le (blk_lt (g := gb271) (o := .cells #[.slice A0_0 l0_0.length c0_0, .slice A0_1 l0_1.length c0_1, .slice A0_2 l0_2.length c0_2, .slice A0_3 l0_3.length c0_3, .slice A0_4 l0_4.length c0_4] 58 (0, 0)) (aB BK271)) hg2) : gb271 ≠ gb278)); have n14_ := zA.mk ((Nat.ne_of_gt (Nat.lt_of_lt_of_le (blk_lt (g := gb271) (o := .cells #[.slice A0_0 l0_0.length c0_0, .slice A0_1 l0_1.length c0_1, .slice A0_2 l0_2.length c0_2, .slice A0_3 l0_3.length c0_3, .slice A0_4 l0_4.length c0_4] 58 (0, 0)) (aB BK271)) hg2) : gb278 ≠ gb271)); have n15_ := zA.mk (htb); clear HO275; clear BK271; clear HB; have HO275 := n0_; have BK271 := n1_; have HB := n2_; have BK277 := n3_; have GW277 := n4_; have GE277 := n5_; have NB277_278 := n6_; have NB271_277 := n7_; have NB277_271 := n8_; have BK278 := n9_; have GW278 := n10_; have GE278 := n11_; have NB278_277 := n12_; have NB271_278 := n13_; have NB278_271 := n14_; have HTt278 := n15_; clear n0_ n1_ n2_ n3_ n4_ n5_ n6_ n7_ n8_ n9_ n10_ n11_ n12_ n13_ n14_ n15_; clear hb hx1 hx2 hg1 hg2 hne htb; have hnb19 := NB271_277.out; have hnc19 := NB277_271.out; have hnb20 := NB271_278.out; have hnc20 := NB278_271.out; obtain ⟨hcz21_0, hcz21_1, hcz21_2, hcz21_3, hcz21_4, hfz21_0, hfz21_1, hfz21_2, hfz21_3, hfz21_4⟩ := aC5 BK271) | ((with_reducible refine gate_callee (f := 15) rfl ?_); refine goesL_ (some 29) rfl rfl Try.func15 (by kernel_rfl) rfl #[.slice A0_0 l0_0.length c0_0] rfl aT ?_; (with_reducible refine (h3_Words.calls k _ _ l0_0 t279 _ ?side1 ?side2 A11.out).mono ?_); (case side1 => exact aA HR0_0 HB); (case side2 => exact HC0_0.out); rintro e w22 ⟨v280, rfl, ho0, hb⟩; refine ⟨_, rfl, ?_⟩; have n0_ := zA.mk (Kd.zO (aR HO275) hb); have n1_ := zA.mk (Kd.zR (Kd.R_newB (Kd.R_newB ho0 (g := gb277) (o := ob277) (aB BK277)) (g := gb278) (o := ob278) (aB BK278)) (below_size (aL HB))); have n2_ := zA.mk (zF (g := gb271) (o := .cells #[.slice A0_0 l0_0.length c0_0, .slice A0_1 l0_1.length c0_1, .slice A0_2 l0_2.length c0_2, .slice A0_3 l0_3.length c0_3, .slice A0_4 l0_4.length c0_4] 58 (0, 0)) (aB BK271) hb); have n3_ := zA.mk (zF (g := gb277) (o := ob277) (aB BK277) hb); have n4_ := zA.mk (zF (g := gb278) (o := ob278) (aB BK278) hb); have n5_ := zA.mk (below_step (aL HB) hb); clear HO275; clear BK271; clear BK277; clear BK278; clear HB; have HO275 := n0_; have HO281 := n1_; have BK271 := n2_; have BK277 := n3_; have BK278 := n4_; have HB := n5_; clear n0_ n1_ n2_ n3_ n4_ n5_; (try clear hb); (try clear hb2); (try clear hk); (try clear hi); (try clear ho0); obtain ⟨hcz23_0, hcz23_1, hcz23_2, hcz23_3, hcz23_4, hfz23_0, hfz23_1, hfz23_2, hfz23_3, hfz23_4⟩ := aC5 BK271) | ((with_reducible refine gate_callee (f := 18) rfl ?_); refine goesL_ (some 32) rfl rfl Try.func18 (by kernel_rfl) rfl #[.slice A0_2 l0_2.length c0_2] rfl aT ?_; (with_reducible refine (h3_Opps.calls k _ _ l0_2 t282 _ ?side1 ?side2 A12.out).mono ?_); (case side1 => exact aA HR0_2 HB); (case side2 => exact HC0_2.out); rintro e w24 ⟨v283, rfl, ho0, hb⟩; refine ⟨_, rfl, ?_⟩; have n0_ := zA.mk (Kd.zO (aR HO275) hb); have n1_ := zA.mk (Kd.zO (aR HO281) hb); have n2_ := zA.mk (Kd.zR (Kd.R_newB (Kd.R_newB ho0 (g := gb277) (o := ob277) (aB BK277)) (g := gb278) (o := ob278) (aB BK278)) (below_size (aL HB))); have n3_ := zA.mk (zF (g := gb271) (o := .cells #[.slice A0_0 l0_0.length c0_0, .slice A0_1 l0_1.length c0_1, .slice A0_2 l0_2.length c0_2, .slice A0_3 l0_3.length c0_3, .slice A0_4 l0_4.length c0_4] 58 (0, 0)) (aB BK271) hb); have n4_ := zA.mk (zF (g := gb277) (o := ob277) (aB BK277) hb); have n5_ := zA.mk (zF (g := gb278) (o := ob278) (aB BK278) hb); have n6_ := zA.mk (below_step (aL HB) hb); clear HO275; clear HO281; clear BK271; clear BK277; clear BK278; clear HB; have HO275 := n0_; have HO281 := n1_; have HO284 := n2_; have BK271 := n3_; have BK277 := n4_; have BK278 := n5_; have HB := n6_; clear n0_ n1_ n2_ n3_ n4_ n5_ n6_; (try clear hb); (try clear hb2); (try clear hk); (try clear hi); (try clear ho0); obtain ⟨Ao25, co25, eo25⟩ := Kd.zQ HO284.out; subst eo25))
 go_loopg [35] k (fun kq v35 w' => ∃ (x6_1 : List Int) (x35_1 : Int), v35 = .int .i64 x35_1 ∧ zA (stanzalaw11_ItemsRight.l0 kq t278 t279 x6_1 (t282.length : Int) x35_1 l0_0 l0_1 l0_2 l0_3 l0_4 = some r) ∧ zA (kq ≤ k) ∧ zA (Kd.R (Kd.int .u8) 5 w' w.heap.size (fun k_ => k_ ≠ gb277 ∧ k_ ≠ gb278) v280 t279) ∧ zA (Kd.R (Kd.int .u8) 53 w' w.heap.size (fun k_ => k_ ≠ gb277 ∧ k_ ≠ gb278) (.slice Ao25 t282.length co25) x6_1) ∧ zA (w'.heap[gb271]? = some (.cells #[(.slice A0_0 l0_0.length c0_0), (.slice A0_1 l0_1.length c0_1), (.slice A0_2 l0_2.length c0_2), (.slice A0_3 l0_3.length c0_3), (.slice A0_4 l0_4.length c0_4)] 58 (0, 0))) ∧ zA (w'.heap[gb277]? = some ob277) ∧ zA (w'.heap[gb278]? = some ob278) ∧ zA (Below w.heap.size w w'))
 case atStart => exact ⟨(t282), (0), aZ, H', ⟨Nat.le_refl _⟩, ⟨by (with_reducible repeat (first | apply Kd.zG | apply Kd.zH | apply Kd.zI)); exact Kd.zS HO281.out (fun _ hk => ⟨hk.1.2, hk.2⟩)⟩, ⟨by (with_reducible repeat (first | apply Kd.zG | apply Kd.zH | apply Kd.zI)); exact Kd.zS HO284.out (fun _ hk => ⟨hk.1.2, hk.2⟩)⟩, ⟨aB BK271⟩, ⟨aB BK277⟩, ⟨aB BK278⟩, ⟨aL HB⟩⟩
 clear H'; try clear c1
 try clear hx1
 try clear c2
 try clear p2
 try clear hx2
 try clear c3
 try clear c4
 try clear c4b0
 try clear c4b1
 try clear c9
 try clear c9b0
 try clear c10
 try clear c13
 try clear c14
 try clear c15
 try clear c18
 try clear c19
 try clear c20
 try clear c23
 try clear hcz15_0
 try clear hcz15_1
 try clear hcz15_2
 try clear hcz15_3
 try clear hcz15_4
 try clear hcz21_0
 try clear hcz21_1
 try clear hcz21_2
 try clear hcz21_3
 try clear hcz21_4
 try clear hcz23_0
 try clear hcz23_1
 try clear hcz23_2
 try clear hcz23_3
 try clear hcz23_4
 try clear hcz7_0
 try clear hcz7_1
 try clear hcz7_2
 try clear hcz7_3
 try clear hcz7_4
 try clear hfz15_0
 try clear hfz15_1
 try clear hfz15_2
 try clear hfz15_3
 try clear hfz15_4
 try clear hfz21_0
 try clear hfz21_1
 try clear hfz21_2
 try clear hfz21_3
 try clear hfz21_4
 try clear hfz23_0
 try clear hfz23_1
 try clear hfz23_2
 try clear hfz23_3
 try clear hfz23_4
 try clear hfz7_0
 try clear hfz7_1
 try clear hfz7_2
 try clear hfz7_3
 try clear hfz7_4
 obtain ⟨x6_1, x35_1, rfl, HA, HK1, HO_5, HO_6, BK271, BK277, BK278, HB⟩ := hrel; have hl6_1 := (Kd.zN HO_6.out).1; rw [hl6_1] at HO_6; (try simp only [hl6_1])
 (try simp only [hl6_1] at BK271)
 (try simp only [hl6_1] at BK277)
 (try simp only [hl6_1] at BK278)
 (try simp only [hl6_1] at HO_5)
 cases gk with
 | zero => exact absurd HA.out (by simp [stanzalaw11_ItemsRight.l0])
 | succ k1 =>
  have H := HA.out; clear HA; simp only [stanzalaw11_ItemsRight.l0] at H; by_cases c26 : x35_1 < (t282.length : Int)
  ·rw [if_pos c26] at H
   have c26b0 : decide (x35_1 < (t282.length : Int)) = true := decide_eq_true c26
   (try simp only [hl6_1] at c26b0)
   clear c26; by_cases c27 : 0 ≤ x35_1
   rotate_left
   ·rw [if_neg c27] at H
    exact absurd H (by simp)
   rw [if_pos c27] at H; have c27b0 : decide (0 ≤ x35_1) = true := decide_eq_true c27
   clear c27; by_cases c28 : x35_1 < (x6_1.length : Int)
   rotate_left
   ·rw [if_neg c28] at H
    exact absurd H (by simp)
   rw [if_pos c28] at H; have c28b0 : decide (x35_1 < (x6_1.length : Int)) = true := decide_eq_true c28
   (try simp only [hl6_1] at c28b0)
   clear c28; obtain ⟨y286, hy286⟩ : ∃ y_ : List Int, y_ = (x6_1.set (x35_1 : Int).toNat (Int.tmod (rd x6_1 x35_1) 3)) := ⟨_, rfl⟩; replace H : (stanzalaw11_ItemsRight.l0 k1 t278 t279 y286 (t282.length : Int) (wrap64 (x35_1 + 1)) l0_0 l0_1 l0_2 l0_3 l0_4) = some r := by first | (rw [hy286]; with_reducible exact H) | (have H2_ := (Option.bind_some _ _).symm.trans H; rw [hy286]; with_reducible exact H2_) | (have H2_ := (Option.bind_some _ _).symm.trans H; with_reducible exact H2_) | with_reducible exact H | (rw [hy286]; exact H) | exact H
   have Ny286 := zA.mk hy286; clear hy286; have H' := zA.mk H
   clear H; have p285 : 0 ≤ (x35_1 : Int) := aD
   have q285 : x35_1 < (x6_1.length : Int) := aD
   obtain ⟨ad285, e285, hx285_0⟩ := Kd.at_int (Kd.zN HO_6.out).2.2 x35_1 p285 q285; cases e285
   replace p285 := eq_true p285; replace q285 := eq_true q285; have p29 : 0 ≤ (x35_1 : Int) := aD
   have q29 : (x35_1 : Int) < ((x6_1.length : Int) : Int) := aD
   obtain ⟨go29, co29, eo29, gb29, gl29, cl29, HG29⟩ := Kd.R_form HO_6.out (by omega)
   (first | cases eo29 | (injection eo29 with ea_ en_ ec_; (first | subst ea_ | (injection ea_ with ea_; subst ea_)); subst ec_; clear en_))
   have GB29 := zA.mk gb29; have GG29 := zA.mk HG29; clear gb29 gl29 HG29; (first | simp only [add_plain] at hx285_0 | skip)
   obtain ⟨hx29_0, hf29_0⟩ := Kd.R_celln 0 HO_6.out (x35_1 : Int) p29 q29; replace p29 := eq_true p29; replace q29 := eq_true q29; have HP30 := Kd.R_putg HO_6.out (x35_1 : Int) (Int.tmod (rd x6_1 x35_1) 3); go_wp2_with (first | ((with_reducible refine gate_store (t := 53) (p := 43) rfl ?_); refine store_event (t := 53) (p := 43) (v := ?vo_w31) (w1 := (wr.setCell ⟨go29, (x35_1 : Int).toNat, none⟩ (.int .u8 (Int.tmod (rd x6_1 x35_1) 3)))) ?hg ?ho ?hn ?hr ?_; (case ho => rfl); (case hg => rfl); (case hn => rfl); (case hr => first | (go_simp; done) | (go_simp; rfl)); intro w31 hw; have hg : wr.grownBy w31 (some go29) := (by rw [hw]; exact HP30.2); have hp_ : Kd.R (Kd.int .u8) 53 w31 w.heap.size (fun k_ => k_ ≠ gb277 ∧ k_ ≠ gb278) (.slice (some ⟨go29, 0, none⟩) x6_1.length co25) y286 := (by rw [hw, Ny286.out]; exact HP30.1); clear HP30; have n0_ := zA.mk (Kd.R_over' (v := (.slice (some ⟨go29, 0, none⟩) x6_1.length co25)) (aR HO_5) (Kd.R_typed HO_6.out) (by decide) hg); have n1_ := zA.mk (hp_); have n2_ := zA.mk (blk_grown (g := gb271) (o := .cells #[.slice A0_0 l0_0.length c0_0, .slice A0_1 l0_1.length c0_1, .slice A0_2 l0_2.length c0_2, .slice A0_3 l0_3.length c0_3, .slice A0_4 l0_4.length c0_4] 58 (0, 0)) (aB BK271) hg (Kd.R_ne HO_6.out BK271.out (by decide))); have n3_ := zA.mk (blk_grown (g := gb277) (o := ob277) (aB BK277) hg (Kd.R_away HO_6.out (fun _ hk => hk.1))); have n4_ := zA.mk (blk_grown (g := gb278) (o := ob278) (aB BK278) hg (Kd.R_away HO_6.out (fun _ hk => hk.2))); have n5_ := zA.mk ((by rw [hw]; exact below_set (HB.out) GB29.out : Below w.heap.size w w31)); clear HO_5; clear HO_6; clear BK271; clear BK277; clear BK278; clear HB; have HO_5 := n0_; have HO_6 := n1_; have BK271 := n2_; have BK277 := n3_; have BK278 := n4_; have HB := n5_; clear n0_ n1_ n2_ n3_ n4_ n5_; clear hg hw hp_))
   (try simp only [← hl6_1])
   go_roundg k1
   case measure => have := HK1.out; omega
   case rel => exact ⟨(y286), (wrap64 (x35_1 + 1)), aZ, H', ⟨by have := HK1.out; omega⟩, ⟨by (try simp only [hl6_1]); (with_reducible repeat (first | apply Kd.zG | apply Kd.zH | apply Kd.zI)); exact HO_5.out⟩, ⟨by (try simp only [hl6_1]); (with_reducible repeat (first | apply Kd.zG | apply Kd.zH | apply Kd.zI)); exact HO_6.out⟩, ⟨by (try simp only [hl6_1]); (with_reducible repeat (first | refine zD ?_ _ | refine zC ?_ | refine zB ?_ _)); exact BK271.out⟩, ⟨by (try simp only [hl6_1]); (with_reducible repeat (first | refine zD ?_ _ | refine zC ?_ | refine zB ?_ _)); exact BK277.out⟩, ⟨by (try simp only [hl6_1]); (with_reducible repeat (first | refine zD ?_ _ | refine zC ?_ | refine zB ?_ _)); exact BK278.out⟩, ⟨aL HB⟩⟩
  rw [if_neg c26] at H; have c26b0 : decide (x35_1 < (t282.length : Int)) = false := decide_eq_false c26
  (try simp only [hl6_1] at c26b0)
  clear c26; replace H := Option.bind_eq_some_iff.mp H; obtain ⟨t287, A320, H⟩ := H; replace H : ((h3_Opps.f k1 l0_1).bind fun t290 => ((items_Make.f k1 t287 t290 x6_1 l0_3 t278).bind fun bt293 => ((items_Parts.f k1 bt293.1 bt293.2).bind fun t300 => ((items_Check.f k1 bt293.1 bt293.2).bind fun t303 => (if t303 = true then ((items_Bytes.f k1 bt293.1 bt293.2).bind fun t304 => (if t304 = (t279.length : Int) then (if (t300.length : Int) = 0 then (stanzalaw11_ItemsRight.j1 k1 t300 true bt293.1 bt293.2) else (if 0 ≤ (wrap64 ((t300.length : Int) - 1)) then (if (wrap64 ((t300.length : Int) - 1)) < (t300.length : Int) then (stanzalaw11_ItemsRight.j1 k1 t300 ((rd t300 (wrap64 ((t300.length : Int) - 1))) != (bt293.1.length : Int)) bt293.1 bt293.2) else (none)) else (none))) else (stanzalaw11_ItemsRight.j1 k1 t300 true bt293.1 bt293.2))) else (stanzalaw11_ItemsRight.j1 k1 t300 true bt293.1 bt293.2)))))) = some r := H
  have A32 := zA.mk A320; clear A320; replace H := Option.bind_eq_some_iff.mp H; obtain ⟨t290, A330, H⟩ := H; replace H : ((items_Make.f k1 t287 t290 x6_1 l0_3 t278).bind fun bt293 => ((items_Parts.f k1 bt293.1 bt293.2).bind fun t300 => ((items_Check.f k1 bt293.1 bt293.2).bind fun t303 => (if t303 = true then ((items_Bytes.f k1 bt293.1 bt293.2).bind fun t304 => (if t304 = (t279.length : Int) then (if (t300.length : Int) = 0 then (stanzalaw11_ItemsRight.j1 k1 t300 true bt293.1 bt293.2) else (if 0 ≤ (wrap64 ((t300.length : Int) - 1)) then (if (wrap64 ((t300.length : Int) - 1)) < (t300.length : Int) then (stanzalaw11_ItemsRight.j1 k1 t300 ((rd t300 (wrap64 ((t300.length : Int) - 1))) != (bt293.1.length : Int)) bt293.1 bt293.2) else (none)) else (none))) else (stanzalaw11_ItemsRight.j1 k1 t300 true bt293.1 bt293.2))) else (stanzalaw11_ItemsRight.j1 k1 t300 true bt293.1 bt293.2))))) = some r := H
  have A33 := zA.mk A330; clear A330; replace H := Option.bind_eq_some_iff.mp H; obtain ⟨⟨t293, t296⟩, A340, H⟩ := H; replace H : ((items_Parts.f k1 t293 t296).bind fun t300 => ((items_Check.f k1 t293 t296).bind fun t303 => (if t303 = true then ((items_Bytes.f k1 t293 t296).bind fun t304 => (if t304 = (t279.length : Int) then (if (t300.length : Int) = 0 then (stanzalaw11_ItemsRight.j1 k1 t300 true t293 t296) else (if 0 ≤ (wrap64 ((t300.length : Int) - 1)) then (if (wrap64 ((t300.length : Int) - 1)) < (t300.length : Int) then (stanzalaw11_ItemsRight.j1 k1 t300 ((rd t300 (wrap64 ((t300.length : Int) - 1))) != (t293.length : Int)) t293 t296) else (none)) else (none))) else (stanzalaw11_ItemsRight.j1 k1 t300 true t293 t296))) else (stanzalaw11_ItemsRight.j1 k1 t300 true t293 t296)))) = some r := H
  have A34 := zA.mk A340; clear A340; replace H := Option.bind_eq_some_iff.mp H; obtain ⟨t300, A350, H⟩ := H; replace H : ((items_Check.f k1 t293 t296).bind fun t303 => (if t303 = true then ((items_Bytes.f k1 t293 t296).bind fun t304 => (if t304 = (t279.length : Int) then (if (t300.length : Int) = 0 then (stanzalaw11_ItemsRight.j1 k1 t300 true t293 t296) else (if 0 ≤ (wrap64 ((t300.length : Int) - 1)) then (if (wrap64 ((t300.length : Int) - 1)) < (t300.length : Int) then (stanzalaw11_ItemsRight.j1 k1 t300 ((rd t300 (wrap64 ((t300.length : Int) - 1))) != (t293.length : Int)) t293 t296) else (none)) else (none))) else (stanzalaw11_ItemsRight.j1 k1 t300 true t293 t296))) else (stanzalaw11_ItemsRight.j1 k1 t300 true t293 t296))) = some r := H
  have A35 := zA.mk A350; clear A350; have HC36 := zA.mk H; clear H; obtain ⟨Ao37, co37, eo37⟩ := Kd.zQ HO_5.out; subst eo37; try go_wp2
  have n0_ := zA.mk (Kd.zI HO_5.out); have n1_ := zA.mk (Kd.zI HO_6.out); have n2_ := zA.mk (zC BK271.out); have n3_ := zA.mk (zC BK277.out); have n4_ := zA.mk (zC BK278.out); have n5_ := zA.mk (below_drew1 HB.out); clear HO_5; clear HO_6; clear BK271; clear BK277; clear BK278; clear HB; have HO_5 := n0_; have HO_6 := n1_; have BK271 := n2_; have BK277 := n3_; have BK278 := n4_; have HB := n5_; clear n0_ n1_ n2_ n3_ n4_ n5_; refine start_ (n := 12) (S := fun w' => w'.cell? ⟨gb271, 0, none⟩ = some (.slice A0_0 l0_0.length c0_0) ∧ w'.cell? ⟨gb271, 1, none⟩ = some (.slice A0_1 l0_1.length c0_1) ∧ w'.cell? ⟨gb271, 2, none⟩ = some (.slice A0_2 l0_2.length c0_2) ∧ w'.cell? ⟨gb271, 3, none⟩ = some (.slice A0_3 l0_3.length c0_3) ∧ w'.cell? ⟨gb271, 4, none⟩ = some (.slice A0_4 l0_4.length c0_4)) (ds := []) #[false, false, false, false, false, false, false, false, false, false, false, false] (by kernel_rfl) rfl rfl ⟨(zE BK271.out 0).trans rfl, (zE BK271.out 1).trans rfl, (zE BK271.out 2).trans rfl, (zE BK271.out 3).trans rfl, (zE BK271.out 4).trans rfl⟩ (fun hHeld => ?_); refine with_tabW stanzalaw11_ItemsRight.tab15 stanzalaw11_ItemsRight.bits15 (fun HT_ HW_ => ?_)
  generalize wr.drew = w38 at HO_5 HO_6 BK271 BK277 BK278 HB hHeld ⊢
  refine aP 0 (some 45) (tf_ 1 12) HT_ ?_
  refine aP 2 (some 47) #[true, false, true, false, false, false, false, false, false, false, false, false] HT_ ?_
  refine aP 5 (some 50) #[true, false, true, false, false, true, false, false, false, false, false, false] HT_ ?_
  refine aP 6 (some 51) #[true, false, true, false, false, true, true, false, false, false, false, false] HT_ ?_
  refine aP 8 (some 53) #[true, false, true, false, false, true, true, false, true, false, false, false] HT_ ?_
  refine take_ (i := 3) (N := some 48) (v := ?_) (a' := ?_) #[true, false, true, true, false, true, true, false, true, false, false, false] rfl rfl (take_ofW HT_.out HW_.out (by kernel_rfl)) (fun _ _ _ h => h) (Or.inl ⟨by rfl, ?_⟩) hHeld ?_ ?_
  rotate_left
  ·rintro w' ⟨s0, s1, s2, s3, s4⟩
   go_simp
   with_reducible rfl
  rotate_left
  ·simp only [Act.put, sA_, sB_, sC_, i64_w, i32_w]
   rfl
  refine take_ (i := 7) (N := some 52) (v := ?_) (a' := ?_) #[true, false, true, true, false, true, true, true, true, false, false, false] rfl rfl (take_ofW HT_.out HW_.out (by kernel_rfl)) (fun _ _ _ h => h) (Or.inl ⟨by rfl, ?_⟩) hHeld ?_ ?_
  rotate_left
  ·rintro w' ⟨s0, s1, s2, s3, s4⟩
   go_simp
   with_reducible rfl
  rotate_left
  ·simp only [Act.put, sA_, sB_, sC_, i64_w, i32_w]
   rfl
  refine join_ (σ := Value × Value × Value × Value × Nat) 1 #[true, true, true, true, true, true, true, true, true, true, true, false] (fun s_ => [(46, s_.1), (49, s_.2.1), (54, .agg #[s_.2.2.1, s_.2.2.2.1]), (8, .pointer (some ⟨s_.2.2.2.2, 0, none⟩))]) (fun s_ w' => (w'.cell? ⟨gb271, 0, none⟩ = some (.slice A0_0 l0_0.length c0_0) ∧ w'.cell? ⟨gb271, 1, none⟩ = some (.slice A0_1 l0_1.length c0_1) ∧ w'.cell? ⟨gb271, 2, none⟩ = some (.slice A0_2 l0_2.length c0_2) ∧ w'.cell? ⟨gb271, 3, none⟩ = some (.slice A0_3 l0_3.length c0_3) ∧ w'.cell? ⟨gb271, 4, none⟩ = some (.slice A0_4 l0_4.length c0_4)) ∧ (Kd.R k50 50 w' w.heap.size (fun k_ => k_ ≠ gb277 ∧ k_ ≠ gb278) s_.1 t287) ∧ (Kd.R (Kd.int .u8) 53 w' w.heap.size (fun k_ => some k_ ≠ (s_.2.2.2.1 : Value).ownBlock ∧ some k_ ≠ (.slice Ao25 x6_1.length co25 : Value).ownBlock ∧ k_ ≠ gb277 ∧ k_ ≠ gb278) s_.2.1 t290) ∧ (Kd.R k48 48 w' w.heap.size (fun k_ => k_ ≠ gb277 ∧ k_ ≠ gb278) s_.2.2.1 t293) ∧ (Kd.R (Kd.int .u8) 53 w' w.heap.size (fun k_ => some k_ ≠ (s_.2.1 : Value).ownBlock ∧ some k_ ≠ (.slice Ao25 x6_1.length co25 : Value).ownBlock ∧ k_ ≠ gb277 ∧ k_ ≠ gb278) s_.2.2.2.1 t296) ∧ (Kd.R (Kd.int .u8) 5 w' w.heap.size (fun k_ => k_ ≠ gb277 ∧ k_ ≠ gb278) (.slice Ao37 t279.length co37) t279) ∧ (Kd.R (Kd.int .u8) 53 w' w.heap.size (fun k_ => some k_ ≠ (s_.2.1 : Value).ownBlock ∧ some k_ ≠ (s_.2.2.2.1 : Value).ownBlock ∧ k_ ≠ gb277 ∧ k_ ≠ gb278) (.slice Ao25 x6_1.length co25) x6_1) ∧ (w'.heap[gb271]? = some (.cells #[.slice A0_0 l0_0.length c0_0, .slice A0_1 l0_1.length c0_1, .slice A0_2 l0_2.length c0_2, .slice A0_3 l0_3.length c0_3, .slice A0_4 l0_4.length c0_4] 58 (0, 0))) ∧ (w'.heap[gb277]? = some (ob277)) ∧ (w'.heap[gb278]? = some (ob278)) ∧ (w'.heap[s_.2.2.2.2]? = some (.cells #[.slice none 0 0, .slice none 0 0] 60 (0, 0))) ∧ (w.heap.size ≤ s_.2.2.2.2) ∧ (w.heap.size ≤ s_.2.2.2.2) ∧ (gb271 ≠ s_.2.2.2.2) ∧ (s_.2.2.2.2 ≠ gb271) ∧ (gb277 ≠ s_.2.2.2.2) ∧ (s_.2.2.2.2 ≠ gb277) ∧ (gb278 ≠ s_.2.2.2.2) ∧ (s_.2.2.2.2 ≠ gb278) ∧ (Below w.heap.size w w')) ?_ ?_
  rotate_left
  ·intro hCont
   refine two_ (i := 1) (j := 10) (Ni := some 46) (Nj := some 8) #[true, true, true, true, false, true, true, true, true, false, false, false] #[true, false, true, true, false, true, true, true, true, false, true, false] rfl rfl rfl rfl (two_of HT_.out (by kernel_rfl)) (by decide) (by decide) (fun K hK => ?_) (fun K hK => ?_)
   ·skip
    refine goes_ Try.func16 (by kernel_rfl) rfl #[.slice Ao37 t279.length co37] (by rfl) rfl rfl aT ?_
    with_reducible refine (stanzaref01_All.calls k1 _ _ t279 t287 _ ?side1 ?side2 A32.out).mono ?_
    (case side1 => exact aF HO_5)
    (case side2 => exact (Kd.zN HO_5.out).2.1)
    rintro e w39 ⟨v288, rfl, ho0, hb⟩
    refine ⟨_, rfl, ?_⟩
    have n0_ := zA.mk (Kd.zO (aR HO_5) hb); have n1_ := zA.mk (Kd.zO (aR HO_6) hb); have n2_ := zA.mk (Kd.zR (Kd.R_newB (Kd.R_newB ho0 (g := gb277) (o := ob277) (aB BK277)) (g := gb278) (o := ob278) (aB BK278)) (below_size (aL HB))); have n3_ := zA.mk (zF (g := gb271) (o := .cells #[.slice A0_0 l0_0.length c0_0, .slice A0_1 l0_1.length c0_1, .slice A0_2 l0_2.length c0_2, .slice A0_3 l0_3.length c0_3, .slice A0_4 l0_4.length c0_4] 58 (0, 0)) (aB BK271) hb); have n4_ := zA.mk (zF (g := gb277) (o := ob277) (aB BK277) hb); have n5_ := zA.mk (zF (g := gb278) (o := ob278) (aB BK278) hb); have n6_ := zA.mk (below_step (aL HB) hb); clear HO_5; clear HO_6; clear BK271; clear BK277; clear BK278; clear HB; have HO_5 := n0_; have HO_6 := n1_; have HO289 := n2_; have BK271 := n3_; have BK277 := n4_; have BK278 := n5_; have HB := n6_; clear n0_ n1_ n2_ n3_ n4_ n5_ n6_; (try clear hb)
    (try clear hb2)
    (try clear hk)
    (try clear hi)
    (try clear ho0)
    refine hK.out _ _ ⟨(zE BK271.out 0).trans rfl, (zE BK271.out 1).trans rfl, (zE BK271.out 2).trans rfl, (zE BK271.out 3).trans rfl, (zE BK271.out 4).trans rfl⟩ (fun hHeld => ?_)
    clear hK K; refine norm_ (a' := ?_) ?_ ?_
    rotate_left
    ·show Act.put _ (some 46) _ = _
     simp only [Act.put, sA_, sB_, sC_, i64_w, i32_w]; rfl
    refine two_ (i := 4) (j := 10) (Ni := some 49) (Nj := some 8) #[true, true, true, true, true, true, true, true, true, false, false, false] #[true, true, true, true, false, true, true, true, true, false, true, false] rfl rfl rfl rfl (two_of HT_.out (by kernel_rfl)) (by decide) (by decide) (fun K hK => ?_) (fun K hK => ?_)
    ·skip
     refine goes_ Try.func18 (by kernel_rfl) rfl #[.slice A0_1 l0_1.length c0_1] (by rfl) rfl rfl aT ?_
     with_reducible refine (h3_Opps.calls k1 _ _ l0_1 t290 _ ?side1 ?side2 A33.out).mono ?_
     (case side1 => exact aA HR0_1 HB)
     (case side2 => exact HC0_1.out)
     rintro e w40 ⟨v291, rfl, ho0, hb⟩
     refine ⟨_, rfl, ?_⟩
     have n0_ := zA.mk (Kd.zO (aR HO_5) hb); have n1_ := zA.mk (Kd.R_elder' (aR HO_6) (Kd.R_base ho0) hb); have n2_ := zA.mk (Kd.zO (aR HO289) hb); have n3_ := zA.mk (Kd.zR (Kd.R_newB (Kd.R_newB (Kd.R_new' ho0 (Kd.R_lt (aR HO_6))) (g := gb277) (o := ob277) (aB BK277)) (g := gb278) (o := ob278) (aB BK278)) (below_size (aL HB))); have n4_ := zA.mk (zF (g := gb271) (o := .cells #[.slice A0_0 l0_0.length c0_0, .slice A0_1 l0_1.length c0_1, .slice A0_2 l0_2.length c0_2, .slice A0_3 l0_3.length c0_3, .slice A0_4 l0_4.length c0_4] 58 (0, 0)) (aB BK271) hb); have n5_ := zA.mk (zF (g := gb277) (o := ob277) (aB BK277) hb); have n6_ := zA.mk (zF (g := gb278) (o := ob278) (aB BK278) hb); have n7_ := zA.mk (below_step (aL HB) hb); clear HO_5; clear HO_6; clear HO289; clear BK271; clear BK277; clear BK278; clear HB; have HO_5 := n0_; have HO_6 := n1_; have HO289 := n2_; have HO292 := n3_; have BK271 := n4_; have BK277 := n5_; have BK278 := n6_; have HB := n7_; clear n0_ n1_ n2_ n3_ n4_ n5_ n6_ n7_; (try clear hb)
     (try clear hb2)
     (try clear hk)
     (try clear hi)
     (try clear ho0)
     obtain ⟨Ao41, co41, eo41⟩ := Kd.zQ HO289.out; (first | subst eo41 | (injection eo41 with f1_ f2_ f3_; have f4_ := f1_.symm; have f5_ := f3_.symm; clear f1_ f2_ f3_; subst f4_; subst f5_))
     obtain ⟨Ao42, co42, eo42⟩ := Kd.zQ HO292.out; (first | subst eo42 | (injection eo42 with f1_ f2_ f3_; have f4_ := f1_.symm; have f5_ := f3_.symm; clear f1_ f2_ f3_; subst f4_; subst f5_))
     refine hK.out _ _ ⟨(zE BK271.out 0).trans rfl, (zE BK271.out 1).trans rfl, (zE BK271.out 2).trans rfl, (zE BK271.out 3).trans rfl, (zE BK271.out 4).trans rfl⟩ (fun hHeld => ?_)
     clear hK K; refine norm_ (a' := ?_) ?_ ?_
     rotate_left
     ·show Act.put _ (some 49) _ = _
      simp only [Act.put, sA_, sB_, sC_, i64_w, i32_w]; rfl
     refine two_ (i := 9) (j := 10) (Ni := some 54) (Nj := some 8) #[true, true, true, true, true, true, true, true, true, true, false, false] #[true, true, true, true, true, true, true, true, true, false, true, false] rfl rfl rfl rfl (two_of HT_.out (by kernel_rfl)) (by decide) (by decide) (fun K hK => ?_) (fun K hK => ?_)
     ·skip
      refine goes_ Try.func24 (by kernel_rfl) rfl #[.slice Ao41 t287.length co41, .slice Ao42 t290.length co42, .slice Ao25 x6_1.length co25, .slice A0_3 l0_3.length c0_3, .pointer (some ⟨gb277, 0, none⟩)] (by rfl) rfl rfl aT ?_
      with_reducible refine (items_Make.calls k1 _ _ t287 _ _ t290 _ _ x6_1 _ _ l0_3 (.pointer (some ⟨gb277, 0, none⟩)) t278 t293 t296 _ ?side1 ?side2 ?side3 ?side4 ?side5 ?side6 ?side7 ?side8 ?side9 A34.out).mono ?_
      (case side1 => exact aF HO289)
      (case side2 => exact (Kd.zN HO289.out).2.1)
      (case side3 => exact aF HO292)
      (case side4 => exact (Kd.zN HO292.out).2.1)
      (case side5 => exact aF HO_6)
      (case side6 => exact (Kd.zN HO_6.out).2.1)
      (case side7 => exact aA HR0_3 HB)
      (case side8 => exact HC0_3.out)
      (case side9 => exact TabO.at HTt278.out (aB BK277) (aB BK278))
      rintro e w43 ⟨v294, v297, rfl, ho0, ho1, hb⟩
      refine ⟨_, rfl, ?_⟩
      have n0_ := zA.mk (Kd.zO (aR HO_5) hb); have n1_ := zA.mk (Kd.R_elder' (aR HO_6) (Kd.R_base ho1) hb); have n2_ := zA.mk (Kd.zO (aR HO289) hb); have n3_ := zA.mk (Kd.R_elder' (aR HO292) (Kd.R_base ho1) hb); have n4_ := zA.mk (Kd.zR (Kd.R_newB (Kd.R_newB ho0 (g := gb277) (o := ob277) (aB BK277)) (g := gb278) (o := ob278) (aB BK278)) (below_size (aL HB))); have n5_ := zA.mk (Kd.zR (Kd.R_newB (Kd.R_newB (Kd.R_new' (Kd.R_new' ho1 (Kd.R_lt (aR HO_6))) (Kd.R_lt (aR HO292))) (g := gb277) (o := ob277) (aB BK277)) (g := gb278) (o := ob278) (aB BK278)) (below_size (aL HB))); have n6_ := zA.mk (zF (g := gb271) (o := .cells #[.slice A0_0 l0_0.length c0_0, .slice A0_1 l0_1.length c0_1, .slice A0_2 l0_2.length c0_2, .slice A0_3 l0_3.length c0_3, .slice A0_4 l0_4.length c0_4] 58 (0, 0)) (aB BK271) hb); have n7_ := zA.mk (zF (g := gb277) (o := ob277) (aB BK277) hb); have n8_ := zA.mk (zF (g := gb278) (o := ob278) (aB BK278) hb); have n9_ := zA.mk (below_step (aL HB) hb); clear HO_5; clear HO_6; clear HO289; clear HO292; clear BK271; clear BK277; clear BK278; clear HB; have HO_5 := n0_; have HO_6 := n1_; have HO289 := n2_; have HO292 := n3_; have HO295 := n4_; have HO298 := n5_; have BK271 := n6_; have BK277 := n7_; have BK278 := n8_; have HB := n9_; clear n0_ n1_ n2_ n3_ n4_ n5_ n6_ n7_ n8_ n9_; (try clear hb)
      (try clear hb2)
      (try clear hk)
      (try clear hi)
      (try clear ho0)
      (try clear ho1)
      refine hK.out _ _ ⟨(zE BK271.out 0).trans rfl, (zE BK271.out 1).trans rfl, (zE BK271.out 2).trans rfl, (zE BK271.out 3).trans rfl, (zE BK271.out 4).trans rfl⟩ (fun hHeld => ?_)
      clear hK K; refine norm_ (a' := ?_) ?_ ?_
      rotate_left
      ·show Act.put _ (some 54) _ = _
       simp only [Act.put, sA_, sB_, sC_, i64_w, i32_w]; rfl
      refine one_ (i := 10) (N := some 8) #[true, true, true, true, true, true, true, true, true, true, true, false] rfl rfl (one_of HT_.out (by kernel_rfl)) (by decide) (fun K hK => ?_)
      refine box_step ?hg (N := 8) ?hd (cs := #[.slice none 0 0, .slice none 0 0]) (t := 60) ?hr ?_; (case hd => rfl); (case hg => rfl); (case hr => first | (go_simp; done) | (go_simp; rfl))
      intro gb299 hg w44 hbox hb
      have n0_ := zA.mk (Kd.zO (aR HO_5) hb); have n1_ := zA.mk (Kd.zO (aR HO_6) hb); have n2_ := zA.mk (Kd.zO (aR HO289) hb); have n3_ := zA.mk (Kd.zO (aR HO292) hb); have n4_ := zA.mk (Kd.zO (aR HO295) hb); have n5_ := zA.mk (Kd.zO (aR HO298) hb); have n6_ := zA.mk (zF (g := gb271) (o := .cells #[.slice A0_0 l0_0.length c0_0, .slice A0_1 l0_1.length c0_1, .slice A0_2 l0_2.length c0_2, .slice A0_3 l0_3.length c0_3, .slice A0_4 l0_4.length c0_4] 58 (0, 0)) (aB BK271) hb); have n7_ := zA.mk (zF (g := gb277) (o := ob277) (aB BK277) hb); have n8_ := zA.mk (zF (g := gb278) (o := ob278) (aB BK278) hb); have n9_ := zA.mk (below_step (aL HB) hb); have n10_ := zA.mk (hbox); have n11_ := zA.mk ((by rw [hg]; exact (below_size (aL HB)) : w.heap.size ≤ gb299))
      have n12_ := zA.mk ((by rw [hg]; exact (below_size (aL HB)) : w.heap.size ≤ gb299))
      have n13_ := zA.mk ((by rw [hg]; exact Nat.ne_of_lt (blk_lt (g := gb271) (o := .cells #[.slice A0_0 l0_0.length c0_0, .slice A0_1 l0_1.length c0_1, .slice A0_2 l0_2.length c0_2, .slice A0_3 l0_3.length c0_3, .slice A0_4 l0_4.length c0_4] 58 (0, 0)) (aB BK271)) : gb271 ≠ gb299))
      have n14_ := zA.mk ((by rw [hg]; exact Nat.ne_of_gt (blk_lt (g := gb271) (o := .cells #[.slice A0_0 l0_0.length c0_0, .slice A0_1 l0_1.length c0_1, .slice A0_2 l0_2.length c0_2, .slice A0_3 l0_3.length c0_3, .slice A0_4 l0_4.length c0_4] 58 (0, 0)) (aB BK271)) : gb299 ≠ gb271))
      have n15_ := zA.mk ((by rw [hg]; exact Nat.ne_of_lt (blk_lt (g := gb277) (o := ob277) (aB BK277)) : gb277 ≠ gb299))
      have n16_ := zA.mk ((by rw [hg]; exact Nat.ne_of_gt (blk_lt (g := gb277) (o := ob277) (aB BK277)) : gb299 ≠ gb277))
      have n17_ := zA.mk ((by rw [hg]; exact Nat.ne_of_lt (blk_lt (g := gb278) (o := ob278) (aB BK278)) : gb278 ≠ gb299))
      have n18_ := zA.mk ((by rw [hg]; exact Nat.ne_of_gt (blk_lt (g := gb278) (o := ob278) (aB BK278)) : gb299 ≠ gb278))
      clear HO_5 HO_6 HO289 HO292 HO295 HO298 BK271 BK277 BK278 HB; have HO_5 := n0_; have HO_6 := n1_; have HO289 := n2_; have HO292 := n3_; have HO295 := n4_; have HO298 := n5_; have BK271 := n6_; have BK277 := n7_; have BK278 := n8_; have HB := n9_; have BK299 := n10_; have GW299 := n11_; have GE299 := n12_; have NB271_299 := n13_; have NB299_271 := n14_; have NB277_299 := n15_; have NB299_277 := n16_; have NB278_299 := n17_; have NB299_278 := n18_; clear n0_ n1_ n2_ n3_ n4_ n5_ n6_ n7_ n8_ n9_ n10_ n11_ n12_ n13_ n14_ n15_ n16_ n17_ n18_; clear hb hbox hg; refine hK.out _ _ ⟨(zE BK271.out 0).trans rfl, (zE BK271.out 1).trans rfl, (zE BK271.out 2).trans rfl, (zE BK271.out 3).trans rfl, (zE BK271.out 4).trans rfl⟩ (fun hHeld => ?_)
      clear hK K; refine norm_ (a' := ?_) ?_ ?_
      rotate_left
      ·show Act.put _ (some 8) _ = _
       simp only [Act.put, sA_, sB_, sC_, i64_w, i32_w]; rfl
      exact norm_ (by simp only [putAll, Act.put, sA_, sB_, sC_]) (hCont (.slice Ao41 t287.length co41, .slice Ao42 t290.length co42, v294, v297, gb299) _ ⟨hHeld, (by (with_reducible repeat (first | apply Kd.zG | apply Kd.zH | apply Kd.zI)); exact Kd.zS HO289.out (fun _ hk => ⟨hk.1.2, hk.2⟩)), (by (with_reducible repeat (first | apply Kd.zG | apply Kd.zH | apply Kd.zI)); exact Kd.zS HO292.out (fun _ hk => ⟨hk.2, ⟨hk.1.1.1.2, ⟨hk.1.1.2, hk.1.2⟩⟩⟩)), (by (with_reducible repeat (first | apply Kd.zG | apply Kd.zH | apply Kd.zI)); exact Kd.zS HO295.out (fun _ hk => ⟨hk.1.2, hk.2⟩)), (by (with_reducible repeat (first | apply Kd.zG | apply Kd.zH | apply Kd.zI)); exact Kd.zS HO298.out (fun _ hk => ⟨hk.1.1.2, ⟨hk.1.1.1.2, ⟨hk.1.2, hk.2⟩⟩⟩)), (aR HO_5), (by (with_reducible repeat (first | apply Kd.zG | apply Kd.zH | apply Kd.zI)); exact Kd.zS HO_6.out (fun _ hk => ⟨hk.1.2, ⟨hk.2, ⟨hk.1.1.1, hk.1.1.2⟩⟩⟩)), (aB BK271), (aB BK277), (aB BK278), (aB BK299), GW299.out, GE299.out, NB271_299.out, NB299_271.out, NB277_299.out, NB299_277.out, NB278_299.out, NB299_278.out, (aL HB)⟩)
     skip
     refine box_step ?hg (N := 8) ?hd (cs := #[.slice none 0 0, .slice none 0 0]) (t := 60) ?hr ?_; (case hd => rfl); (case hg => rfl); (case hr => first | (go_simp; done) | (go_simp; rfl))
     intro gb299 hg w41 hbox hb
     have n0_ := zA.mk (Kd.zO (aR HO_5) hb); have n1_ := zA.mk (Kd.zO (aR HO_6) hb); have n2_ := zA.mk (Kd.zO (aR HO289) hb); have n3_ := zA.mk (Kd.zO (aR HO292) hb); have n4_ := zA.mk (zF (g := gb271) (o := .cells #[.slice A0_0 l0_0.length c0_0, .slice A0_1 l0_1.length c0_1, .slice A0_2 l0_2.length c0_2, .slice A0_3 l0_3.length c0_3, .slice A0_4 l0_4.length c0_4] 58 (0, 0)) (aB BK271) hb); have n5_ := zA.mk (zF (g := gb277) (o := ob277) (aB BK277) hb); have n6_ := zA.mk (zF (g := gb278) (o := ob278) (aB BK278) hb); have n7_ := zA.mk (below_step (aL HB) hb); have n8_ := zA.mk (hbox); have n9_ := zA.mk ((by rw [hg]; exact (below_size (aL HB)) : w.heap.size ≤ gb299))
     have n10_ := zA.mk ((by rw [hg]; exact (below_size (aL HB)) : w.heap.size ≤ gb299))
     have n11_ := zA.mk ((by rw [hg]; exact Nat.ne_of_lt (blk_lt (g := gb271) (o := .cells #[.slice A0_0 l0_0.length c0_0, .slice A0_1 l0_1.length c0_1, .slice A0_2 l0_2.length c0_2, .slice A0_3 l0_3.length c0_3, .slice A0_4 l0_4.length c0_4] 58 (0, 0)) (aB BK271)) : gb271 ≠ gb299))
     have n12_ := zA.mk ((by rw [hg]; exact Nat.ne_of_gt (blk_lt (g := gb271) (o := .cells #[.slice A0_0 l0_0.length c0_0, .slice A0_1 l0_1.length c0_1, .slice A0_2 l0_2.length c0_2, .slice A0_3 l0_3.length c0_3, .slice A0_4 l0_4.length c0_4] 58 (0, 0)) (aB BK271)) : gb299 ≠ gb271))
     have n13_ := zA.mk ((by rw [hg]; exact Nat.ne_of_lt (blk_lt (g := gb277) (o := ob277) (aB BK277)) : gb277 ≠ gb299))
     have n14_ := zA.mk ((by rw [hg]; exact Nat.ne_of_gt (blk_lt (g := gb277) (o := ob277) (aB BK277)) : gb299 ≠ gb277))
     have n15_ := zA.mk ((by rw [hg]; exact Nat.ne_of_lt (blk_lt (g := gb278) (o := ob278) (aB BK278)) : gb278 ≠ gb299))
     have n16_ := zA.mk ((by rw [hg]; exact Nat.ne_of_gt (blk_lt (g := gb278) (o := ob278) (aB BK278)) : gb299 ≠ gb278))
     clear HO_5 HO_6 HO289 HO292 BK271 BK277 BK278 HB; have HO_5 := n0_; have HO_6 := n1_; have HO289 := n2_; have HO292 := n3_; have BK271 := n4_; have BK277 := n5_; have BK278 := n6_; have HB := n7_; have BK299 := n8_; have GW299 := n9_; have GE299 := n10_; have NB271_299 := n11_; have NB299_271 := n12_; have NB277_299 := n13_; have NB299_277 := n14_; have NB278_299 := n15_; have NB299_278 := n16_; clear n0_ n1_ n2_ n3_ n4_ n5_ n6_ n7_ n8_ n9_ n10_ n11_ n12_ n13_ n14_ n15_ n16_; clear hb hbox hg; obtain ⟨Ao42, co42, eo42⟩ := Kd.zQ HO289.out; (first | subst eo42 | (injection eo42 with f1_ f2_ f3_; have f4_ := f1_.symm; have f5_ := f3_.symm; clear f1_ f2_ f3_; subst f4_; subst f5_))
     obtain ⟨Ao43, co43, eo43⟩ := Kd.zQ HO292.out; (first | subst eo43 | (injection eo43 with f1_ f2_ f3_; have f4_ := f1_.symm; have f5_ := f3_.symm; clear f1_ f2_ f3_; subst f4_; subst f5_))
     refine hK.out _ _ ⟨(zE BK271.out 0).trans rfl, (zE BK271.out 1).trans rfl, (zE BK271.out 2).trans rfl, (zE BK271.out 3).trans rfl, (zE BK271.out 4).trans rfl⟩ (fun hHeld => ?_)
     clear hK K; refine norm_ (a' := ?_) ?_ ?_
     rotate_left
     ·show Act.put _ (some 8) _ = _
      simp only [Act.put, sA_, sB_, sC_, i64_w, i32_w]; rfl
     refine one_ (i := 9) (N := some 54) #[true, true, true, true, true, true, true, true, true, true, true, false] rfl rfl (one_of HT_.out (by kernel_rfl)) (by decide) (fun K hK => ?_)
     refine goes_ Try.func24 (by kernel_rfl) rfl #[.slice Ao42 t287.length co42, .slice Ao43 t290.length co43, .slice Ao25 x6_1.length co25, .slice A0_3 l0_3.length c0_3, .pointer (some ⟨gb277, 0, none⟩)] (by rfl) rfl rfl aT ?_
     with_reducible refine (items_Make.calls k1 _ _ t287 _ _ t290 _ _ x6_1 _ _ l0_3 (.pointer (some ⟨gb277, 0, none⟩)) t278 t293 t296 _ ?side1 ?side2 ?side3 ?side4 ?side5 ?side6 ?side7 ?side8 ?side9 A34.out).mono ?_
     (case side1 => exact aF HO289)
     (case side2 => exact (Kd.zN HO289.out).2.1)
     (case side3 => exact aF HO292)
     (case side4 => exact (Kd.zN HO292.out).2.1)
     (case side5 => exact aF HO_6)
     (case side6 => exact (Kd.zN HO_6.out).2.1)
     (case side7 => exact aA HR0_3 HB)
     (case side8 => exact HC0_3.out)
     (case side9 => exact TabO.at HTt278.out (aB BK277) (aB BK278))
     rintro e w44 ⟨v294, v297, rfl, ho0, ho1, hb⟩
     refine ⟨_, rfl, ?_⟩
     have n0_ := zA.mk (Kd.zO (aR HO_5) hb); have n1_ := zA.mk (Kd.R_elder' (aR HO_6) (Kd.R_base ho1) hb); have n2_ := zA.mk (Kd.zO (aR HO289) hb); have n3_ := zA.mk (Kd.R_elder' (aR HO292) (Kd.R_base ho1) hb); have n4_ := zA.mk (Kd.zR (Kd.R_newB (Kd.R_newB ho0 (g := gb277) (o := ob277) (aB BK277)) (g := gb278) (o := ob278) (aB BK278)) (below_size (aL HB))); have n5_ := zA.mk (Kd.zR (Kd.R_newB (Kd.R_newB (Kd.R_new' (Kd.R_new' ho1 (Kd.R_lt (aR HO_6))) (Kd.R_lt (aR HO292))) (g := gb277) (o := ob277) (aB BK277)) (g := gb278) (o := ob278) (aB BK278)) (below_size (aL HB))); have n6_ := zA.mk (zF (g := gb271) (o := .cells #[.slice A0_0 l0_0.length c0_0, .slice A0_1 l0_1.length c0_1, .slice A0_2 l0_2.length c0_2, .slice A0_3 l0_3.length c0_3, .slice A0_4 l0_4.length c0_4] 58 (0, 0)) (aB BK271) hb); have n7_ := zA.mk (zF (g := gb277) (o := ob277) (aB BK277) hb); have n8_ := zA.mk (zF (g := gb278) (o := ob278) (aB BK278) hb); have n9_ := zA.mk (zF (g := gb299) (o := .cells #[.slice none 0 0, .slice none 0 0] 60 (0, 0)) (aB BK299) hb); have n10_ := zA.mk (below_step (aL HB) hb); clear HO_5; clear HO_6; clear HO289; clear HO292; clear BK271; clear BK277; clear BK278; clear BK299; clear HB; have HO_5 := n0_; have HO_6 := n1_; have HO289 := n2_; have HO292 := n3_; have HO295 := n4_; have HO298 := n5_; have BK271 := n6_; have BK277 := n7_; have BK278 := n8_; have BK299 := n9_; have HB := n10_; clear n0_ n1_ n2_ n3_ n4_ n5_ n6_ n7_ n8_ n9_ n10_
     (try clear hb)
     (try clear hb2)
     (try clear hk)
     (try clear hi)
     (try clear ho0)
     (try clear ho1)
     refine hK.out _ _ ⟨(zE BK271.out 0).trans rfl, (zE BK271.out 1).trans rfl, (zE BK271.out 2).trans rfl, (zE BK271.out 3).trans rfl, (zE BK271.out 4).trans rfl⟩ (fun hHeld => ?_)
     clear hK K; refine norm_ (a' := ?_) ?_ ?_
     rotate_left
     ·show Act.put _ (some 54) _ = _
      simp only [Act.put, sA_, sB_, sC_, i64_w, i32_w]; rfl
     exact norm_ (by simp only [putAll, Act.put, sA_, sB_, sC_]) (hCont (.slice Ao42 t287.length co42, .slice Ao43 t290.length co43, v294, v297, gb299) _ ⟨hHeld, (by (with_reducible repeat (first | apply Kd.zG | apply Kd.zH | apply Kd.zI)); exact Kd.zS HO289.out (fun _ hk => ⟨hk.1.2, hk.2⟩)), (by (with_reducible repeat (first | apply Kd.zG | apply Kd.zH | apply Kd.zI)); exact Kd.zS HO292.out (fun _ hk => ⟨hk.2, ⟨hk.1.1.1.2, ⟨hk.1.1.2, hk.1.2⟩⟩⟩)), (by (with_reducible repeat (first | apply Kd.zG | apply Kd.zH | apply Kd.zI)); exact Kd.zS HO295.out (fun _ hk => ⟨hk.1.2, hk.2⟩)), (by (with_reducible repeat (first | apply Kd.zG | apply Kd.zH | apply Kd.zI)); exact Kd.zS HO298.out (fun _ hk => ⟨hk.1.1.2, ⟨hk.1.1.1.2, ⟨hk.1.2, hk.2⟩⟩⟩)), (aR HO_5), (by (with_reducible repeat (first | apply Kd.zG | apply Kd.zH | apply Kd.zI)); exact Kd.zS HO_6.out (fun _ hk => ⟨hk.1.2, ⟨hk.2, ⟨hk.1.1.1, hk.1.1.2⟩⟩⟩)), (aB BK271), (aB BK277), (aB BK278), (aB BK299), GW299.out, GE299.out, NB271_299.out, NB299_271.out, NB277_299.out, NB299_277.out, NB278_299.out, NB299_278.out, (aL HB)⟩)
    skip
    refine box_step ?hg (N := 8) ?hd (cs := #[.slice none 0 0, .slice none 0 0]) (t := 60) ?hr ?_; (case hd => rfl); (case hg => rfl); (case hr => first | (go_simp; done) | (go_simp; rfl))
    intro gb299 hg w40 hbox hb
    have n0_ := zA.mk (Kd.zO (aR HO_5) hb); have n1_ := zA.mk (Kd.zO (aR HO_6) hb); have n2_ := zA.mk (Kd.zO (aR HO289) hb); have n3_ := zA.mk (zF (g := gb271) (o := .cells #[.slice A0_0 l0_0.length c0_0, .slice A0_1 l0_1.length c0_1, .slice A0_2 l0_2.length c0_2, .slice A0_3 l0_3.length c0_3, .slice A0_4 l0_4.length c0_4] 58 (0, 0)) (aB BK271) hb); have n4_ := zA.mk (zF (g := gb277) (o := ob277) (aB BK277) hb); have n5_ := zA.mk (zF (g := gb278) (o := ob278) (aB BK278) hb); have n6_ := zA.mk (below_step (aL HB) hb); have n7_ := zA.mk (hbox); have n8_ := zA.mk ((by rw [hg]; exact (below_size (aL HB)) : w.heap.size ≤ gb299))
    have n9_ := zA.mk ((by rw [hg]; exact (below_size (aL HB)) : w.heap.size ≤ gb299))
    have n10_ := zA.mk ((by rw [hg]; exact Nat.ne_of_lt (blk_lt (g := gb271) (o := .cells #[.slice A0_0 l0_0.length c0_0, .slice A0_1 l0_1.length c0_1, .slice A0_2 l0_2.length c0_2, .slice A0_3 l0_3.length c0_3, .slice A0_4 l0_4.length c0_4] 58 (0, 0)) (aB BK271)) : gb271 ≠ gb299))
    have n11_ := zA.mk ((by rw [hg]; exact Nat.ne_of_gt (blk_lt (g := gb271) (o := .cells #[.slice A0_0 l0_0.length c0_0, .slice A0_1 l0_1.length c0_1, .slice A0_2 l0_2.length c0_2, .slice A0_3 l0_3.length c0_3, .slice A0_4 l0_4.length c0_4] 58 (0, 0)) (aB BK271)) : gb299 ≠ gb271))
    have n12_ := zA.mk ((by rw [hg]; exact Nat.ne_of_lt (blk_lt (g := gb277) (o := ob277) (aB BK277)) : gb277 ≠ gb299))
    have n13_ := zA.mk ((by rw [hg]; exact Nat.ne_of_gt (blk_lt (g := gb277) (o := ob277) (aB BK277)) : gb299 ≠ gb277))
    have n14_ := zA.mk ((by rw [hg]; exact Nat.ne_of_lt (blk_lt (g := gb278) (o := ob278) (aB BK278)) : gb278 ≠ gb299))
    have n15_ := zA.mk ((by rw [hg]; exact Nat.ne_of_gt (blk_lt (g := gb278) (o := ob278) (aB BK278)) : gb299 ≠ gb278))
    clear HO_5 HO_6 HO289 BK271 BK277 BK278 HB; have HO_5 := n0_; have HO_6 := n1_; have HO289 := n2_; have BK271 := n3_; have BK277 := n4_; have BK278 := n5_; have HB := n6_; have BK299 := n7_; have GW299 := n8_; have GE299 := n9_; have NB271_299 := n10_; have NB299_271 := n11_; have NB277_299 := n12_; have NB299_277 := n13_; have NB278_299 := n14_; have NB299_278 := n15_; clear n0_ n1_ n2_ n3_ n4_ n5_ n6_ n7_ n8_ n9_ n10_ n11_ n12_ n13_ n14_ n15_; clear hb hbox hg; refine hK.out _ _ ⟨(zE BK271.out 0).trans rfl, (zE BK271.out 1).trans rfl, (zE BK271.out 2).trans rfl, (zE BK271.out 3).trans rfl, (zE BK271.out 4).trans rfl⟩ (fun hHeld => ?_)
    clear hK K; refine norm_ (a' := ?_) ?_ ?_
    rotate_left
    ·show Act.put _ (some 8) _ = _
     simp only [Act.put, sA_, sB_, sC_, i64_w, i32_w]; rfl
    refine one_ (i := 4) (N := some 49) #[true, true, true, true, true, true, true, true, true, false, true, false] rfl rfl (one_of HT_.out (by kernel_rfl)) (by decide) (fun K hK => ?_)
    refine goes_ Try.func18 (by kernel_rfl) rfl #[.slice A0_1 l0_1.length c0_1] (by rfl) rfl rfl aT ?_
    with_reducible refine (h3_Opps.calls k1 _ _ l0_1 t290 _ ?side1 ?side2 A33.out).mono ?_
    (case side1 => exact aA HR0_1 HB)
    (case side2 => exact HC0_1.out)
    rintro e w41 ⟨v291, rfl, ho0, hb⟩
    refine ⟨_, rfl, ?_⟩
    have n0_ := zA.mk (Kd.zO (aR HO_5) hb); have n1_ := zA.mk (Kd.R_elder' (aR HO_6) (Kd.R_base ho0) hb); have n2_ := zA.mk (Kd.zO (aR HO289) hb); have n3_ := zA.mk (Kd.zR (Kd.R_newB (Kd.R_newB (Kd.R_new' ho0 (Kd.R_lt (aR HO_6))) (g := gb277) (o := ob277) (aB BK277)) (g := gb278) (o := ob278) (aB BK278)) (below_size (aL HB))); have n4_ := zA.mk (zF (g := gb271) (o := .cells #[.slice A0_0 l0_0.length c0_0, .slice A0_1 l0_1.length c0_1, .slice A0_2 l0_2.length c0_2, .slice A0_3 l0_3.length c0_3, .slice A0_4 l0_4.length c0_4] 58 (0, 0)) (aB BK271) hb); have n5_ := zA.mk (zF (g := gb277) (o := ob277) (aB BK277) hb); have n6_ := zA.mk (zF (g := gb278) (o := ob278) (aB BK278) hb); have n7_ := zA.mk (zF (g := gb299) (o := .cells #[.slice none 0 0, .slice none 0 0] 60 (0, 0)) (aB BK299) hb); have n8_ := zA.mk (below_step (aL HB) hb); clear HO_5; clear HO_6; clear HO289; clear BK271; clear BK277; clear BK278; clear BK299; clear HB; have HO_5 := n0_; have HO_6 := n1_; have HO289 := n2_; have HO292 := n3_; have BK271 := n4_; have BK277 := n5_; have BK278 := n6_; have BK299 := n7_; have HB := n8_; clear n0_ n1_ n2_ n3_ n4_ n5_ n6_ n7_ n8_; (try clear hb)
    (try clear hb2)
    (try clear hk)
    (try clear hi)
    (try clear ho0)
    obtain ⟨Ao42, co42, eo42⟩ := Kd.zQ HO289.out; (first | subst eo42 | (injection eo42 with f1_ f2_ f3_; have f4_ := f1_.symm; have f5_ := f3_.symm; clear f1_ f2_ f3_; subst f4_; subst f5_))
    obtain ⟨Ao43, co43, eo43⟩ := Kd.zQ HO292.out; (first | subst eo43 | (injection eo43 with f1_ f2_ f3_; have f4_ := f1_.symm; have f5_ := f3_.symm; clear f1_ f2_ f3_; subst f4_; subst f5_))
    refine hK.out _ _ ⟨(zE BK271.out 0).trans rfl, (zE BK271.out 1).trans rfl, (zE BK271.out 2).trans rfl, (zE BK271.out 3).trans rfl, (zE BK271.out 4).trans rfl⟩ (fun hHeld => ?_)
    clear hK K; refine norm_ (a' := ?_) ?_ ?_
    rotate_left
    ·show Act.put _ (some 49) _ = _
     simp only [Act.put, sA_, sB_, sC_, i64_w, i32_w]; rfl
    refine one_ (i := 9) (N := some 54) #[true, true, true, true, true, true, true, true, true, true, true, false] rfl rfl (one_of HT_.out (by kernel_rfl)) (by decide) (fun K hK => ?_)
    refine goes_ Try.func24 (by kernel_rfl) rfl #[.slice Ao42 t287.length co42, .slice Ao43 t290.length co43, .slice Ao25 x6_1.length co25, .slice A0_3 l0_3.length c0_3, .pointer (some ⟨gb277, 0, none⟩)] (by rfl) rfl rfl aT ?_
    with_reducible refine (items_Make.calls k1 _ _ t287 _ _ t290 _ _ x6_1 _ _ l0_3 (.pointer (some ⟨gb277, 0, none⟩)) t278 t293 t296 _ ?side1 ?side2 ?side3 ?side4 ?side5 ?side6 ?side7 ?side8 ?side9 A34.out).mono ?_
    (case side1 => exact aF HO289)
    (case side2 => exact (Kd.zN HO289.out).2.1)
    (case side3 => exact aF HO292)
    (case side4 => exact (Kd.zN HO292.out).2.1)
    (case side5 => exact aF HO_6)
    (case side6 => exact (Kd.zN HO_6.out).2.1)
    (case side7 => exact aA HR0_3 HB)
    (case side8 => exact HC0_3.out)
    (case side9 => exact TabO.at HTt278.out (aB BK277) (aB BK278))
    rintro e w44 ⟨v294, v297, rfl, ho0, ho1, hb⟩
    refine ⟨_, rfl, ?_⟩
    have n0_ := zA.mk (Kd.zO (aR HO_5) hb); have n1_ := zA.mk (Kd.R_elder' (aR HO_6) (Kd.R_base ho1) hb); have n2_ := zA.mk (Kd.zO (aR HO289) hb); have n3_ := zA.mk (Kd.R_elder' (aR HO292) (Kd.R_base ho1) hb); have n4_ := zA.mk (Kd.zR (Kd.R_newB (Kd.R_newB ho0 (g := gb277) (o := ob277) (aB BK277)) (g := gb278) (o := ob278) (aB BK278)) (below_size (aL HB))); have n5_ := zA.mk (Kd.zR (Kd.R_newB (Kd.R_newB (Kd.R_new' (Kd.R_new' ho1 (Kd.R_lt (aR HO_6))) (Kd.R_lt (aR HO292))) (g := gb277) (o := ob277) (aB BK277)) (g := gb278) (o := ob278) (aB BK278)) (below_size (aL HB))); have n6_ := zA.mk (zF (g := gb271) (o := .cells #[.slice A0_0 l0_0.length c0_0, .slice A0_1 l0_1.length c0_1, .slice A0_2 l0_2.length c0_2, .slice A0_3 l0_3.length c0_3, .slice A0_4 l0_4.length c0_4] 58 (0, 0)) (aB BK271) hb); have n7_ := zA.mk (zF (g := gb277) (o := ob277) (aB BK277) hb); have n8_ := zA.mk (zF (g := gb278) (o := ob278) (aB BK278) hb); have n9_ := zA.mk (zF (g := gb299) (o := .cells #[.slice none 0 0, .slice none 0 0] 60 (0, 0)) (aB BK299) hb); have n10_ := zA.mk (below_step (aL HB) hb); clear HO_5; clear HO_6; clear HO289; clear HO292; clear BK271; clear BK277; clear BK278; clear BK299; clear HB; have HO_5 := n0_; have HO_6 := n1_; have HO289 := n2_; have HO292 := n3_; have HO295 := n4_; have HO298 := n5_; have BK271 := n6_; have BK277 := n7_; have BK278 := n8_; have BK299 := n9_; have HB := n10_; clear n0_ n1_ n2_ n3_ n4_ n5_ n6_ n7_ n8_ n9_ n10_
    (try clear hb)
    (try clear hb2)
    (try clear hk)
    (try clear hi)
    (try clear ho0)
    (try clear ho1)
    refine hK.out _ _ ⟨(zE BK271.out 0).trans rfl, (zE BK271.out 1).trans rfl, (zE BK271.out 2).trans rfl, (zE BK271.out 3).trans rfl, (zE BK271.out 4).trans rfl⟩ (fun hHeld => ?_)
    clear hK K; refine norm_ (a' := ?_) ?_ ?_
    rotate_left
    ·show Act.put _ (some 54) _ = _
     simp only [Act.put, sA_, sB_, sC_, i64_w, i32_w]; rfl
    exact norm_ (by simp only [putAll, Act.put, sA_, sB_, sC_]) (hCont (.slice Ao42 t287.length co42, .slice Ao43 t290.length co43, v294, v297, gb299) _ ⟨hHeld, (by (with_reducible repeat (first | apply Kd.zG | apply Kd.zH | apply Kd.zI)); exact Kd.zS HO289.out (fun _ hk => ⟨hk.1.2, hk.2⟩)), (by (with_reducible repeat (first | apply Kd.zG | apply Kd.zH | apply Kd.zI)); exact Kd.zS HO292.out (fun _ hk => ⟨hk.2, ⟨hk.1.1.1.2, ⟨hk.1.1.2, hk.1.2⟩⟩⟩)), (by (with_reducible repeat (first | apply Kd.zG | apply Kd.zH | apply Kd.zI)); exact Kd.zS HO295.out (fun _ hk => ⟨hk.1.2, hk.2⟩)), (by (with_reducible repeat (first | apply Kd.zG | apply Kd.zH | apply Kd.zI)); exact Kd.zS HO298.out (fun _ hk => ⟨hk.1.1.2, ⟨hk.1.1.1.2, ⟨hk.1.2, hk.2⟩⟩⟩)), (aR HO_5), (by (with_reducible repeat (first | apply Kd.zG | apply Kd.zH | apply Kd.zI)); exact Kd.zS HO_6.out (fun _ hk => ⟨hk.1.2, ⟨hk.2, ⟨hk.1.1.1, hk.1.1.2⟩⟩⟩)), (aB BK271), (aB BK277), (aB BK278), (aB BK299), GW299.out, GE299.out, NB271_299.out, NB299_271.out, NB277_299.out, NB299_277.out, NB278_299.out, NB299_278.out, (aL HB)⟩)
   skip
   refine box_step ?hg (N := 8) ?hd (cs := #[.slice none 0 0, .slice none 0 0]) (t := 60) ?hr ?_; (case hd => rfl); (case hg => rfl); (case hr => first | (go_simp; done) | (go_simp; rfl))
   intro gb299 hg w39 hbox hb
   have n0_ := zA.mk (Kd.zO (aR HO_5) hb); have n1_ := zA.mk (Kd.zO (aR HO_6) hb); have n2_ := zA.mk (zF (g := gb271) (o := .cells #[.slice A0_0 l0_0.length c0_0, .slice A0_1 l0_1.length c0_1, .slice A0_2 l0_2.length c0_2, .slice A0_3 l0_3.length c0_3, .slice A0_4 l0_4.length c0_4] 58 (0, 0)) (aB BK271) hb); have n3_ := zA.mk (zF (g := gb277) (o := ob277) (aB BK277) hb); have n4_ := zA.mk (zF (g := gb278) (o := ob278) (aB BK278) hb); have n5_ := zA.mk (below_step (aL HB) hb); have n6_ := zA.mk (hbox); have n7_ := zA.mk ((by rw [hg]; exact (below_size (aL HB)) : w.heap.size ≤ gb299))
   have n8_ := zA.mk ((by rw [hg]; exact (below_size (aL HB)) : w.heap.size ≤ gb299))
   have n9_ := zA.mk ((by rw [hg]; exact Nat.ne_of_lt (blk_lt (g := gb271) (o := .cells #[.slice A0_0 l0_0.length c0_0, .slice A0_1 l0_1.length c0_1, .slice A0_2 l0_2.length c0_2, .slice A0_3 l0_3.length c0_3, .slice A0_4 l0_4.length c0_4] 58 (0, 0)) (aB BK271)) : gb271 ≠ gb299))
   have n10_ := zA.mk ((by rw [hg]; exact Nat.ne_of_gt (blk_lt (g := gb271) (o := .cells #[.slice A0_0 l0_0.length c0_0, .slice A0_1 l0_1.length c0_1, .slice A0_2 l0_2.length c0_2, .slice A0_3 l0_3.length c0_3, .slice A0_4 l0_4.length c0_4] 58 (0, 0)) (aB BK271)) : gb299 ≠ gb271))
   have n11_ := zA.mk ((by rw [hg]; exact Nat.ne_of_lt (blk_lt (g := gb277) (o := ob277) (aB BK277)) : gb277 ≠ gb299))
   have n12_ := zA.mk ((by rw [hg]; exact Nat.ne_of_gt (blk_lt (g := gb277) (o := ob277) (aB BK277)) : gb299 ≠ gb277))
   have n13_ := zA.mk ((by rw [hg]; exact Nat.ne_of_lt (blk_lt (g := gb278) (o := ob278) (aB BK278)) : gb278 ≠ gb299))
   have n14_ := zA.mk ((by rw [hg]; exact Nat.ne_of_gt (blk_lt (g := gb278) (o := ob278) (aB BK278)) : gb299 ≠ gb278))
   clear HO_5 HO_6 BK271 BK277 BK278 HB; have HO_5 := n0_; have HO_6 := n1_; have BK271 := n2_; have BK277 := n3_; have BK278 := n4_; have HB := n5_; have BK299 := n6_; have GW299 := n7_; have GE299 := n8_; have NB271_299 := n9_; have NB299_271 := n10_; have NB277_299 := n11_; have NB299_277 := n12_; have NB278_299 := n13_; have NB299_278 := n14_; clear n0_ n1_ n2_ n3_ n4_ n5_ n6_ n7_ n8_ n9_ n10_ n11_ n12_ n13_ n14_; clear hb hbox hg; refine hK.out _ _ ⟨(zE BK271.out 0).trans rfl, (zE BK271.out 1).trans rfl, (zE BK271.out 2).trans rfl, (zE BK271.out 3).trans rfl, (zE BK271.out 4).trans rfl⟩ (fun hHeld => ?_)
   clear hK K; refine norm_ (a' := ?_) ?_ ?_
   rotate_left
   ·show Act.put _ (some 8) _ = _
    simp only [Act.put, sA_, sB_, sC_, i64_w, i32_w]; rfl
   refine one_ (i := 1) (N := some 46) #[true, true, true, true, false, true, true, true, true, false, true, false] rfl rfl (one_of HT_.out (by kernel_rfl)) (by decide) (fun K hK => ?_)
   refine goes_ Try.func16 (by kernel_rfl) rfl #[.slice Ao37 t279.length co37] (by rfl) rfl rfl aT ?_
   with_reducible refine (stanzaref01_All.calls k1 _ _ t279 t287 _ ?side1 ?side2 A32.out).mono ?_
   (case side1 => exact aF HO_5)
   (case side2 => exact (Kd.zN HO_5.out).2.1)
   rintro e w40 ⟨v288, rfl, ho0, hb⟩
   refine ⟨_, rfl, ?_⟩
   have n0_ := zA.mk (Kd.zO (aR HO_5) hb); have n1_ := zA.mk (Kd.zO (aR HO_6) hb); have n2_ := zA.mk (Kd.zR (Kd.R_newB (Kd.R_newB ho0 (g := gb277) (o := ob277) (aB BK277)) (g := gb278) (o := ob278) (aB BK278)) (below_size (aL HB))); have n3_ := zA.mk (zF (g := gb271) (o := .cells #[.slice A0_0 l0_0.length c0_0, .slice A0_1 l0_1.length c0_1, .slice A0_2 l0_2.length c0_2, .slice A0_3 l0_3.length c0_3, .slice A0_4 l0_4.length c0_4] 58 (0, 0)) (aB BK271) hb); have n4_ := zA.mk (zF (g := gb277) (o := ob277) (aB BK277) hb); have n5_ := zA.mk (zF (g := gb278) (o := ob278) (aB BK278) hb); have n6_ := zA.mk (zF (g := gb299) (o := .cells #[.slice none 0 0, .slice none 0 0] 60 (0, 0)) (aB BK299) hb); have n7_ := zA.mk (below_step (aL HB) hb); clear HO_5; clear HO_6; clear BK271; clear BK277; clear BK278; clear BK299; clear HB; have HO_5 := n0_; have HO_6 := n1_; have HO289 := n2_; have BK271 := n3_; have BK277 := n4_; have BK278 := n5_; have BK299 := n6_; have HB := n7_; clear n0_ n1_ n2_ n3_ n4_ n5_ n6_ n7_; (try clear hb)
   (try clear hb2)
   (try clear hk)
   (try clear hi)
   (try clear ho0)
   refine hK.out _ _ ⟨(zE BK271.out 0).trans rfl, (zE BK271.out 1).trans rfl, (zE BK271.out 2).trans rfl, (zE BK271.out 3).trans rfl, (zE BK271.out 4).trans rfl⟩ (fun hHeld => ?_)
   clear hK K; refine norm_ (a' := ?_) ?_ ?_
   rotate_left
   ·show Act.put _ (some 46) _ = _
    simp only [Act.put, sA_, sB_, sC_, i64_w, i32_w]; rfl
   refine one_ (i := 4) (N := some 49) #[true, true, true, true, true, true, true, true, true, false, true, false] rfl rfl (one_of HT_.out (by kernel_rfl)) (by decide) (fun K hK => ?_)
   refine goes_ Try.func18 (by kernel_rfl) rfl #[.slice A0_1 l0_1.length c0_1] (by rfl) rfl rfl aT ?_
   with_reducible refine (h3_Opps.calls k1 _ _ l0_1 t290 _ ?side1 ?side2 A33.out).mono ?_
   (case side1 => exact aA HR0_1 HB)
   (case side2 => exact HC0_1.out)
   rintro e w41 ⟨v291, rfl, ho0, hb⟩
   refine ⟨_, rfl, ?_⟩
   have n0_ := zA.mk (Kd.zO (aR HO_5) hb); have n1_ := zA.mk (Kd.R_elder' (aR HO_6) (Kd.R_base ho0) hb); have n2_ := zA.mk (Kd.zO (aR HO289) hb); have n3_ := zA.mk (Kd.zR (Kd.R_newB (Kd.R_newB (Kd.R_new' ho0 (Kd.R_lt (aR HO_6))) (g := gb277) (o := ob277) (aB BK277)) (g := gb278) (o := ob278) (aB BK278)) (below_size (aL HB))); have n4_ := zA.mk (zF (g := gb271) (o := .cells #[.slice A0_0 l0_0.length c0_0, .slice A0_1 l0_1.length c0_1, .slice A0_2 l0_2.length c0_2, .slice A0_3 l0_3.length c0_3, .slice A0_4 l0_4.length c0_4] 58 (0, 0)) (aB BK271) hb); have n5_ := zA.mk (zF (g := gb277) (o := ob277) (aB BK277) hb); have n6_ := zA.mk (zF (g := gb278) (o := ob278) (aB BK278) hb); have n7_ := zA.mk (zF (g := gb299) (o := .cells #[.slice none 0 0, .slice none 0 0] 60 (0, 0)) (aB BK299) hb); have n8_ := zA.mk (below_step (aL HB) hb); clear HO_5; clear HO_6; clear HO289; clear BK271; clear BK277; clear BK278; clear BK299; clear HB; have HO_5 := n0_; have HO_6 := n1_; have HO289 := n2_; have HO292 := n3_; have BK271 := n4_; have BK277 := n5_; have BK278 := n6_; have BK299 := n7_; have HB := n8_; clear n0_ n1_ n2_ n3_ n4_ n5_ n6_ n7_ n8_; (try clear hb)
   (try clear hb2)
   (try clear hk)
   (try clear hi)
   (try clear ho0)
   obtain ⟨Ao42, co42, eo42⟩ := Kd.zQ HO289.out; (first | subst eo42 | (injection eo42 with f1_ f2_ f3_; have f4_ := f1_.symm; have f5_ := f3_.symm; clear f1_ f2_ f3_; subst f4_; subst f5_))
   obtain ⟨Ao43, co43, eo43⟩ := Kd.zQ HO292.out; (first | subst eo43 | (injection eo43 with f1_ f2_ f3_; have f4_ := f1_.symm; have f5_ := f3_.symm; clear f1_ f2_ f3_; subst f4_; subst f5_))
   refine hK.out _ _ ⟨(zE BK271.out 0).trans rfl, (zE BK271.out 1).trans rfl, (zE BK271.out 2).trans rfl, (zE BK271.out 3).trans rfl, (zE BK271.out 4).trans rfl⟩ (fun hHeld => ?_)
   clear hK K; refine norm_ (a' := ?_) ?_ ?_
   rotate_left
   ·show Act.put _ (some 49) _ = _
    simp only [Act.put, sA_, sB_, sC_, i64_w, i32_w]; rfl
   refine one_ (i := 9) (N := some 54) #[true, true, true, true, true, true, true, true, true, true, true, false] rfl rfl (one_of HT_.out (by kernel_rfl)) (by decide) (fun K hK => ?_)
   refine goes_ Try.func24 (by kernel_rfl) rfl #[.slice Ao42 t287.length co42, .slice Ao43 t290.length co43, .slice Ao25 x6_1.length co25, .slice A0_3 l0_3.length c0_3, .pointer (some ⟨gb277, 0, none⟩)] (by rfl) rfl rfl aT ?_
   with_reducible refine (items_Make.calls k1 _ _ t287 _ _ t290 _ _ x6_1 _ _ l0_3 (.pointer (some ⟨gb277, 0, none⟩)) t278 t293 t296 _ ?side1 ?side2 ?side3 ?side4 ?side5 ?side6 ?side7 ?side8 ?side9 A34.out).mono ?_
   (case side1 => exact aF HO289)
   (case side2 => exact (Kd.zN HO289.out).2.1)
   (case side3 => exact aF HO292)
   (case side4 => exact (Kd.zN HO292.out).2.1)
   (case side5 => exact aF HO_6)
   (case side6 => exact (Kd.zN HO_6.out).2.1)
   (case side7 => exact aA HR0_3 HB)
   (case side8 => exact HC0_3.out)
   (case side9 => exact TabO.at HTt278.out (aB BK277) (aB BK278))
   rintro e w44 ⟨v294, v297, rfl, ho0, ho1, hb⟩
   refine ⟨_, rfl, ?_⟩
   have n0_ := zA.mk (Kd.zO (aR HO_5) hb); have n1_ := zA.mk (Kd.R_elder' (aR HO_6) (Kd.R_base ho1) hb); have n2_ := zA.mk (Kd.zO (aR HO289) hb); have n3_ := zA.mk (Kd.R_elder' (aR HO292) (Kd.R_base ho1) hb); have n4_ := zA.mk (Kd.zR (Kd.R_newB (Kd.R_newB ho0 (g := gb277) (o := ob277) (aB BK277)) (g := gb278) (o := ob278) (aB BK278)) (below_size (aL HB))); have n5_ := zA.mk (Kd.zR (Kd.R_newB (Kd.R_newB (Kd.R_new' (Kd.R_new' ho1 (Kd.R_lt (aR HO_6))) (Kd.R_lt (aR HO292))) (g := gb277) (o := ob277) (aB BK277)) (g := gb278) (o := ob278) (aB BK278)) (below_size (aL HB))); have n6_ := zA.mk (zF (g := gb271) (o := .cells #[.slice A0_0 l0_0.length c0_0, .slice A0_1 l0_1.length c0_1, .slice A0_2 l0_2.length c0_2, .slice A0_3 l0_3.length c0_3, .slice A0_4 l0_4.length c0_4] 58 (0, 0)) (aB BK271) hb); have n7_ := zA.mk (zF (g := gb277) (o := ob277) (aB BK277) hb); have n8_ := zA.mk (zF (g := gb278) (o := ob278) (aB BK278) hb); have n9_ := zA.mk (zF (g := gb299) (o := .cells #[.slice none 0 0, .slice none 0 0] 60 (0, 0)) (aB BK299) hb); have n10_ := zA.mk (below_step (aL HB) hb); clear HO_5; clear HO_6; clear HO289; clear HO292; clear BK271; clear BK277; clear BK278; clear BK299; clear HB; have HO_5 := n0_; have HO_6 := n1_; have HO289 := n2_; have HO292 := n3_; have HO295 := n4_; have HO298 := n5_; have BK271 := n6_; have BK277 := n7_; have BK278 := n8_; have BK299 := n9_; have HB := n10_; clear n0_ n1_ n2_ n3_ n4_ n5_ n6_ n7_ n8_ n9_ n10_
   (try clear hb)
   (try clear hb2)
   (try clear hk)
   (try clear hi)
   (try clear ho0)
   (try clear ho1)
   refine hK.out _ _ ⟨(zE BK271.out 0).trans rfl, (zE BK271.out 1).trans rfl, (zE BK271.out 2).trans rfl, (zE BK271.out 3).trans rfl, (zE BK271.out 4).trans rfl⟩ (fun hHeld => ?_)
   clear hK K; refine norm_ (a' := ?_) ?_ ?_
   rotate_left
   ·show Act.put _ (some 54) _ = _
    simp only [Act.put, sA_, sB_, sC_, i64_w, i32_w]; rfl
   exact norm_ (by simp only [putAll, Act.put, sA_, sB_, sC_]) (hCont (.slice Ao42 t287.length co42, .slice Ao43 t290.length co43, v294, v297, gb299) _ ⟨hHeld, (by (with_reducible repeat (first | apply Kd.zG | apply Kd.zH | apply Kd.zI)); exact Kd.zS HO289.out (fun _ hk => ⟨hk.1.2, hk.2⟩)), (by (with_reducible repeat (first | apply Kd.zG | apply Kd.zH | apply Kd.zI)); exact Kd.zS HO292.out (fun _ hk => ⟨hk.2, ⟨hk.1.1.1.2, ⟨hk.1.1.2, hk.1.2⟩⟩⟩)), (by (with_reducible repeat (first | apply Kd.zG | apply Kd.zH | apply Kd.zI)); exact Kd.zS HO295.out (fun _ hk => ⟨hk.1.2, hk.2⟩)), (by (with_reducible repeat (first | apply Kd.zG | apply Kd.zH | apply Kd.zI)); exact Kd.zS HO298.out (fun _ hk => ⟨hk.1.1.2, ⟨hk.1.1.1.2, ⟨hk.1.2, hk.2⟩⟩⟩)), (aR HO_5), (by (with_reducible repeat (first | apply Kd.zG | apply Kd.zH | apply Kd.zI)); exact Kd.zS HO_6.out (fun _ hk => ⟨hk.1.2, ⟨hk.2, ⟨hk.1.1.1, hk.1.1.2⟩⟩⟩)), (aB BK271), (aB BK277), (aB BK278), (aB BK299), GW299.out, GE299.out, NB271_299.out, NB299_271.out, NB277_299.out, NB299_277.out, NB278_299.out, NB299_278.out, (aL HB)⟩)
  rintro ⟨v288, v291, v294, v297, gb299⟩ w45 ⟨hS_, h0_, h1_, h2_, h3_, h4_, h5_, h6_, h7_, h8_, h9_, h10_, h11_, h12_, h13_, h14_, h15_, h16_, h17_, h18_⟩
  have n0_ : zA (Kd.R k50 50 w45 w.heap.size (fun k_ => k_ ≠ gb277 ∧ k_ ≠ gb278) v288 t287) := ⟨h0_⟩
  have n1_ : zA (Kd.R (Kd.int .u8) 53 w45 w.heap.size (fun k_ => some k_ ≠ (v297 : Value).ownBlock ∧ some k_ ≠ (.slice Ao25 x6_1.length co25 : Value).ownBlock ∧ k_ ≠ gb277 ∧ k_ ≠ gb278) v291 t290) := ⟨h1_⟩
  have n2_ : zA (Kd.R k48 48 w45 w.heap.size (fun k_ => k_ ≠ gb277 ∧ k_ ≠ gb278) v294 t293) := ⟨h2_⟩
  have n3_ : zA (Kd.R (Kd.int .u8) 53 w45 w.heap.size (fun k_ => some k_ ≠ (v291 : Value).ownBlock ∧ some k_ ≠ (.slice Ao25 x6_1.length co25 : Value).ownBlock ∧ k_ ≠ gb277 ∧ k_ ≠ gb278) v297 t296) := ⟨h3_⟩
  have n4_ : zA (Kd.R (Kd.int .u8) 5 w45 w.heap.size (fun k_ => k_ ≠ gb277 ∧ k_ ≠ gb278) (.slice Ao37 t279.length co37) t279) := ⟨h4_⟩
  have n5_ : zA (Kd.R (Kd.int .u8) 53 w45 w.heap.size (fun k_ => some k_ ≠ (v291 : Value).ownBlock ∧ some k_ ≠ (v297 : Value).ownBlock ∧ k_ ≠ gb277 ∧ k_ ≠ gb278) (.slice Ao25 x6_1.length co25) x6_1) := ⟨h5_⟩
  have n6_ : zA (w45.heap[gb271]? = some (.cells #[.slice A0_0 l0_0.length c0_0, .slice A0_1 l0_1.length c0_1, .slice A0_2 l0_2.length c0_2, .slice A0_3 l0_3.length c0_3, .slice A0_4 l0_4.length c0_4] 58 (0, 0))) := ⟨h6_⟩
  have n7_ : zA (w45.heap[gb277]? = some (ob277)) := ⟨h7_⟩
  have n8_ : zA (w45.heap[gb278]? = some (ob278)) := ⟨h8_⟩
  have n9_ : zA (w45.heap[gb299]? = some (.cells #[.slice none 0 0, .slice none 0 0] 60 (0, 0))) := ⟨h9_⟩
  have n10_ : zA (w.heap.size ≤ gb299) := ⟨h10_⟩
  have n11_ : zA (w.heap.size ≤ gb299) := ⟨h11_⟩
  have n12_ : zA (gb271 ≠ gb299) := ⟨h12_⟩
  have n13_ : zA (gb299 ≠ gb271) := ⟨h13_⟩
  have n14_ : zA (gb277 ≠ gb299) := ⟨h14_⟩
  have n15_ : zA (gb299 ≠ gb277) := ⟨h15_⟩
  have n16_ : zA (gb278 ≠ gb299) := ⟨h16_⟩
  have n17_ : zA (gb299 ≠ gb278) := ⟨h17_⟩
  have n18_ : zA (Below w.heap.size w w45) := ⟨h18_⟩
  clear HO_5 HO_6 BK271 BK277 BK278 HB h0_ h1_ h2_ h3_ h4_ h5_ h6_ h7_ h8_ h9_ h10_ h11_ h12_ h13_ h14_ h15_ h16_ h17_ h18_; have HO289 := n0_; have HO292 := n1_; have HO295 := n2_; have HO298 := n3_; have HO_5 := n4_; have HO_6 := n5_; have BK271 := n6_; have BK277 := n7_; have BK278 := n8_; have BK299 := n9_; have GW299 := n10_; have GE299 := n11_; have NB271_299 := n12_; have NB299_271 := n13_; have NB277_299 := n14_; have NB299_277 := n15_; have NB278_299 := n16_; have NB299_278 := n17_; have HB := n18_; clear n0_ n1_ n2_ n3_ n4_ n5_ n6_ n7_ n8_ n9_ n10_ n11_ n12_ n13_ n14_ n15_ n16_ n17_ n18_; have hHeld : w45.cell? ⟨gb271, 0, none⟩ = some (.slice A0_0 l0_0.length c0_0) ∧ w45.cell? ⟨gb271, 1, none⟩ = some (.slice A0_1 l0_1.length c0_1) ∧ w45.cell? ⟨gb271, 2, none⟩ = some (.slice A0_2 l0_2.length c0_2) ∧ w45.cell? ⟨gb271, 3, none⟩ = some (.slice A0_3 l0_3.length c0_3) ∧ w45.cell? ⟨gb271, 4, none⟩ = some (.slice A0_4 l0_4.length c0_4) := hS_
  obtain ⟨Ao46, co46, eo46⟩ := Kd.zQ HO295.out; (first | subst eo46 | (injection eo46 with f1_ f2_ f3_; have f4_ := f1_.symm; have f5_ := f3_.symm; clear f1_ f2_ f3_; subst f4_; subst f5_))
  obtain ⟨Ao48, co48, eo48⟩ := Kd.zQ HO298.out; (first | subst eo48 | (injection eo48 with f1_ f2_ f3_; have f4_ := f1_.symm; have f5_ := f3_.symm; clear f1_ f2_ f3_; subst f4_; subst f5_))
  refine norm_ (a' := ?_) ?_ ?_
  rotate_left
  ·simp only [putAll, Act.put, sA_, sB_, sC_]
   rfl
  refine one_ (i := 11) (N := none) #[true, true, true, true, true, true, true, true, true, true, true, true] rfl rfl (one_of HT_.out (by kernel_rfl)) (by decide) (fun K hK => ?_)
  have hs47 : w45.cell? ⟨gb299, 0, none⟩ = some (.slice none 0 0) := (zE BK299.out 0).trans rfl
  have hfs47 := blk_frozen BK299.out 0; have hns47_0 := NB271_299.out; have hns47_1 := NB277_299.out; have hns47_2 := NB278_299.out; have hms47_0 := NB299_271.out; have hms47_1 := NB299_277.out; have hms47_2 := NB299_278.out; have hs49 : w45.cell? ⟨gb299, 1, none⟩ = some (.slice none 0 0) := (zE BK299.out 1).trans rfl
  have hfs49 := blk_frozen BK299.out 1; have hns49_0 := NB271_299.out; have hns49_1 := NB277_299.out; have hns49_2 := NB278_299.out; have hms49_0 := NB299_271.out; have hms49_1 := NB299_277.out; have hms49_2 := NB299_278.out; refine skip_ (w1 := ?_) (by rfl) rfl ?_ ?_
  rotate_left
  ·go_simp
   rfl
  refine hK.out _ _ ⟨((cell_far (p := ⟨gb299, _, none⟩) NB271_299.out _).trans (((cell_far (p := ⟨gb299, _, none⟩) NB271_299.out _).trans (hHeld.1)))), ((cell_far (p := ⟨gb299, _, none⟩) NB271_299.out _).trans (((cell_far (p := ⟨gb299, _, none⟩) NB271_299.out _).trans (hHeld.2.1)))), ((cell_far (p := ⟨gb299, _, none⟩) NB271_299.out _).trans (((cell_far (p := ⟨gb299, _, none⟩) NB271_299.out _).trans (hHeld.2.2.1)))), ((cell_far (p := ⟨gb299, _, none⟩) NB271_299.out _).trans (((cell_far (p := ⟨gb299, _, none⟩) NB271_299.out _).trans (hHeld.2.2.2.1)))), ((cell_far (p := ⟨gb299, _, none⟩) NB271_299.out _).trans (((cell_far (p := ⟨gb299, _, none⟩) NB271_299.out _).trans (hHeld.2.2.2.2))))⟩ (fun hHeld => ?_)
  clear hK K; refine done_ (done_of HT_.out (by kernel_rfl)) ?_
  have hnb50 := NB299_271.out; have hnc50 := NB271_299.out; have hnb51 := NB299_277.out; have hnc51 := NB277_299.out; have hnb52 := NB299_278.out; have hnc52 := NB278_299.out; obtain ⟨hcz53_0, hcz53_1, hfz53_0, hfz53_1⟩ := aC2 BK299; go_upto_region 17 with (first | ((with_reducible refine gate_callee (f := 30) rfl ?_); refine goesL_ (some 56) rfl rfl Try.func30 (by kernel_rfl) rfl #[.agg #[.slice Ao46 t293.length co46, .slice Ao48 t296.length co48]] rfl aT ?_; (with_reducible refine (items_Parts.calls k1 _ _ t293 _ _ t296 t300 _ ?side1 ?side2 ?side3 ?side4 A35.out).mono ?_); (case side1 => refine (Kd.zN (e := 48) (base := w.heap.size) (ok := fun k_ => (k_ ≠ gb277 ∧ k_ ≠ gb278)) (n := t293.length) (c := co46) ?_).2.2; exact (by (with_reducible repeat (first | apply Kd.zG | apply Kd.zH | apply Kd.zI)); exact (Kd.zS (Kd.zP (p := ⟨gb299, 1, none⟩) (Kd.zP (p := ⟨gb299, 0, none⟩) (Kd.zT HO295.out BK299.out (by decide)) (fun _ hk => hk.2) (.slice Ao46 t293.length co46)) (fun _ hk => hk.2) (.slice Ao48 t296.length co48)) (fun _ h_ => h_.1)))); (case side2 => exact (Kd.zN HO295.out).2.1); (case side3 => refine (Kd.zN (e := 53) (base := w.heap.size) (ok := fun k_ => (some k_ ≠ (v291 : Value).ownBlock ∧ (some k_ ≠ (.slice Ao25 x6_1.length co25 : Value).ownBlock ∧ (k_ ≠ gb277 ∧ k_ ≠ gb278)))) (n := t296.length) (c := co48) ?_).2.2; exact (by (with_reducible repeat (first | apply Kd.zG | apply Kd.zH | apply Kd.zI)); exact (Kd.zS (Kd.zP (p := ⟨gb299, 1, none⟩) (Kd.zP (p := ⟨gb299, 0, none⟩) (Kd.zT HO298.out BK299.out (by decide)) (fun _ hk => hk.2) (.slice Ao46 t293.length co46)) (fun _ hk => hk.2) (.slice Ao48 t296.length co48)) (fun _ h_ => h_.1)))); (case side4 => exact (Kd.zN HO298.out).2.1); rintro e w54 ⟨v301, rfl, ho0, hb⟩; refine ⟨_, rfl, ?_⟩; have n0_ := zA.mk (Kd.zO (by (with_reducible repeat (first | apply Kd.zG | apply Kd.zH | apply Kd.zI)); exact (Kd.zS (Kd.zP (p := ⟨gb299, 1, none⟩) (Kd.zP (p := ⟨gb299, 0, none⟩) (Kd.zT HO_5.out BK299.out (by decide)) (fun _ hk => hk.2) (.slice Ao46 t293.length co46)) (fun _ hk => hk.2) (.slice Ao48 t296.length co48)) (fun _ h_ => h_.1))) hb); have n1_ := zA.mk (Kd.zO (by (with_reducible repeat (first | apply Kd.zG | apply Kd.zH | apply Kd.zI)); exact (Kd.zS (Kd.zP (p := ⟨gb299, 1, none⟩) (Kd.zP (p := ⟨gb299, 0, none⟩) (Kd.zT HO_6.out BK299.out (by decide)) (fun _ hk => hk.2) (.slice Ao46 t293.length co46)) (fun _ hk => hk.2) (.slice Ao48 t296.length co48)) (fun _ h_ => h_.1))) hb); have n2_ := zA.mk (Kd.zO (by (with_reducible repeat (first | apply Kd.zG | apply Kd.zH | apply Kd.zI)); exact (Kd.zS (Kd.zP (p := ⟨gb299, 1, none⟩) (Kd.zP (p := ⟨gb299, 0, none⟩) (Kd.zT HO289.out BK299.out (by decide)) (fun _ hk => hk.2) (.slice Ao46 t293.length co46)) (fun _ hk => hk.2) (.slice Ao48 t296.length co48)) (fun _ h_ => h_.1))) hb); have n3_ := zA.mk (Kd.zO (by (with_reducible repeat (first | apply Kd.zG | apply Kd.zH | apply Kd.zI)); exact (Kd.zS (Kd.zP (p := ⟨gb299, 1, none⟩) (Kd.zP (p := ⟨gb299, 0, none⟩) (Kd.zT HO292.out BK299.out (by decide)) (fun _ hk => hk.2) (.slice Ao46 t293.length co46)) (fun _ hk => hk.2) (.slice Ao48 t296.length co48)) (fun _ h_ => h_.1))) hb); have n4_ := zA.mk (Kd.zO (by (with_reducible repeat (first | apply Kd.zG | apply Kd.zH | apply Kd.zI)); exact (Kd.zS (Kd.zP (p := ⟨gb299, 1, none⟩) (Kd.zP (p := ⟨gb299, 0, none⟩) (Kd.zT HO295.out BK299.out (by decide)) (fun _ hk => hk.2) (.slice Ao46 t293.length co46)) (fun _ hk => hk.2) (.slice Ao48 t296.length co48)) (fun _ h_ => h_.1))) hb); have n5_ := zA.mk (Kd.zO (by (with_reducible repeat (first | apply Kd.zG | apply Kd.zH | apply Kd.zI)); exact (Kd.zS (Kd.zP (p := ⟨gb299, 1, none⟩) (Kd.zP (p := ⟨gb299, 0, none⟩) (Kd.zT HO298.out BK299.out (by decide)) (fun _ hk => hk.2) (.slice Ao46 t293.length co46)) (fun _ hk => hk.2) (.slice Ao48 t296.length co48)) (fun _ h_ => h_.1))) hb); have n6_ := zA.mk (Kd.zR (Kd.R_newB (Kd.R_newB ho0 (g := gb277) (o := ob277) (by (with_reducible repeat (first | refine zD ?_ _ | refine zC ?_ | refine zB ?_ _)); refine blk_farO ?_ NB277_299.out _; (with_reducible repeat (first | refine zD ?_ _ | refine zC ?_ | refine zB ?_ _)); refine blk_farO ?_ NB277_299.out _; (with_reducible repeat (first | refine zD ?_ _ | refine zC ?_ | refine zB ?_ _)); exact BK277.out)) (g := gb278) (o := ob278) (by (with_reducible repeat (first | refine zD ?_ _ | refine zC ?_ | refine zB ?_ _)); refine blk_farO ?_ NB278_299.out _; (with_reducible repeat (first | refine zD ?_ _ | refine zC ?_ | refine zB ?_ _)); refine blk_farO ?_ NB278_299.out _; (with_reducible repeat (first | refine zD ?_ _ | refine zC ?_ | refine zB ?_ _)); exact BK278.out)) (below_size (aL HB))); have n7_ := zA.mk (zF (g := gb271) (o := .cells #[.slice A0_0 l0_0.length c0_0, .slice A0_1 l0_1.length c0_1, .slice A0_2 l0_2.length c0_2, .slice A0_3 l0_3.length c0_3, .slice A0_4 l0_4.length c0_4] 58 (0, 0)) (aB BK271) hb); have n8_ := zA.mk (zF (g := gb277) (o := ob277) (by (with_reducible repeat (first | refine zD ?_ _ | refine zC ?_ | refine zB ?_ _)); refine blk_farO ?_ NB277_299.out _; (with_reducible repeat (first | refine zD ?_ _ | refine zC ?_ | refine zB ?_ _)); refine blk_farO ?_ NB277_299.out _; (with_reducible repeat (first | refine zD ?_ _ | refine zC ?_ | refine zB ?_ _)); exact BK277.out) hb); have n9_ := zA.mk (zF (g := gb278) (o := ob278) (by (with_reducible repeat (first | refine zD ?_ _ | refine zC ?_ | refine zB ?_ _)); refine blk_farO ?_ NB278_299.out _; (with_reducible repeat (first | refine zD ?_ _ | refine zC ?_ | refine zB ?_ _)); refine blk_farO ?_ NB278_299.out _; (with_reducible repeat (first | refine zD ?_ _ | refine zC ?_ | refine zB ?_ _)); exact BK278.out) hb); have n10_ := zA.mk (zF (g := gb299) (o := .cells #[.slice Ao46 t293.length co46, .slice Ao48 t296.length co48] 60 (0, 0)) (by (with_reducible repeat (first | refine zD ?_ _ | refine zC ?_ | refine zB ?_ _)); refine blk_put (cs := #[.slice Ao46 t293.length co46, .slice none 0 0]) ?_ 1 _ rfl; (with_reducible repeat (first | refine zD ?_ _ | refine zC ?_ | refine zB ?_ _)); refine blk_put (cs := #[.slice none 0 0, .slice none 0 0]) ?_ 0 _ rfl; (with_reducible repeat (first | refine zD ?_ _ | refine zC ?_ | refine zB ?_ _)); exact BK299.out) hb); have n11_ := zA.mk (below_step (aL HB) hb); clear HO_5; clear HO_6; clear HO289; clear HO292; clear HO295; clear HO298; clear BK271; clear BK277; clear BK278; clear BK299; clear HB; have HO_5 := n0_; have HO_6 := n1_; have HO289 := n2_; have HO292 := n3_; have HO295 := n4_; have HO298 := n5_; have HO302 := n6_; have BK271 := n7_; have BK277 := n8_; have BK278 := n9_; have BK299 := n10_; have HB := n11_; clear n0_ n1_ n2_ n3_ n4_ n5_ n6_ n7_ n8_ n9_ n10_ n11_; (try clear hb); (try clear hb2); (try clear hk); (try clear hi); (try clear ho0)))
  (try simp only [Act.put, sA_, sB_, sC_])
  go_cut [83] (fun v83 wc => ∃ (kq : Nat) (x83_35 : Bool), v83 = .bool x83_35 ∧ zA (stanzalaw11_ItemsRight.j1 kq t300 x83_35 t293 t296 = some r) ∧ zA (kq ≤ k1) ∧ zA (Kd.R (Kd.int .i64) 3 wc w.heap.size (fun k_ => k_ ≠ gb277 ∧ k_ ≠ gb278) v301 t300) ∧ zA (Kd.R k48 48 wc w.heap.size (fun k_ => k_ ≠ gb277 ∧ k_ ≠ gb278) (.slice Ao46 t293.length co46) t293) ∧ zA (Kd.R (Kd.int .u8) 53 wc w.heap.size (fun k_ => k_ ≠ gb277 ∧ k_ ≠ gb278) (.slice Ao48 t296.length co48) t296) ∧ zA (wc.heap[gb271]? = some (.cells #[(.slice A0_0 l0_0.length c0_0), (.slice A0_1 l0_1.length c0_1), (.slice A0_2 l0_2.length c0_2), (.slice A0_3 l0_3.length c0_3), (.slice A0_4 l0_4.length c0_4)] 58 (0, 0))) ∧ zA (wc.heap[gb277]? = some ob277) ∧ zA (wc.heap[gb278]? = some ob278) ∧ zA (wc.heap[gb299]? = some (.cells #[(.slice Ao46 t293.length co46), (.slice Ao48 t296.length co48)] 60 (0, 0))) ∧ zA (Below w.heap.size w wc))
  case first =>
   have H := HC36.out; clear HC36; replace H := Option.bind_eq_some_iff.mp H; obtain ⟨t303, A550, H⟩ := H; replace H : (if t303 = true then ((items_Bytes.f k1 t293 t296).bind fun t304 => (if t304 = (t279.length : Int) then (if (t300.length : Int) = 0 then (stanzalaw11_ItemsRight.j1 k1 t300 true t293 t296) else (if 0 ≤ (wrap64 ((t300.length : Int) - 1)) then (if (wrap64 ((t300.length : Int) - 1)) < (t300.length : Int) then (stanzalaw11_ItemsRight.j1 k1 t300 ((rd t300 (wrap64 ((t300.length : Int) - 1))) != (t293.length : Int)) t293 t296) else (none)) else (none))) else (stanzalaw11_ItemsRight.j1 k1 t300 true t293 t296))) else (stanzalaw11_ItemsRight.j1 k1 t300 true t293 t296)) = some r := H
   have A55 := zA.mk A550; clear A550; by_cases c56 : t303 = true
   rotate_left
   ·replace c56 := Bool.eq_false_iff.mpr c56
    subst c56; have H1 : (stanzalaw11_ItemsRight.j1 k1 t300 true t293 t296) = some r := by rw [if_neg (show ¬ (false = true) by decide)] at H; exact H
    clear H; have H := H1; clear H1; have H' := zA.mk H
    clear H; try go_wp2
    have n0_ := zA.mk (Kd.zI HO_5.out); have n1_ := zA.mk (Kd.zI HO_6.out); have n2_ := zA.mk (Kd.zI HO289.out); have n3_ := zA.mk (Kd.zI HO292.out); have n4_ := zA.mk (Kd.zI HO295.out); have n5_ := zA.mk (Kd.zI HO298.out); have n6_ := zA.mk (Kd.zI HO302.out); have n7_ := zA.mk (zC BK271.out); have n8_ := zA.mk (zC BK277.out); have n9_ := zA.mk (zC BK278.out); have n10_ := zA.mk (zC BK299.out); have n11_ := zA.mk (below_drew1 HB.out); clear HO_5; clear HO_6; clear HO289; clear HO292; clear HO295; clear HO298; clear HO302; clear BK271; clear BK277; clear BK278; clear BK299; clear HB; have HO_5 := n0_; have HO_6 := n1_; have HO289 := n2_; have HO292 := n3_; have HO295 := n4_; have HO298 := n5_; have HO302 := n6_; have BK271 := n7_; have BK277 := n8_; have BK278 := n9_; have BK299 := n10_; have HB := n11_; clear n0_ n1_ n2_ n3_ n4_ n5_ n6_ n7_ n8_ n9_ n10_ n11_; refine start_ (n := 27) (S := fun w' => w'.cell? ⟨gb299, 0, none⟩ = some (.slice Ao46 t293.length co46) ∧ w'.cell? ⟨gb299, 1, none⟩ = some (.slice Ao48 t296.length co48)) (ds := []) #[false, false, false, false, false, false, false, false, false, false, false, false, false, false, false, false, false, false, false, false, false, false, false, false, false, false, false] (by kernel_rfl) rfl rfl ⟨(zE BK299.out 0).trans rfl, (zE BK299.out 1).trans rfl⟩ (fun hHeld => ?_); refine with_tabW stanzalaw11_ItemsRight.tab17 stanzalaw11_ItemsRight.bits17 (fun HT_ HW_ => ?_)
    generalize w54.drew = w74 at HO_5 HO_6 HO289 HO292 HO295 HO298 HO302 BK271 BK277 BK278 BK299 HB hHeld ⊢
    refine take_ (i := 0) (N := some 57) (v := ?_) (a' := ?_) (tf_ 1 27) rfl rfl (take_ofW HT_.out HW_.out (by kernel_rfl)) (fun _ _ _ h => h) (Or.inl ⟨by rfl, ?_⟩) hHeld ?_ ?_
    rotate_left
    ·rintro w' ⟨s0, s1⟩
     go_simp
     with_reducible rfl
    rotate_left
    ·simp only [Act.put, sA_, sB_, sC_, i64_w, i32_w]
     rfl
    refine one_ (i := 1) (N := some 58) #[true, true, false, false, false, false, false, false, false, false, false, false, false, false, false, false, false, false, false, false, false, false, false, false, false, false, false] rfl rfl (one_of HT_.out (by kernel_rfl)) (by decide) (fun K hK => ?_)
    refine goes_ Try.func28 (by kernel_rfl) rfl #[.agg #[.slice Ao46 t293.length co46, .slice Ao48 t296.length co48]] (by rfl) rfl rfl aT ?_
    with_reducible refine (items_Check.calls k1 _ _ t293 _ _ t296 false _ ?side1 ?side2 ?side3 ?side4 A55.out).mono ?_
    (case side1 => exact aF HO295)
    (case side2 => exact (Kd.zN HO295.out).2.1)
    (case side3 => exact aF HO298)
    (case side4 => exact (Kd.zN HO298.out).2.1)
    rintro e w75 ⟨rfl, hb⟩
    refine ⟨_, rfl, ?_⟩
    have n0_ := zA.mk (Kd.zO (aR HO_5) hb); have n1_ := zA.mk (Kd.zO (aR HO_6) hb); have n2_ := zA.mk (Kd.zO (aR HO289) hb); have n3_ := zA.mk (Kd.zO (aR HO292) hb); have n4_ := zA.mk (Kd.zO (aR HO295) hb); have n5_ := zA.mk (Kd.zO (aR HO298) hb); have n6_ := zA.mk (Kd.zO (aR HO302) hb); have n7_ := zA.mk (zF (g := gb271) (o := .cells #[.slice A0_0 l0_0.length c0_0, .slice A0_1 l0_1.length c0_1, .slice A0_2 l0_2.length c0_2, .slice A0_3 l0_3.length c0_3, .slice A0_4 l0_4.length c0_4] 58 (0, 0)) (aB BK271) hb); have n8_ := zA.mk (zF (g := gb277) (o := ob277) (aB BK277) hb); have n9_ := zA.mk (zF (g := gb278) (o := ob278) (aB BK278) hb); have n10_ := zA.mk (zF (g := gb299) (o := .cells #[.slice Ao46 t293.length co46, .slice Ao48 t296.length co48] 60 (0, 0)) (aB BK299) hb); have n11_ := zA.mk (below_step (aL HB) hb); clear HO_5; clear HO_6; clear HO289; clear HO292; clear HO295; clear HO298; clear HO302; clear BK271; clear BK277; clear BK278; clear BK299; clear HB; have HO_5 := n0_; have HO_6 := n1_; have HO289 := n2_; have HO292 := n3_; have HO295 := n4_; have HO298 := n5_; have HO302 := n6_; have BK271 := n7_; have BK277 := n8_; have BK278 := n9_; have BK299 := n10_; have HB := n11_; clear n0_ n1_ n2_ n3_ n4_ n5_ n6_ n7_ n8_ n9_ n10_ n11_; (try clear hb)
    (try clear hb2)
    (try clear hk)
    (try clear hi)
    refine hK.out _ _ ⟨(zE BK299.out 0).trans rfl, (zE BK299.out 1).trans rfl⟩ (fun hHeld => ?_)
    clear hK K; refine norm_ (a' := ?_) ?_ ?_
    rotate_left
    ·show Act.put _ (some 58) _ = _
     simp only [Act.put, sA_, sB_, sC_, i64_w, i32_w]; rfl
    refine aP 2 (some 59) (tf_ 3 27) HT_ ?_
    refine aP 3 (some 60) (tf_ 4 27) HT_ ?_
    refine pure_ (i := 4) (N := some 61) (v := undef) (a' := ?_) (tf_ 5 27) rfl rfl (any_of HT_.out (by kernel_rfl)) (fun _ _ _ h => h) (Or.inr ⟨by rfl, rfl⟩) ?_ ?_
    rotate_left
    ·simp only [Act.put, sA_, sB_, sC_, i64_w, i32_w]
     rfl
    refine pure_ (i := 5) (N := some 62) (v := undef) (a' := ?_) (tf_ 6 27) rfl rfl (any_of HT_.out (by kernel_rfl)) (fun _ _ _ h => h) (Or.inr ⟨by rfl, rfl⟩) ?_ ?_
    rotate_left
    ·simp only [Act.put, sA_, sB_, sC_, i64_w, i32_w]
     rfl
    refine pure_ (i := 6) (N := some 63) (v := undef) (a' := ?_) (tf_ 7 27) rfl rfl (any_of HT_.out (by kernel_rfl)) (fun _ _ _ h => h) (Or.inr ⟨by rfl, rfl⟩) ?_ ?_
    rotate_left
    ·simp only [Act.put, sA_, sB_, sC_, i64_w, i32_w]
     rfl
    refine pure_ (i := 7) (N := some 64) (v := undef) (a' := ?_) (tf_ 8 27) rfl rfl (any_of HT_.out (by kernel_rfl)) (fun _ _ _ h => h) (Or.inr ⟨by rfl, rfl⟩) ?_ ?_
    rotate_left
    ·simp only [Act.put, sA_, sB_, sC_, i64_w, i32_w]
     rfl
    refine pure_ (i := 8) (N := some 65) (v := undef) (a' := ?_) (tf_ 9 27) rfl rfl (any_of HT_.out (by kernel_rfl)) (fun _ _ _ h => h) (Or.inr ⟨by rfl, rfl⟩) ?_ ?_
    rotate_left
    ·simp only [Act.put, sA_, sB_, sC_, i64_w, i32_w]
     rfl
    refine aP 9 (some 66) (tf_ 10 27) HT_ ?_
    refine aP 10 (some 67) (tf_ 11 27) HT_ ?_
    refine pure_ (i := 11) (N := some 68) (v := undef) (a' := ?_) (tf_ 12 27) rfl rfl (any_of HT_.out (by kernel_rfl)) (fun _ _ _ h => h) (Or.inr ⟨by rfl, rfl⟩) ?_ ?_
    rotate_left
    ·simp only [Act.put, sA_, sB_, sC_, i64_w, i32_w]
     rfl
    refine pure_ (i := 12) (N := some 69) (v := undef) (a' := ?_) (tf_ 13 27) rfl rfl (any_of HT_.out (by kernel_rfl)) (fun _ _ _ h => h) (Or.inr ⟨by rfl, rfl⟩) ?_ ?_
    rotate_left
    ·simp only [Act.put, sA_, sB_, sC_, i64_w, i32_w]
     rfl
    refine pure_ (i := 13) (N := some 70) (v := undef) (a' := ?_) (tf_ 14 27) rfl rfl (any_of HT_.out (by kernel_rfl)) (fun _ _ _ h => h) (Or.inr ⟨by rfl, rfl⟩) ?_ ?_
    rotate_left
    ·simp only [Act.put, sA_, sB_, sC_, i64_w, i32_w]
     rfl
    refine aP 14 (some 71) (tf_ 15 27) HT_ ?_
    refine aP 15 (some 72) (tf_ 16 27) HT_ ?_
    refine pure_ (i := 16) (N := some 73) (v := undef) (a' := ?_) (tf_ 17 27) rfl rfl (any_of HT_.out (by kernel_rfl)) (fun _ _ _ h => h) (Or.inr ⟨by rfl, rfl⟩) ?_ ?_
    rotate_left
    ·simp only [Act.put, sA_, sB_, sC_, i64_w, i32_w]
     rfl
    refine pure_ (i := 17) (N := some 74) (v := undef) (a' := ?_) (tf_ 18 27) rfl rfl (any_of HT_.out (by kernel_rfl)) (fun _ _ _ h => h) (Or.inr ⟨by rfl, rfl⟩) ?_ ?_
    rotate_left
    ·simp only [Act.put, sA_, sB_, sC_, i64_w, i32_w]
     rfl
    refine pure_ (i := 18) (N := some 75) (v := undef) (a' := ?_) (tf_ 19 27) rfl rfl (any_of HT_.out (by kernel_rfl)) (fun _ _ _ h => h) (Or.inr ⟨by rfl, rfl⟩) ?_ ?_
    rotate_left
    ·simp only [Act.put, sA_, sB_, sC_, i64_w, i32_w]
     rfl
    refine pure_ (i := 19) (N := some 76) (v := undef) (a' := ?_) (tf_ 20 27) rfl rfl (any_of HT_.out (by kernel_rfl)) (fun _ _ _ h => h) (Or.inr ⟨by rfl, rfl⟩) ?_ ?_
    rotate_left
    ·simp only [Act.put, sA_, sB_, sC_, i64_w, i32_w]
     rfl
    refine pure_ (i := 20) (N := some 77) (v := undef) (a' := ?_) (tf_ 21 27) rfl rfl (any_of HT_.out (by kernel_rfl)) (fun _ _ _ h => h) (Or.inr ⟨by rfl, rfl⟩) ?_ ?_
    rotate_left
    ·simp only [Act.put, sA_, sB_, sC_, i64_w, i32_w]
     rfl
    refine pure_ (i := 21) (N := some 78) (v := undef) (a' := ?_) (tf_ 22 27) rfl rfl (any_of HT_.out (by kernel_rfl)) (fun _ _ _ h => h) (Or.inr ⟨by rfl, rfl⟩) ?_ ?_
    rotate_left
    ·simp only [Act.put, sA_, sB_, sC_, i64_w, i32_w]
     rfl
    refine pure_ (i := 22) (N := some 79) (v := undef) (a' := ?_) (tf_ 23 27) rfl rfl (any_of HT_.out (by kernel_rfl)) (fun _ _ _ h => h) (Or.inr ⟨by rfl, rfl⟩) ?_ ?_
    rotate_left
    ·simp only [Act.put, sA_, sB_, sC_, i64_w, i32_w]
     rfl
    refine pure_ (i := 23) (N := some 80) (v := undef) (a' := ?_) (tf_ 24 27) rfl rfl (any_of HT_.out (by kernel_rfl)) (fun _ _ _ h => h) (Or.inr ⟨by rfl, rfl⟩) ?_ ?_
    rotate_left
    ·simp only [Act.put, sA_, sB_, sC_, i64_w, i32_w]
     rfl
    refine pure_ (i := 24) (N := some 81) (v := undef) (a' := ?_) (tf_ 25 27) rfl rfl (any_of HT_.out (by kernel_rfl)) (fun _ _ _ h => h) (Or.inr ⟨by rfl, rfl⟩) ?_ ?_
    rotate_left
    ·simp only [Act.put, sA_, sB_, sC_, i64_w, i32_w]
     rfl
    refine pure_ (i := 25) (N := some 82) (v := undef) (a' := ?_) (tf_ 26 27) rfl rfl (any_of HT_.out (by kernel_rfl)) (fun _ _ _ h => h) (Or.inr ⟨by rfl, rfl⟩) ?_ ?_
    rotate_left
    ·simp only [Act.put, sA_, sB_, sC_, i64_w, i32_w]
     rfl
    refine aP 26 (some 83) #[true, true, true, true, true, true, true, true, true, true, true, true, true, true, true, true, true, true, true, true, true, true, true, true, true, true, true] HT_ ?_
    refine done_ (done_of HT_.out (by kernel_rfl)) ?_
    try go_wp2
    go_meet
    case rel => exact ⟨_, (true), aZ, H', ⟨by have := HK1.out; first | omega | exact Nat.le_refl _⟩, ⟨by (try simp only [hl6_1]); (with_reducible repeat (first | apply Kd.zG | apply Kd.zH | apply Kd.zI)); exact Kd.zS HO302.out (fun _ hk => ⟨hk.1.2, hk.2⟩)⟩, ⟨by (try simp only [hl6_1]); (with_reducible repeat (first | apply Kd.zG | apply Kd.zH | apply Kd.zI)); exact HO295.out⟩, ⟨by (try simp only [hl6_1]); (with_reducible repeat (first | apply Kd.zG | apply Kd.zH | apply Kd.zI)); exact Kd.zS HO298.out (fun _ hk => ⟨hk.2.2.1, hk.2.2.2⟩)⟩, ⟨by (try simp only [hl6_1]); (with_reducible repeat (first | refine zD ?_ _ | refine zC ?_ | refine zB ?_ _)); exact BK271.out⟩, ⟨by (try simp only [hl6_1]); (with_reducible repeat (first | refine zD ?_ _ | refine zC ?_ | refine zB ?_ _)); exact BK277.out⟩, ⟨by (try simp only [hl6_1]); (with_reducible repeat (first | refine zD ?_ _ | refine zC ?_ | refine zB ?_ _)); exact BK278.out⟩, ⟨by (try simp only [hl6_1]); (with_reducible repeat (first | refine zD ?_ _ | refine zC ?_ | refine zB ?_ _)); exact BK299.out⟩, ⟨aL HB⟩⟩
   subst c56; have H1 : ((items_Bytes.f k1 t293 t296).bind fun t304 => (if t304 = (t279.length : Int) then (if (t300.length : Int) = 0 then (stanzalaw11_ItemsRight.j1 k1 t300 true t293 t296) else (if 0 ≤ (wrap64 ((t300.length : Int) - 1)) then (if (wrap64 ((t300.length : Int) - 1)) < (t300.length : Int) then (stanzalaw11_ItemsRight.j1 k1 t300 ((rd t300 (wrap64 ((t300.length : Int) - 1))) != (t293.length : Int)) t293 t296) else (none)) else (none))) else (stanzalaw11_ItemsRight.j1 k1 t300 true t293 t296))) = some r := by rw [if_pos rfl] at H; exact H
   clear H; have H := H1; clear H1; replace H := Option.bind_eq_some_iff.mp H; obtain ⟨t304, A570, H⟩ := H; replace H : (if t304 = (t279.length : Int) then (if (t300.length : Int) = 0 then (stanzalaw11_ItemsRight.j1 k1 t300 true t293 t296) else (if 0 ≤ (wrap64 ((t300.length : Int) - 1)) then (if (wrap64 ((t300.length : Int) - 1)) < (t300.length : Int) then (stanzalaw11_ItemsRight.j1 k1 t300 ((rd t300 (wrap64 ((t300.length : Int) - 1))) != (t293.length : Int)) t293 t296) else (none)) else (none))) else (stanzalaw11_ItemsRight.j1 k1 t300 true t293 t296)) = some r := H; have A57 := zA.mk A570; clear A570; by_cases c58 : t304 = (t279.length : Int)
   rotate_left
   ·rw [if_neg c58] at H
    have c58b0 : (t304 == (t279.length : Int)) = false := beq_eq_false_iff_ne.mpr c58
    have c58b1 : (t304 != (t279.length : Int)) = true := bne_iff_ne.mpr c58
    (try simp only [hl6_1] at c58b0)
    (try simp only [hl6_1] at c58b1)
    (first | rw [c58b0] | (simp only [i64_w, i32_w]; rw [c58b0]) | skip)
    have H' := zA.mk H
    clear H; try go_wp2
    have n0_ := zA.mk (Kd.zI HO_5.out); have n1_ := zA.mk (Kd.zI HO_6.out); have n2_ := zA.mk (Kd.zI HO289.out); have n3_ := zA.mk (Kd.zI HO292.out); have n4_ := zA.mk (Kd.zI HO295.out); have n5_ := zA.mk (Kd.zI HO298.out); have n6_ := zA.mk (Kd.zI HO302.out); have n7_ := zA.mk (zC BK271.out); have n8_ := zA.mk (zC BK277.out); have n9_ := zA.mk (zC BK278.out); have n10_ := zA.mk (zC BK299.out); have n11_ := zA.mk (below_drew1 HB.out); clear HO_5; clear HO_6; clear HO289; clear HO292; clear HO295; clear HO298; clear HO302; clear BK271; clear BK277; clear BK278; clear BK299; clear HB; have HO_5 := n0_; have HO_6 := n1_; have HO289 := n2_; have HO292 := n3_; have HO295 := n4_; have HO298 := n5_; have HO302 := n6_; have BK271 := n7_; have BK277 := n8_; have BK278 := n9_; have BK299 := n10_; have HB := n11_; clear n0_ n1_ n2_ n3_ n4_ n5_ n6_ n7_ n8_ n9_ n10_ n11_; refine start_ (n := 27) (S := fun w' => w'.cell? ⟨gb299, 0, none⟩ = some (.slice Ao46 t293.length co46) ∧ w'.cell? ⟨gb299, 1, none⟩ = some (.slice Ao48 t296.length co48)) (ds := []) #[false, false, false, false, false, false, false, false, false, false, false, false, false, false, false, false, false, false, false, false, false, false, false, false, false, false, false] (by kernel_rfl) rfl rfl ⟨(zE BK299.out 0).trans rfl, (zE BK299.out 1).trans rfl⟩ (fun hHeld => ?_); refine with_tabW stanzalaw11_ItemsRight.tab17 stanzalaw11_ItemsRight.bits17 (fun HT_ HW_ => ?_)
    generalize w54.drew = w71 at HO_5 HO_6 HO289 HO292 HO295 HO298 HO302 BK271 BK277 BK278 BK299 HB hHeld ⊢
    refine take_ (i := 0) (N := some 57) (v := ?_) (a' := ?_) (tf_ 1 27) rfl rfl (take_ofW HT_.out HW_.out (by kernel_rfl)) (fun _ _ _ h => h) (Or.inl ⟨by rfl, ?_⟩) hHeld ?_ ?_
    rotate_left
    ·rintro w' ⟨s0, s1⟩
     go_simp
     with_reducible rfl
    rotate_left
    ·simp only [Act.put, sA_, sB_, sC_, i64_w, i32_w]
     rfl
    refine one_ (i := 1) (N := some 58) #[true, true, false, false, false, false, false, false, false, false, false, false, false, false, false, false, false, false, false, false, false, false, false, false, false, false, false] rfl rfl (one_of HT_.out (by kernel_rfl)) (by decide) (fun K hK => ?_)
    refine goes_ Try.func28 (by kernel_rfl) rfl #[.agg #[.slice Ao46 t293.length co46, .slice Ao48 t296.length co48]] (by rfl) rfl rfl aT ?_
    with_reducible refine (items_Check.calls k1 _ _ t293 _ _ t296 true _ ?side1 ?side2 ?side3 ?side4 A55.out).mono ?_
    (case side1 => exact aF HO295)
    (case side2 => exact (Kd.zN HO295.out).2.1)
    (case side3 => exact aF HO298)
    (case side4 => exact (Kd.zN HO298.out).2.1)
    rintro e w72 ⟨rfl, hb⟩
    refine ⟨_, rfl, ?_⟩
    have n0_ := zA.mk (Kd.zO (aR HO_5) hb); have n1_ := zA.mk (Kd.zO (aR HO_6) hb); have n2_ := zA.mk (Kd.zO (aR HO289) hb); have n3_ := zA.mk (Kd.zO (aR HO292) hb); have n4_ := zA.mk (Kd.zO (aR HO295) hb); have n5_ := zA.mk (Kd.zO (aR HO298) hb); have n6_ := zA.mk (Kd.zO (aR HO302) hb); have n7_ := zA.mk (zF (g := gb271) (o := .cells #[.slice A0_0 l0_0.length c0_0, .slice A0_1 l0_1.length c0_1, .slice A0_2 l0_2.length c0_2, .slice A0_3 l0_3.length c0_3, .slice A0_4 l0_4.length c0_4] 58 (0, 0)) (aB BK271) hb); have n8_ := zA.mk (zF (g := gb277) (o := ob277) (aB BK277) hb); have n9_ := zA.mk (zF (g := gb278) (o := ob278) (aB BK278) hb); have n10_ := zA.mk (zF (g := gb299) (o := .cells #[.slice Ao46 t293.length co46, .slice Ao48 t296.length co48] 60 (0, 0)) (aB BK299) hb); have n11_ := zA.mk (below_step (aL HB) hb); clear HO_5; clear HO_6; clear HO289; clear HO292; clear HO295; clear HO298; clear HO302; clear BK271; clear BK277; clear BK278; clear BK299; clear HB; have HO_5 := n0_; have HO_6 := n1_; have HO289 := n2_; have HO292 := n3_; have HO295 := n4_; have HO298 := n5_; have HO302 := n6_; have BK271 := n7_; have BK277 := n8_; have BK278 := n9_; have BK299 := n10_; have HB := n11_; clear n0_ n1_ n2_ n3_ n4_ n5_ n6_ n7_ n8_ n9_ n10_ n11_; (try clear hb)
    (try clear hb2)
    (try clear hk)
    (try clear hi)
    refine hK.out _ _ ⟨(zE BK299.out 0).trans rfl, (zE BK299.out 1).trans rfl⟩ (fun hHeld => ?_)
    clear hK K; refine norm_ (a' := ?_) ?_ ?_
    rotate_left
    ·show Act.put _ (some 58) _ = _
     simp only [Act.put, sA_, sB_, sC_, i64_w, i32_w]; rfl
    refine aP 2 (some 59) (tf_ 3 27) HT_ ?_
    refine aP 3 (some 60) (tf_ 4 27) HT_ ?_
    refine aP 6 (some 63) #[true, true, true, true, false, false, true, false, false, false, false, false, false, false, false, false, false, false, false, false, false, false, false, false, false, false, false] HT_ ?_
    refine aP 7 (some 64) #[true, true, true, true, false, false, true, true, false, false, false, false, false, false, false, false, false, false, false, false, false, false, false, false, false, false, false] HT_ ?_
    refine take_ (i := 4) (N := some 61) (v := ?_) (a' := ?_) #[true, true, true, true, true, false, true, true, false, false, false, false, false, false, false, false, false, false, false, false, false, false, false, false, false, false, false] rfl rfl (take_ofW HT_.out HW_.out (by kernel_rfl)) (fun _ _ _ h => h) (Or.inl ⟨by rfl, ?_⟩) hHeld ?_ ?_
    rotate_left
    ·rintro w' ⟨s0, s1⟩
     go_simp
     with_reducible rfl
    rotate_left
    ·simp only [Act.put, sA_, sB_, sC_, i64_w, i32_w]
     rfl
    refine one_ (i := 5) (N := some 62) #[true, true, true, true, true, true, true, true, false, false, false, false, false, false, false, false, false, false, false, false, false, false, false, false, false, false, false] rfl rfl (one_of HT_.out (by kernel_rfl)) (by decide) (fun K hK => ?_)
    refine goes_ Try.func31 (by kernel_rfl) rfl #[.agg #[.slice Ao46 t293.length co46, .slice Ao48 t296.length co48]] (by rfl) rfl rfl aT ?_
    with_reducible refine (items_Bytes.calls k1 _ _ t293 _ _ t296 t304 _ ?side1 ?side2 ?side3 ?side4 A57.out).mono ?_
    (case side1 => exact aF HO295)
    (case side2 => exact (Kd.zN HO295.out).2.1)
    (case side3 => exact aF HO298)
    (case side4 => exact (Kd.zN HO298.out).2.1)
    rintro e w73 ⟨rfl, hb⟩
    refine ⟨_, rfl, ?_⟩
    have n0_ := zA.mk (Kd.zO (aR HO_5) hb); have n1_ := zA.mk (Kd.zO (aR HO_6) hb); have n2_ := zA.mk (Kd.zO (aR HO289) hb); have n3_ := zA.mk (Kd.zO (aR HO292) hb); have n4_ := zA.mk (Kd.zO (aR HO295) hb); have n5_ := zA.mk (Kd.zO (aR HO298) hb); have n6_ := zA.mk (Kd.zO (aR HO302) hb); have n7_ := zA.mk (zF (g := gb271) (o := .cells #[.slice A0_0 l0_0.length c0_0, .slice A0_1 l0_1.length c0_1, .slice A0_2 l0_2.length c0_2, .slice A0_3 l0_3.length c0_3, .slice A0_4 l0_4.length c0_4] 58 (0, 0)) (aB BK271) hb); have n8_ := zA.mk (zF (g := gb277) (o := ob277) (aB BK277) hb); have n9_ := zA.mk (zF (g := gb278) (o := ob278) (aB BK278) hb); have n10_ := zA.mk (zF (g := gb299) (o := .cells #[.slice Ao46 t293.length co46, .slice Ao48 t296.length co48] 60 (0, 0)) (aB BK299) hb); have n11_ := zA.mk (below_step (aL HB) hb); clear HO_5; clear HO_6; clear HO289; clear HO292; clear HO295; clear HO298; clear HO302; clear BK271; clear BK277; clear BK278; clear BK299; clear HB; have HO_5 := n0_; have HO_6 := n1_; have HO289 := n2_; have HO292 := n3_; have HO295 := n4_; have HO298 := n5_; have HO302 := n6_; have BK271 := n7_; have BK277 := n8_; have BK278 := n9_; have BK299 := n10_; have HB := n11_; clear n0_ n1_ n2_ n3_ n4_ n5_ n6_ n7_ n8_ n9_ n10_ n11_; (try clear hb)
    (try clear hb2)
    (try clear hk)
    (try clear hi)
    refine hK.out _ _ ⟨(zE BK299.out 0).trans rfl, (zE BK299.out 1).trans rfl⟩ (fun hHeld => ?_)
    clear hK K; refine norm_ (a' := ?_) ?_ ?_
    rotate_left
    ·show Act.put _ (some 62) _ = _
     simp only [Act.put, sA_, sB_, sC_, i64_w, i32_w]; rfl
    refine aP 8 (some 65) (tf_ 9 27) HT_ ?_
    refine aP 9 (some 66) (tf_ 10 27) HT_ ?_
    refine aP 10 (some 67) (tf_ 11 27) HT_ ?_
    refine pure_ (i := 11) (N := some 68) (v := undef) (a' := ?_) (tf_ 12 27) rfl rfl (any_of HT_.out (by kernel_rfl)) (fun _ _ _ h => h) (Or.inr ⟨by rfl, rfl⟩) ?_ ?_
    rotate_left
    ·simp only [Act.put, sA_, sB_, sC_, i64_w, i32_w]
     rfl
    refine pure_ (i := 12) (N := some 69) (v := undef) (a' := ?_) (tf_ 13 27) rfl rfl (any_of HT_.out (by kernel_rfl)) (fun _ _ _ h => h) (Or.inr ⟨by rfl, rfl⟩) ?_ ?_
    rotate_left
    ·simp only [Act.put, sA_, sB_, sC_, i64_w, i32_w]
     rfl
    refine pure_ (i := 13) (N := some 70) (v := undef) (a' := ?_) (tf_ 14 27) rfl rfl (any_of HT_.out (by kernel_rfl)) (fun _ _ _ h => h) (Or.inr ⟨by rfl, rfl⟩) ?_ ?_
    rotate_left
    ·simp only [Act.put, sA_, sB_, sC_, i64_w, i32_w]
     rfl
    refine aP 14 (some 71) (tf_ 15 27) HT_ ?_
    refine aP 15 (some 72) (tf_ 16 27) HT_ ?_
    refine pure_ (i := 16) (N := some 73) (v := undef) (a' := ?_) (tf_ 17 27) rfl rfl (any_of HT_.out (by kernel_rfl)) (fun _ _ _ h => h) (Or.inr ⟨by rfl, rfl⟩) ?_ ?_
    rotate_left
    ·simp only [Act.put, sA_, sB_, sC_, i64_w, i32_w]
     rfl
    refine pure_ (i := 17) (N := some 74) (v := undef) (a' := ?_) (tf_ 18 27) rfl rfl (any_of HT_.out (by kernel_rfl)) (fun _ _ _ h => h) (Or.inr ⟨by rfl, rfl⟩) ?_ ?_
    rotate_left
    ·simp only [Act.put, sA_, sB_, sC_, i64_w, i32_w]
     rfl
    refine pure_ (i := 18) (N := some 75) (v := undef) (a' := ?_) (tf_ 19 27) rfl rfl (any_of HT_.out (by kernel_rfl)) (fun _ _ _ h => h) (Or.inr ⟨by rfl, rfl⟩) ?_ ?_
    rotate_left
    ·simp only [Act.put, sA_, sB_, sC_, i64_w, i32_w]
     rfl
    refine pure_ (i := 19) (N := some 76) (v := undef) (a' := ?_) (tf_ 20 27) rfl rfl (any_of HT_.out (by kernel_rfl)) (fun _ _ _ h => h) (Or.inr ⟨by rfl, rfl⟩) ?_ ?_
    rotate_left
    ·simp only [Act.put, sA_, sB_, sC_, i64_w, i32_w]
     rfl
    refine pure_ (i := 20) (N := some 77) (v := undef) (a' := ?_) (tf_ 21 27) rfl rfl (any_of HT_.out (by kernel_rfl)) (fun _ _ _ h => h) (Or.inr ⟨by rfl, rfl⟩) ?_ ?_
    rotate_left
    ·simp only [Act.put, sA_, sB_, sC_, i64_w, i32_w]
     rfl
    refine pure_ (i := 21) (N := some 78) (v := undef) (a' := ?_) (tf_ 22 27) rfl rfl (any_of HT_.out (by kernel_rfl)) (fun _ _ _ h => h) (Or.inr ⟨by rfl, rfl⟩) ?_ ?_
    rotate_left
    ·simp only [Act.put, sA_, sB_, sC_, i64_w, i32_w]
     rfl
    refine pure_ (i := 22) (N := some 79) (v := undef) (a' := ?_) (tf_ 23 27) rfl rfl (any_of HT_.out (by kernel_rfl)) (fun _ _ _ h => h) (Or.inr ⟨by rfl, rfl⟩) ?_ ?_
    rotate_left
    ·simp only [Act.put, sA_, sB_, sC_, i64_w, i32_w]
     rfl
    refine pure_ (i := 23) (N := some 80) (v := undef) (a' := ?_) (tf_ 24 27) rfl rfl (any_of HT_.out (by kernel_rfl)) (fun _ _ _ h => h) (Or.inr ⟨by rfl, rfl⟩) ?_ ?_
    rotate_left
    ·simp only [Act.put, sA_, sB_, sC_, i64_w, i32_w]
     rfl
    refine pure_ (i := 24) (N := some 81) (v := undef) (a' := ?_) (tf_ 25 27) rfl rfl (any_of HT_.out (by kernel_rfl)) (fun _ _ _ h => h) (Or.inr ⟨by rfl, rfl⟩) ?_ ?_
    rotate_left
    ·simp only [Act.put, sA_, sB_, sC_, i64_w, i32_w]
     rfl
    refine pure_ (i := 25) (N := some 82) (v := undef) (a' := ?_) (tf_ 26 27) rfl rfl (any_of HT_.out (by kernel_rfl)) (fun _ _ _ h => h) (Or.inr ⟨by rfl, rfl⟩) ?_ ?_
    rotate_left
    ·simp only [Act.put, sA_, sB_, sC_, i64_w, i32_w]
     rfl
    refine aP 26 (some 83) #[true, true, true, true, true, true, true, true, true, true, true, true, true, true, true, true, true, true, true, true, true, true, true, true, true, true, true] HT_ ?_
    refine done_ (done_of HT_.out (by kernel_rfl)) ?_
    try go_wp2
    go_meet
    case rel => exact ⟨_, (true), aZ, H', ⟨by have := HK1.out; first | omega | exact Nat.le_refl _⟩, ⟨by (try simp only [hl6_1]); (with_reducible repeat (first | apply Kd.zG | apply Kd.zH | apply Kd.zI)); exact Kd.zS HO302.out (fun _ hk => ⟨hk.1.2, hk.2⟩)⟩, ⟨by (try simp only [hl6_1]); (with_reducible repeat (first | apply Kd.zG | apply Kd.zH | apply Kd.zI)); exact HO295.out⟩, ⟨by (try simp only [hl6_1]); (with_reducible repeat (first | apply Kd.zG | apply Kd.zH | apply Kd.zI)); exact Kd.zS HO298.out (fun _ hk => ⟨hk.2.2.1, hk.2.2.2⟩)⟩, ⟨by (try simp only [hl6_1]); (with_reducible repeat (first | refine zD ?_ _ | refine zC ?_ | refine zB ?_ _)); exact BK271.out⟩, ⟨by (try simp only [hl6_1]); (with_reducible repeat (first | refine zD ?_ _ | refine zC ?_ | refine zB ?_ _)); exact BK277.out⟩, ⟨by (try simp only [hl6_1]); (with_reducible repeat (first | refine zD ?_ _ | refine zC ?_ | refine zB ?_ _)); exact BK278.out⟩, ⟨by (try simp only [hl6_1]); (with_reducible repeat (first | refine zD ?_ _ | refine zC ?_ | refine zB ?_ _)); exact BK299.out⟩, ⟨aL HB⟩⟩
   rw [if_pos c58] at H; have c58b0 : (t304 == (t279.length : Int)) = true := beq_iff_eq.mpr c58
   have c58b1 : (t304 != (t279.length : Int)) = false := bne_eq_false_iff_eq.mpr c58
   (try simp only [hl6_1] at c58b0)
   (try simp only [hl6_1] at c58b1)
   clear c58; (first | rw [c58b0] | (simp only [i64_w, i32_w]; rw [c58b0]) | skip)
   by_cases c59 : (t300.length : Int) = 0
   ·rw [if_pos c59] at H
    have c59b0 : ((t300.length : Int) == 0) = true := beq_iff_eq.mpr c59
    have c59b1 : ((t300.length : Int) != 0) = false := bne_eq_false_iff_eq.mpr c59
    (try simp only [hl6_1] at c59b0)
    (try simp only [hl6_1] at c59b1)
    clear c59; have H' := zA.mk H
    clear H; try go_wp2
    have n0_ := zA.mk (Kd.zI HO_5.out); have n1_ := zA.mk (Kd.zI HO_6.out); have n2_ := zA.mk (Kd.zI HO289.out); have n3_ := zA.mk (Kd.zI HO292.out); have n4_ := zA.mk (Kd.zI HO295.out); have n5_ := zA.mk (Kd.zI HO298.out); have n6_ := zA.mk (Kd.zI HO302.out); have n7_ := zA.mk (zC BK271.out); have n8_ := zA.mk (zC BK277.out); have n9_ := zA.mk (zC BK278.out); have n10_ := zA.mk (zC BK299.out); have n11_ := zA.mk (below_drew1 HB.out); clear HO_5; clear HO_6; clear HO289; clear HO292; clear HO295; clear HO298; clear HO302; clear BK271; clear BK277; clear BK278; clear BK299; clear HB; have HO_5 := n0_; have HO_6 := n1_; have HO289 := n2_; have HO292 := n3_; have HO295 := n4_; have HO298 := n5_; have HO302 := n6_; have BK271 := n7_; have BK277 := n8_; have BK278 := n9_; have BK299 := n10_; have HB := n11_; clear n0_ n1_ n2_ n3_ n4_ n5_ n6_ n7_ n8_ n9_ n10_ n11_; obtain ⟨Ao63, co63, eo63⟩ := Kd.zQ HO302.out; (first | subst eo63 | (injection eo63 with f1_ f2_ f3_; have f4_ := f1_.symm; have f5_ := f3_.symm; clear f1_ f2_ f3_; subst f4_; subst f5_))
    refine start_ (n := 27) (S := fun w' => w'.cell? ⟨gb299, 0, none⟩ = some (.slice Ao46 t293.length co46) ∧ w'.cell? ⟨gb299, 1, none⟩ = some (.slice Ao48 t296.length co48)) (ds := []) #[false, false, false, false, false, false, false, false, false, false, false, false, false, false, false, false, false, false, false, false, false, false, false, false, false, false, false] (by kernel_rfl) rfl rfl ⟨(zE BK299.out 0).trans rfl, (zE BK299.out 1).trans rfl⟩ (fun hHeld => ?_); refine with_tabW stanzalaw11_ItemsRight.tab17 stanzalaw11_ItemsRight.bits17 (fun HT_ HW_ => ?_)
    generalize w54.drew = w60 at HO_5 HO_6 HO289 HO292 HO295 HO298 HO302 BK271 BK277 BK278 BK299 HB hHeld ⊢
    refine take_ (i := 0) (N := some 57) (v := ?_) (a' := ?_) (tf_ 1 27) rfl rfl (take_ofW HT_.out HW_.out (by kernel_rfl)) (fun _ _ _ h => h) (Or.inl ⟨by rfl, ?_⟩) hHeld ?_ ?_
    rotate_left
    ·rintro w' ⟨s0, s1⟩
     go_simp
     with_reducible rfl
    rotate_left
    ·simp only [Act.put, sA_, sB_, sC_, i64_w, i32_w]
     rfl
    refine one_ (i := 1) (N := some 58) #[true, true, false, false, false, false, false, false, false, false, false, false, false, false, false, false, false, false, false, false, false, false, false, false, false, false, false] rfl rfl (one_of HT_.out (by kernel_rfl)) (by decide) (fun K hK => ?_)
    refine goes_ Try.func28 (by kernel_rfl) rfl #[.agg #[.slice Ao46 t293.length co46, .slice Ao48 t296.length co48]] (by rfl) rfl rfl aT ?_
    with_reducible refine (items_Check.calls k1 _ _ t293 _ _ t296 true _ ?side1 ?side2 ?side3 ?side4 A55.out).mono ?_
    (case side1 => exact aF HO295)
    (case side2 => exact (Kd.zN HO295.out).2.1)
    (case side3 => exact aF HO298)
    (case side4 => exact (Kd.zN HO298.out).2.1)
    rintro e w61 ⟨rfl, hb⟩
    refine ⟨_, rfl, ?_⟩
    have n0_ := zA.mk (Kd.zO (aR HO_5) hb); have n1_ := zA.mk (Kd.zO (aR HO_6) hb); have n2_ := zA.mk (Kd.zO (aR HO289) hb); have n3_ := zA.mk (Kd.zO (aR HO292) hb); have n4_ := zA.mk (Kd.zO (aR HO295) hb); have n5_ := zA.mk (Kd.zO (aR HO298) hb); have n6_ := zA.mk (Kd.zO (aR HO302) hb); have n7_ := zA.mk (zF (g := gb271) (o := .cells #[.slice A0_0 l0_0.length c0_0, .slice A0_1 l0_1.length c0_1, .slice A0_2 l0_2.length c0_2, .slice A0_3 l0_3.length c0_3, .slice A0_4 l0_4.length c0_4] 58 (0, 0)) (aB BK271) hb); have n8_ := zA.mk (zF (g := gb277) (o := ob277) (aB BK277) hb); have n9_ := zA.mk (zF (g := gb278) (o := ob278) (aB BK278) hb); have n10_ := zA.mk (zF (g := gb299) (o := .cells #[.slice Ao46 t293.length co46, .slice Ao48 t296.length co48] 60 (0, 0)) (aB BK299) hb); have n11_ := zA.mk (below_step (aL HB) hb); clear HO_5; clear HO_6; clear HO289; clear HO292; clear HO295; clear HO298; clear HO302; clear BK271; clear BK277; clear BK278; clear BK299; clear HB; have HO_5 := n0_; have HO_6 := n1_; have HO289 := n2_; have HO292 := n3_; have HO295 := n4_; have HO298 := n5_; have HO302 := n6_; have BK271 := n7_; have BK277 := n8_; have BK278 := n9_; have BK299 := n10_; have HB := n11_; clear n0_ n1_ n2_ n3_ n4_ n5_ n6_ n7_ n8_ n9_ n10_ n11_; (try clear hb)
    (try clear hb2)
    (try clear hk)
    (try clear hi)
    refine hK.out _ _ ⟨(zE BK299.out 0).trans rfl, (zE BK299.out 1).trans rfl⟩ (fun hHeld => ?_)
    clear hK K; refine norm_ (a' := ?_) ?_ ?_
    rotate_left
    ·show Act.put _ (some 58) _ = _
     simp only [Act.put, sA_, sB_, sC_, i64_w, i32_w]; rfl
    refine aP 2 (some 59) (tf_ 3 27) HT_ ?_
    refine aP 3 (some 60) (tf_ 4 27) HT_ ?_
    refine aP 6 (some 63) #[true, true, true, true, false, false, true, false, false, false, false, false, false, false, false, false, false, false, false, false, false, false, false, false, false, false, false] HT_ ?_
    refine aP 7 (some 64) #[true, true, true, true, false, false, true, true, false, false, false, false, false, false, false, false, false, false, false, false, false, false, false, false, false, false, false] HT_ ?_
    refine take_ (i := 4) (N := some 61) (v := ?_) (a' := ?_) #[true, true, true, true, true, false, true, true, false, false, false, false, false, false, false, false, false, false, false, false, false, false, false, false, false, false, false] rfl rfl (take_ofW HT_.out HW_.out (by kernel_rfl)) (fun _ _ _ h => h) (Or.inl ⟨by rfl, ?_⟩) hHeld ?_ ?_
    rotate_left
    ·rintro w' ⟨s0, s1⟩
     go_simp
     with_reducible rfl
    rotate_left
    ·simp only [Act.put, sA_, sB_, sC_, i64_w, i32_w]
     rfl
    refine one_ (i := 5) (N := some 62) #[true, true, true, true, true, true, true, true, false, false, false, false, false, false, false, false, false, false, false, false, false, false, false, false, false, false, false] rfl rfl (one_of HT_.out (by kernel_rfl)) (by decide) (fun K hK => ?_)
    refine goes_ Try.func31 (by kernel_rfl) rfl #[.agg #[.slice Ao46 t293.length co46, .slice Ao48 t296.length co48]] (by rfl) rfl rfl aT ?_
    with_reducible refine (items_Bytes.calls k1 _ _ t293 _ _ t296 t304 _ ?side1 ?side2 ?side3 ?side4 A57.out).mono ?_
    (case side1 => exact aF HO295)
    (case side2 => exact (Kd.zN HO295.out).2.1)
    (case side3 => exact aF HO298)
    (case side4 => exact (Kd.zN HO298.out).2.1)
    rintro e w62 ⟨rfl, hb⟩
    refine ⟨_, rfl, ?_⟩
    have n0_ := zA.mk (Kd.zO (aR HO_5) hb); have n1_ := zA.mk (Kd.zO (aR HO_6) hb); have n2_ := zA.mk (Kd.zO (aR HO289) hb); have n3_ := zA.mk (Kd.zO (aR HO292) hb); have n4_ := zA.mk (Kd.zO (aR HO295) hb); have n5_ := zA.mk (Kd.zO (aR HO298) hb); have n6_ := zA.mk (Kd.zO (aR HO302) hb); have n7_ := zA.mk (zF (g := gb271) (o := .cells #[.slice A0_0 l0_0.length c0_0, .slice A0_1 l0_1.length c0_1, .slice A0_2 l0_2.length c0_2, .slice A0_3 l0_3.length c0_3, .slice A0_4 l0_4.length c0_4] 58 (0, 0)) (aB BK271) hb); have n8_ := zA.mk (zF (g := gb277) (o := ob277) (aB BK277) hb); have n9_ := zA.mk (zF (g := gb278) (o := ob278) (aB BK278) hb); have n10_ := zA.mk (zF (g := gb299) (o := .cells #[.slice Ao46 t293.length co46, .slice Ao48 t296.length co48] 60 (0, 0)) (aB BK299) hb); have n11_ := zA.mk (below_step (aL HB) hb); clear HO_5; clear HO_6; clear HO289; clear HO292; clear HO295; clear HO298; clear HO302; clear BK271; clear BK277; clear BK278; clear BK299; clear HB; have HO_5 := n0_; have HO_6 := n1_; have HO289 := n2_; have HO292 := n3_; have HO295 := n4_; have HO298 := n5_; have HO302 := n6_; have BK271 := n7_; have BK277 := n8_; have BK278 := n9_; have BK299 := n10_; have HB := n11_; clear n0_ n1_ n2_ n3_ n4_ n5_ n6_ n7_ n8_ n9_ n10_ n11_; (try clear hb)
    (try clear hb2)
    (try clear hk)
    (try clear hi)
    refine hK.out _ _ ⟨(zE BK299.out 0).trans rfl, (zE BK299.out 1).trans rfl⟩ (fun hHeld => ?_)
    clear hK K; refine norm_ (a' := ?_) ?_ ?_
    rotate_left
    ·show Act.put _ (some 62) _ = _
     simp only [Act.put, sA_, sB_, sC_, i64_w, i32_w]; rfl
    refine aP 8 (some 65) (tf_ 9 27) HT_ ?_
    refine aP 9 (some 66) (tf_ 10 27) HT_ ?_
    refine aP 10 (some 67) (tf_ 11 27) HT_ ?_
    refine aP 11 (some 68) (tf_ 12 27) HT_ ?_
    refine aP 12 (some 69) (tf_ 13 27) HT_ ?_
    refine aP 13 (some 70) (tf_ 14 27) HT_ ?_
    refine aP 14 (some 71) (tf_ 15 27) HT_ ?_
    refine aP 15 (some 72) (tf_ 16 27) HT_ ?_
    refine pure_ (i := 16) (N := some 73) (v := undef) (a' := ?_) (tf_ 17 27) rfl rfl (any_of HT_.out (by kernel_rfl)) (fun _ _ _ h => h) (Or.inr ⟨by rfl, rfl⟩) ?_ ?_
    rotate_left
    ·simp only [Act.put, sA_, sB_, sC_, i64_w, i32_w]
     rfl
    refine pure_ (i := 17) (N := some 74) (v := undef) (a' := ?_) (tf_ 18 27) rfl rfl (any_of HT_.out (by kernel_rfl)) (fun _ _ _ h => h) (Or.inr ⟨by rfl, rfl⟩) ?_ ?_
    rotate_left
    ·simp only [Act.put, sA_, sB_, sC_, i64_w, i32_w]
     rfl
    refine pure_ (i := 18) (N := some 75) (v := undef) (a' := ?_) (tf_ 19 27) rfl rfl (any_of HT_.out (by kernel_rfl)) (fun _ _ _ h => h) (Or.inr ⟨by rfl, rfl⟩) ?_ ?_
    rotate_left
    ·simp only [Act.put, sA_, sB_, sC_, i64_w, i32_w]
     rfl
    refine pure_ (i := 19) (N := some 76) (v := undef) (a' := ?_) (tf_ 20 27) rfl rfl (any_of HT_.out (by kernel_rfl)) (fun _ _ _ h => h) (Or.inr ⟨by rfl, rfl⟩) ?_ ?_
    rotate_left
    ·simp only [Act.put, sA_, sB_, sC_, i64_w, i32_w]
     rfl
    refine pure_ (i := 20) (N := some 77) (v := undef) (a' := ?_) (tf_ 21 27) rfl rfl (any_of HT_.out (by kernel_rfl)) (fun _ _ _ h => h) (Or.inr ⟨by rfl, rfl⟩) ?_ ?_
    rotate_left
    ·simp only [Act.put, sA_, sB_, sC_, i64_w, i32_w]
     rfl
    refine pure_ (i := 21) (N := some 78) (v := undef) (a' := ?_) (tf_ 22 27) rfl rfl (any_of HT_.out (by kernel_rfl)) (fun _ _ _ h => h) (Or.inr ⟨by rfl, rfl⟩) ?_ ?_
    rotate_left
    ·simp only [Act.put, sA_, sB_, sC_, i64_w, i32_w]
     rfl
    refine pure_ (i := 22) (N := some 79) (v := undef) (a' := ?_) (tf_ 23 27) rfl rfl (any_of HT_.out (by kernel_rfl)) (fun _ _ _ h => h) (Or.inr ⟨by rfl, rfl⟩) ?_ ?_
    rotate_left
    ·simp only [Act.put, sA_, sB_, sC_, i64_w, i32_w]
     rfl
    refine pure_ (i := 23) (N := some 80) (v := undef) (a' := ?_) (tf_ 24 27) rfl rfl (any_of HT_.out (by kernel_rfl)) (fun _ _ _ h => h) (Or.inr ⟨by rfl, rfl⟩) ?_ ?_
    rotate_left
    ·simp only [Act.put, sA_, sB_, sC_, i64_w, i32_w]
     rfl
    refine pure_ (i := 24) (N := some 81) (v := undef) (a' := ?_) (tf_ 25 27) rfl rfl (any_of HT_.out (by kernel_rfl)) (fun _ _ _ h => h) (Or.inr ⟨by rfl, rfl⟩) ?_ ?_
    rotate_left
    ·simp only [Act.put, sA_, sB_, sC_, i64_w, i32_w]
     rfl
    refine pure_ (i := 25) (N := some 82) (v := undef) (a' := ?_) (tf_ 26 27) rfl rfl (any_of HT_.out (by kernel_rfl)) (fun _ _ _ h => h) (Or.inr ⟨by rfl, rfl⟩) ?_ ?_
    rotate_left
    ·simp only [Act.put, sA_, sB_, sC_, i64_w, i32_w]
     rfl
    refine aP 26 (some 83) #[true, true, true, true, true, true, true, true, true, true, true, true, true, true, true, true, true, true, true, true, true, true, true, true, true, true, true] HT_ ?_
    refine done_ (done_of HT_.out (by kernel_rfl)) ?_
    try go_wp2
    go_meet
    case rel => exact ⟨_, (true), aZ, H', ⟨by have := HK1.out; first | omega | exact Nat.le_refl _⟩, ⟨by (try simp only [hl6_1]); (with_reducible repeat (first | apply Kd.zG | apply Kd.zH | apply Kd.zI)); exact Kd.zS HO302.out (fun _ hk => ⟨hk.1.2, hk.2⟩)⟩, ⟨by (try simp only [hl6_1]); (with_reducible repeat (first | apply Kd.zG | apply Kd.zH | apply Kd.zI)); exact HO295.out⟩, ⟨by (try simp only [hl6_1]); (with_reducible repeat (first | apply Kd.zG | apply Kd.zH | apply Kd.zI)); exact Kd.zS HO298.out (fun _ hk => ⟨hk.2.2.1, hk.2.2.2⟩)⟩, ⟨by (try simp only [hl6_1]); (with_reducible repeat (first | refine zD ?_ _ | refine zC ?_ | refine zB ?_ _)); exact BK271.out⟩, ⟨by (try simp only [hl6_1]); (with_reducible repeat (first | refine zD ?_ _ | refine zC ?_ | refine zB ?_ _)); exact BK277.out⟩, ⟨by (try simp only [hl6_1]); (with_reducible repeat (first | refine zD ?_ _ | refine zC ?_ | refine zB ?_ _)); exact BK278.out⟩, ⟨by (try simp only [hl6_1]); (with_reducible repeat (first | refine zD ?_ _ | refine zC ?_ | refine zB ?_ _)); exact BK299.out⟩, ⟨aL HB⟩⟩
   rw [if_neg c59] at H; have c59b0 : ((t300.length : Int) == 0) = false := beq_eq_false_iff_ne.mpr c59
   have c59b1 : ((t300.length : Int) != 0) = true := bne_iff_ne.mpr c59
   have c59b2 : ¬ (t300 = []) := fun h_ => c59 (by rw [h_]; rfl)
   (try simp only [hl6_1] at c59b0)
   (try simp only [hl6_1] at c59b1)
   (try simp only [hl6_1] at c59b2)
   obtain ⟨ji64, hji64⟩ : ∃ j_ : Int, (wrap64 ((t300.length : Int) - 1)) = j_ := ⟨_, rfl⟩; replace H : (if 0 ≤ (ji64) then (if (ji64) < (t300.length : Int) then (stanzalaw11_ItemsRight.j1 k1 t300 ((rd t300 (ji64)) != (t293.length : Int)) t293 t296) else (none)) else (none)) = some r := by first | (rw [hji64] at H; exact H) | (simp only [hji64] at H ⊢; exact H)
   (try rw [hji64] at A55)
   (try rw [hji64] at A57)
   have hji64w : (IntKind.i64.wrap ((t300.length : Int) - 1)) = ji64 := (i64_w _).trans hji64
   by_cases c65 : 0 ≤ (ji64)
   rotate_left
   ·rw [if_neg c65] at H
    exact absurd H (by simp)
   rw [if_pos c65] at H; have c65b0 : decide (0 ≤ (ji64)) = true := decide_eq_true c65
   clear c65; by_cases c66 : (ji64) < (t300.length : Int)
   rotate_left
   ·rw [if_neg c66] at H
    exact absurd H (by simp)
   rw [if_pos c66] at H; have c66b0 : decide ((ji64) < (t300.length : Int)) = true := decide_eq_true c66
   (try simp only [hl6_1] at c66b0)
   clear c66; have H' := zA.mk H
   clear H; try go_wp2
   have n0_ := zA.mk (Kd.zI HO_5.out); have n1_ := zA.mk (Kd.zI HO_6.out); have n2_ := zA.mk (Kd.zI HO289.out); have n3_ := zA.mk (Kd.zI HO292.out); have n4_ := zA.mk (Kd.zI HO295.out); have n5_ := zA.mk (Kd.zI HO298.out); have n6_ := zA.mk (Kd.zI HO302.out); have n7_ := zA.mk (zC BK271.out); have n8_ := zA.mk (zC BK277.out); have n9_ := zA.mk (zC BK278.out); have n10_ := zA.mk (zC BK299.out); have n11_ := zA.mk (below_drew1 HB.out); clear HO_5; clear HO_6; clear HO289; clear HO292; clear HO295; clear HO298; clear HO302; clear BK271; clear BK277; clear BK278; clear BK299; clear HB; have HO_5 := n0_; have HO_6 := n1_; have HO289 := n2_; have HO292 := n3_; have HO295 := n4_; have HO298 := n5_; have HO302 := n6_; have BK271 := n7_; have BK277 := n8_; have BK278 := n9_; have BK299 := n10_; have HB := n11_; clear n0_ n1_ n2_ n3_ n4_ n5_ n6_ n7_ n8_ n9_ n10_ n11_; obtain ⟨Ao70, co70, eo70⟩ := Kd.zQ HO302.out; (first | subst eo70 | (injection eo70 with f1_ f2_ f3_; have f4_ := f1_.symm; have f5_ := f3_.symm; clear f1_ f2_ f3_; subst f4_; subst f5_))
   have p305 : 0 ≤ ((ji64) : Int) := aD
   have q305 : (ji64) < (t300.length : Int) := aD
   obtain ⟨ad305, e305, hx305_0⟩ := Kd.at_int (Kd.zN HO302.out).2.2 (ji64) p305 q305; cases e305
   replace p305 := eq_true p305; replace q305 := eq_true q305; refine start_ (n := 27) (S := fun w' => w'.cell? ⟨gb299, 0, none⟩ = some (.slice Ao46 t293.length co46) ∧ w'.cell? ⟨gb299, 1, none⟩ = some (.slice Ao48 t296.length co48) ∧ w'.cell? (ad305.add ((ji64)).toNat) = some (.int .i64 (rd t300 (ji64)))) (ds := []) #[false, false, false, false, false, false, false, false, false, false, false, false, false, false, false, false, false, false, false, false, false, false, false, false, false, false, false] (by kernel_rfl) rfl rfl ⟨(zE BK299.out 0).trans rfl, (zE BK299.out 1).trans rfl, hx305_0⟩ (fun hHeld => ?_); refine with_tabW stanzalaw11_ItemsRight.tab17 stanzalaw11_ItemsRight.bits17 (fun HT_ HW_ => ?_)
   generalize w54.drew = w67 at HO_5 HO_6 HO289 HO292 HO295 HO298 HO302 BK271 BK277 BK278 BK299 HB hx305_0 hHeld ⊢
   refine take_ (i := 0) (N := some 57) (v := ?_) (a' := ?_) (tf_ 1 27) rfl rfl (take_ofW HT_.out HW_.out (by kernel_rfl)) (fun _ _ _ h => h) (Or.inl ⟨by rfl, ?_⟩) hHeld ?_ ?_
   rotate_left
   ·rintro w' ⟨s0, s1, s2⟩
    go_simp
    with_reducible rfl
   rotate_left
   ·simp only [Act.put, sA_, sB_, sC_, i64_w, i32_w]
    rfl
   refine one_ (i := 1) (N := some 58) #[true, true, false, false, false, false, false, false, false, false, false, false, false, false, false, false, false, false, false, false, false, false, false, false, false, false, false] rfl rfl (one_of HT_.out (by kernel_rfl)) (by decide) (fun K hK => ?_)
   refine goes_ Try.func28 (by kernel_rfl) rfl #[.agg #[.slice Ao46 t293.length co46, .slice Ao48 t296.length co48]] (by rfl) rfl rfl aT ?_
   with_reducible refine (items_Check.calls k1 _ _ t293 _ _ t296 true _ ?side1 ?side2 ?side3 ?side4 A55.out).mono ?_
   (case side1 => exact aF HO295)
   (case side2 => exact (Kd.zN HO295.out).2.1)
   (case side3 => exact aF HO298)
   (case side4 => exact (Kd.zN HO298.out).2.1)
   rintro e w68 ⟨rfl, hb⟩
   have HS2_ := (hb.cell (World.block_lt_of_cell? _ _ (hHeld.2.2))).trans (hHeld.2.2); refine ⟨_, rfl, ?_⟩
   have n0_ := zA.mk (Kd.zO (aR HO_5) hb); have n1_ := zA.mk (Kd.zO (aR HO_6) hb); have n2_ := zA.mk (Kd.zO (aR HO289) hb); have n3_ := zA.mk (Kd.zO (aR HO292) hb); have n4_ := zA.mk (Kd.zO (aR HO295) hb); have n5_ := zA.mk (Kd.zO (aR HO298) hb); have n6_ := zA.mk (Kd.zO (aR HO302) hb); have n7_ := zA.mk (zF (g := gb271) (o := .cells #[.slice A0_0 l0_0.length c0_0, .slice A0_1 l0_1.length c0_1, .slice A0_2 l0_2.length c0_2, .slice A0_3 l0_3.length c0_3, .slice A0_4 l0_4.length c0_4] 58 (0, 0)) (aB BK271) hb); have n8_ := zA.mk (zF (g := gb277) (o := ob277) (aB BK277) hb); have n9_ := zA.mk (zF (g := gb278) (o := ob278) (aB BK278) hb); have n10_ := zA.mk (zF (g := gb299) (o := .cells #[.slice Ao46 t293.length co46, .slice Ao48 t296.length co48] 60 (0, 0)) (aB BK299) hb); have n11_ := zA.mk (below_step (aL HB) hb); clear HO_5; clear HO_6; clear HO289; clear HO292; clear HO295; clear HO298; clear HO302; clear BK271; clear BK277; clear BK278; clear BK299; clear HB; have HO_5 := n0_; have HO_6 := n1_; have HO289 := n2_; have HO292 := n3_; have HO295 := n4_; have HO298 := n5_; have HO302 := n6_; have BK271 := n7_; have BK277 := n8_; have BK278 := n9_; have BK299 := n10_; have HB := n11_; clear n0_ n1_ n2_ n3_ n4_ n5_ n6_ n7_ n8_ n9_ n10_ n11_; (try clear hb)
   (try clear hb2)
   (try clear hk)
   (try clear hi)
   refine hK.out _ _ ⟨(zE BK299.out 0).trans rfl, (zE BK299.out 1).trans rfl, HS2_⟩ (fun hHeld => ?_)
   clear hK K; refine norm_ (a' := ?_) ?_ ?_
   rotate_left
   ·show Act.put _ (some 58) _ = _
    simp only [Act.put, sA_, sB_, sC_, i64_w, i32_w]; rfl
   refine aP 2 (some 59) (tf_ 3 27) HT_ ?_
   refine aP 3 (some 60) (tf_ 4 27) HT_ ?_
   refine aP 6 (some 63) #[true, true, true, true, false, false, true, false, false, false, false, false, false, false, false, false, false, false, false, false, false, false, false, false, false, false, false] HT_ ?_
   refine aP 7 (some 64) #[true, true, true, true, false, false, true, true, false, false, false, false, false, false, false, false, false, false, false, false, false, false, false, false, false, false, false] HT_ ?_
   refine take_ (i := 4) (N := some 61) (v := ?_) (a' := ?_) #[true, true, true, true, true, false, true, true, false, false, false, false, false, false, false, false, false, false, false, false, false, false, false, false, false, false, false] rfl rfl (take_ofW HT_.out HW_.out (by kernel_rfl)) (fun _ _ _ h => h) (Or.inl ⟨by rfl, ?_⟩) hHeld ?_ ?_
   rotate_left
   ·rintro w' ⟨s0, s1, s2⟩
    go_simp
    with_reducible rfl
   rotate_left
   ·simp only [Act.put, sA_, sB_, sC_, i64_w, i32_w]
    rfl
   refine one_ (i := 5) (N := some 62) #[true, true, true, true, true, true, true, true, false, false, false, false, false, false, false, false, false, false, false, false, false, false, false, false, false, false, false] rfl rfl (one_of HT_.out (by kernel_rfl)) (by decide) (fun K hK => ?_)
   refine goes_ Try.func31 (by kernel_rfl) rfl #[.agg #[.slice Ao46 t293.length co46, .slice Ao48 t296.length co48]] (by rfl) rfl rfl aT ?_
   with_reducible refine (items_Bytes.calls k1 _ _ t293 _ _ t296 t304 _ ?side1 ?side2 ?side3 ?side4 A57.out).mono ?_
   (case side1 => exact aF HO295)
   (case side2 => exact (Kd.zN HO295.out).2.1)
   (case side3 => exact aF HO298)
   (case side4 => exact (Kd.zN HO298.out).2.1)
   rintro e w69 ⟨rfl, hb⟩
   have HS2_ := (hb.cell (World.block_lt_of_cell? _ _ (hHeld.2.2))).trans (hHeld.2.2); refine ⟨_, rfl, ?_⟩
   have n0_ := zA.mk (Kd.zO (aR HO_5) hb); have n1_ := zA.mk (Kd.zO (aR HO_6) hb); have n2_ := zA.mk (Kd.zO (aR HO289) hb); have n3_ := zA.mk (Kd.zO (aR HO292) hb); have n4_ := zA.mk (Kd.zO (aR HO295) hb); have n5_ := zA.mk (Kd.zO (aR HO298) hb); have n6_ := zA.mk (Kd.zO (aR HO302) hb); have n7_ := zA.mk (zF (g := gb271) (o := .cells #[.slice A0_0 l0_0.length c0_0, .slice A0_1 l0_1.length c0_1, .slice A0_2 l0_2.length c0_2, .slice A0_3 l0_3.length c0_3, .slice A0_4 l0_4.length c0_4] 58 (0, 0)) (aB BK271) hb); have n8_ := zA.mk (zF (g := gb277) (o := ob277) (aB BK277) hb); have n9_ := zA.mk (zF (g := gb278) (o := ob278) (aB BK278) hb); have n10_ := zA.mk (zF (g := gb299) (o := .cells #[.slice Ao46 t293.length co46, .slice Ao48 t296.length co48] 60 (0, 0)) (aB BK299) hb); have n11_ := zA.mk (below_step (aL HB) hb); clear HO_5; clear HO_6; clear HO289; clear HO292; clear HO295; clear HO298; clear HO302; clear BK271; clear BK277; clear BK278; clear BK299; clear HB; have HO_5 := n0_; have HO_6 := n1_; have HO289 := n2_; have HO292 := n3_; have HO295 := n4_; have HO298 := n5_; have HO302 := n6_; have BK271 := n7_; have BK277 := n8_; have BK278 := n9_; have BK299 := n10_; have HB := n11_; clear n0_ n1_ n2_ n3_ n4_ n5_ n6_ n7_ n8_ n9_ n10_ n11_; (try clear hb)
   (try clear hb2)
   (try clear hk)
   (try clear hi)
   refine hK.out _ _ ⟨(zE BK299.out 0).trans rfl, (zE BK299.out 1).trans rfl, HS2_⟩ (fun hHeld => ?_)
   clear hK K; refine norm_ (a' := ?_) ?_ ?_
   rotate_left
   ·show Act.put _ (some 62) _ = _
    simp only [Act.put, sA_, sB_, sC_, i64_w, i32_w]; rfl
   refine aP 8 (some 65) (tf_ 9 27) HT_ ?_
   refine aP 9 (some 66) (tf_ 10 27) HT_ ?_
   refine aP 10 (some 67) (tf_ 11 27) HT_ ?_
   refine aP 11 (some 68) (tf_ 12 27) HT_ ?_
   refine aP 12 (some 69) (tf_ 13 27) HT_ ?_
   refine aP 13 (some 70) (tf_ 14 27) HT_ ?_
   refine aP 14 (some 71) (tf_ 15 27) HT_ ?_
   refine aP 15 (some 72) (tf_ 16 27) HT_ ?_
   refine aP 16 (some 73) (tf_ 17 27) HT_ ?_
   refine aP 17 (some 74) (tf_ 18 27) HT_ ?_
   refine aP 18 (some 75) (tf_ 19 27) HT_ ?_
   refine aP 19 (some 76) (tf_ 20 27) HT_ ?_
   refine aP 20 (some 77) (tf_ 21 27) HT_ ?_
   refine aP 22 (some 79) #[true, true, true, true, true, true, true, true, true, true, true, true, true, true, true, true, true, true, true, true, true, false, true, false, false, false, false] HT_ ?_
   refine take_ (i := 21) (N := some 78) (v := ?_) (a' := ?_) (tf_ 23 27) rfl rfl (take_ofW HT_.out HW_.out (by kernel_rfl)) (fun _ _ _ h => h) (Or.inl ⟨by rfl, ?_⟩) hHeld ?_ ?_
   rotate_left
   ·rintro w' ⟨s0, s1, s2⟩
    go_simp
    with_reducible rfl
   rotate_left
   ·simp only [Act.put, sA_, sB_, sC_, i64_w, i32_w]
    rfl
   refine take_ (i := 23) (N := some 80) (v := ?_) (a' := ?_) (tf_ 24 27) rfl rfl (take_ofW HT_.out HW_.out (by kernel_rfl)) (fun _ _ _ h => h) (Or.inl ⟨by rfl, ?_⟩) hHeld ?_ ?_
   rotate_left
   ·rintro w' ⟨s0, s1, s2⟩
    go_simp
    with_reducible rfl
   rotate_left
   ·simp only [Act.put, sA_, sB_, sC_, i64_w, i32_w]
    rfl
   refine aP 24 (some 81) (tf_ 25 27) HT_ ?_
   refine aP 25 (some 82) (tf_ 26 27) HT_ ?_
   refine aP 26 (some 83) #[true, true, true, true, true, true, true, true, true, true, true, true, true, true, true, true, true, true, true, true, true, true, true, true, true, true, true] HT_ ?_
   refine done_ (done_of HT_.out (by kernel_rfl)) ?_
   try go_wp2
   go_meet
   case rel => exact ⟨_, (((rd t300 (ji64)) != (t293.length : Int))), (by first | rfl | (simp; done) | (simp only [← hji64] <;> (first | rfl | simp)) | (simp [*]; done)), H', ⟨by have := HK1.out; first | omega | exact Nat.le_refl _⟩, ⟨by (try simp only [hl6_1]); (with_reducible repeat (first | apply Kd.zG | apply Kd.zH | apply Kd.zI)); exact Kd.zS HO302.out (fun _ hk => ⟨hk.1.2, hk.2⟩)⟩, ⟨by (try simp only [hl6_1]); (with_reducible repeat (first | apply Kd.zG | apply Kd.zH | apply Kd.zI)); exact HO295.out⟩, ⟨by (try simp only [hl6_1]); (with_reducible repeat (first | apply Kd.zG | apply Kd.zH | apply Kd.zI)); exact Kd.zS HO298.out (fun _ hk => ⟨hk.2.2.1, hk.2.2.2⟩)⟩, ⟨by (try simp only [hl6_1]); (with_reducible repeat (first | refine zD ?_ _ | refine zC ?_ | refine zB ?_ _)); exact BK271.out⟩, ⟨by (try simp only [hl6_1]); (with_reducible repeat (first | refine zD ?_ _ | refine zC ?_ | refine zB ?_ _)); exact BK277.out⟩, ⟨by (try simp only [hl6_1]); (with_reducible repeat (first | refine zD ?_ _ | refine zC ?_ | refine zB ?_ _)); exact BK278.out⟩, ⟨by (try simp only [hl6_1]); (with_reducible repeat (first | refine zD ?_ _ | refine zC ?_ | refine zB ?_ _)); exact BK299.out⟩, ⟨aL HB⟩⟩
  clear HC36; try clear c2
  try clear p2
  try clear c3
  try clear c5
  try clear c6
  try clear c28
  try clear c31
  try clear c56
  try clear c58
  try clear c58b0
  try clear c58b1
  try clear c65
  try clear c66
  obtain ⟨kq, x83_35, rfl, HA, HJ35, HO_9, HO_300000, HO_300001, BK271, BK277, BK278, BK299, HB⟩ := hcut; cases kq with
  | zero => exact absurd HA.out (by simp [stanzalaw11_ItemsRight.j1])
  | succ kj35 =>
   have H := HA.out; clear HA; simp only [stanzalaw11_ItemsRight.j1] at H; by_cases c76 : x83_35 = true
   ·subst c76
    have H1 : (some false) = some r := by rw [if_pos rfl] at H; exact H
    clear H; have H := H1; clear H1; exact absurd ((Option.some.inj H).trans hrt_.out) (by decide)
   replace c76 := Bool.eq_false_iff.mpr c76; subst c76; have H1 : (stanzalaw11_ItemsRight.l1 kj35 t300 t300 (t300.length : Int) 0 t293 t296) = some r := by rw [if_neg (show ¬ (false = true) by decide)] at H; exact H
   clear H; have H := H1; clear H1; have H' := zA.mk H
   clear H; obtain ⟨Ao77, co77, eo77⟩ := Kd.zQ HO_9.out; subst eo77; go_wp2
   go_loopg [86] kj35 (fun kq v86 w' => ∃ (x86_3 : Int), v86 = .int .i64 x86_3 ∧ zA (stanzalaw11_ItemsRight.l1 kq t300 t300 (t300.length : Int) x86_3 t293 t296 = some r) ∧ zA (kq ≤ kj35) ∧ zA (Kd.R (Kd.int .i64) 3 w' w.heap.size (fun k_ => k_ ≠ gb277 ∧ k_ ≠ gb278) (.slice Ao77 t300.length co77) t300) ∧ zA (Kd.R (Kd.int .i64) 3 w' w.heap.size (fun k_ => k_ ≠ gb277 ∧ k_ ≠ gb278) (.slice Ao77 t300.length co77) t300) ∧ zA (Kd.R k48 48 w' w.heap.size (fun k_ => k_ ≠ gb277 ∧ k_ ≠ gb278) (.slice Ao46 t293.length co46) t293) ∧ zA (Kd.R (Kd.int .u8) 53 w' w.heap.size (fun k_ => k_ ≠ gb277 ∧ k_ ≠ gb278) (.slice Ao48 t296.length co48) t296) ∧ zA (w'.heap[gb271]? = some (.cells #[(.slice A0_0 l0_0.length c0_0), (.slice A0_1 l0_1.length c0_1), (.slice A0_2 l0_2.length c0_2), (.slice A0_3 l0_3.length c0_3), (.slice A0_4 l0_4.length c0_4)] 58 (0, 0))) ∧ zA (w'.heap[gb277]? = some ob277) ∧ zA (w'.heap[gb278]? = some ob278) ∧ zA (w'.heap[gb299]? = some (.cells #[(.slice Ao46 t293.length co46), (.slice Ao48 t296.length co48)] 60 (0, 0))) ∧ zA (Below w.heap.size w w'))
   case atStart => exact ⟨(0), aZ, H', ⟨Nat.le_refl _⟩, ⟨by (try simp only [hl6_1]); (with_reducible repeat (first | apply Kd.zG | apply Kd.zH | apply Kd.zI)); exact HO_9.out⟩, ⟨by (try simp only [hl6_1]); (with_reducible repeat (first | apply Kd.zG | apply Kd.zH | apply Kd.zI)); exact HO_9.out⟩, ⟨by (try simp only [hl6_1]); (with_reducible repeat (first | apply Kd.zG | apply Kd.zH | apply Kd.zI)); exact HO_300000.out⟩, ⟨by (try simp only [hl6_1]); (with_reducible repeat (first | apply Kd.zG | apply Kd.zH | apply Kd.zI)); exact HO_300001.out⟩, ⟨by (try simp only [hl6_1]); (with_reducible repeat (first | refine zD ?_ _ | refine zC ?_ | refine zB ?_ _)); exact BK271.out⟩, ⟨by (try simp only [hl6_1]); (with_reducible repeat (first | refine zD ?_ _ | refine zC ?_ | refine zB ?_ _)); exact BK277.out⟩, ⟨by (try simp only [hl6_1]); (with_reducible repeat (first | refine zD ?_ _ | refine zC ?_ | refine zB ?_ _)); exact BK278.out⟩, ⟨by (try simp only [hl6_1]); (with_reducible repeat (first | refine zD ?_ _ | refine zC ?_ | refine zB ?_ _)); exact BK299.out⟩, ⟨aL HB⟩⟩
   clear H'; try clear c2
   try clear p2
   try clear c3
   try clear c5
   try clear c6
   try clear c7
   try clear c28
   try clear c31
   try clear c56
   try clear c58
   try clear c58b0
   try clear c58b1
   try clear c65
   try clear c66
   try clear c76
   try clear p2
   obtain ⟨x86_3, rfl, HA, HK3, HO_9, HO_84, HO_300000, HO_300001, BK271, BK277, BK278, BK299, HB⟩ := hrel; cases gk with
   | zero => exact absurd HA.out (by simp [stanzalaw11_ItemsRight.l1])
   | succ k3 =>
    have H := HA.out; clear HA; simp only [stanzalaw11_ItemsRight.l1] at H; by_cases c78 : x86_3 < (t300.length : Int)
    rotate_left
    ·rw [if_neg c78] at H
     have c78b0 : decide (x86_3 < (t300.length : Int)) = false := decide_eq_false c78
     (try simp only [hl6_1] at c78b0)
     clear c78; obtain rfl := Option.some.inj H
     go_wp2
     go_ret
     exact ⟨aX, aL HB⟩
    rw [if_pos c78] at H; have c78b0 : decide (x86_3 < (t300.length : Int)) = true := decide_eq_true c78
    (try simp only [hl6_1] at c78b0)
    clear c78; by_cases c79 : 0 ≤ x86_3
    rotate_left
    ·rw [if_neg c79] at H
     exact absurd H (by simp)
    rw [if_pos c79] at H; have c79b0 : decide (0 ≤ x86_3) = true := decide_eq_true c79
    clear c79; by_cases c80 : x86_3 < (t300.length : Int)
    rotate_left
    ·rw [if_neg c80] at H
     exact absurd H (by simp)
    rw [if_pos c80] at H; have c80b0 : decide (x86_3 < (t300.length : Int)) = true := decide_eq_true c80
    (try simp only [hl6_1] at c80b0)
    clear c80; by_cases c81 : 0 ≤ (rd t300 x86_3)
    rotate_left
    ·rw [if_neg c81] at H
     exact absurd H (by simp)
    rw [if_pos c81] at H; have c81b0 : decide (0 ≤ (rd t300 x86_3)) = true := decide_eq_true c81
    clear c81; by_cases c82 : (rd t300 x86_3) < (t296.length : Int)
    rotate_left
    ·rw [if_neg c82] at H
     exact absurd H (by simp)
    rw [if_pos c82] at H; have c82b0 : decide ((rd t300 x86_3) < (t296.length : Int)) = true := decide_eq_true c82
    (try simp only [hl6_1] at c82b0)
    clear c82; by_cases c83 : (rd t296 (rd t300 x86_3)) = 2
    rotate_left
    ·rw [if_neg c83] at H
     have c83b0 : ((rd t296 (rd t300 x86_3)) == 2) = false := beq_eq_false_iff_ne.mpr c83
     have c83b1 : ((rd t296 (rd t300 x86_3)) != 2) = true := bne_iff_ne.mpr c83
     exact absurd ((Option.some.inj H).trans hrt_.out) (by decide)
    rw [if_pos c83] at H; have c83b0 : ((rd t296 (rd t300 x86_3)) == 2) = true := beq_iff_eq.mpr c83
    have c83b1 : ((rd t296 (rd t300 x86_3)) != 2) = false := bne_eq_false_iff_eq.mpr c83
    clear c83; by_cases c84 : x86_3 > 0
    rotate_left
    ·rw [if_neg c84] at H
     have c84b0 : decide (0 < x86_3) = false := decide_eq_false c84
     clear c84; have H' := zA.mk H
     clear H; have p306 : 0 ≤ (x86_3 : Int) := aD
     have q306 : x86_3 < (t300.length : Int) := aD
     obtain ⟨ad306, e306, hx306_0⟩ := Kd.at_int (Kd.zN HO_84.out).2.2 x86_3 p306 q306; cases e306
     replace p306 := eq_true p306; replace q306 := eq_true q306; have hnb93 := NB299_271.out; have hnc93 := NB271_299.out; have hnb94 := NB299_277.out; have hnc94 := NB277_299.out; have hnb95 := NB299_278.out; have hnc95 := NB278_299.out; obtain ⟨hcz96_0, hcz96_1, hfz96_0, hfz96_1⟩ := aC2 BK299; have p307 : 0 ≤ ((rd t300 x86_3) : Int) := aD
     have q307 : (rd t300 x86_3) < (t296.length : Int) := aD
     obtain ⟨ad307, e307, hx307_0⟩ := Kd.at_int (Kd.zN HO_300001.out).2.2 (rd t300 x86_3) p307 q307; cases e307
     replace p307 := eq_true p307; replace q307 := eq_true q307; go_wp2
     go_roundg k3
     case measure => have := HK1.out; have := HJ35.out; have := HK3.out; omega
     case rel => exact ⟨(wrap64 (x86_3 + 1)), aZ, H', ⟨by have := HK1.out; have := HJ35.out; have := HK3.out; omega⟩, ⟨by (try simp only [hl6_1]); (with_reducible repeat (first | apply Kd.zG | apply Kd.zH | apply Kd.zI)); exact HO_9.out⟩, ⟨by (try simp only [hl6_1]); (with_reducible repeat (first | apply Kd.zG | apply Kd.zH | apply Kd.zI)); exact HO_84.out⟩, ⟨by (try simp only [hl6_1]); (with_reducible repeat (first | apply Kd.zG | apply Kd.zH | apply Kd.zI)); exact HO_300000.out⟩, ⟨by (try simp only [hl6_1]); (with_reducible repeat (first | apply Kd.zG | apply Kd.zH | apply Kd.zI)); exact HO_300001.out⟩, ⟨by (try simp only [hl6_1]); (with_reducible repeat (first | refine zD ?_ _ | refine zC ?_ | refine zB ?_ _)); exact BK271.out⟩, ⟨by (try simp only [hl6_1]); (with_reducible repeat (first | refine zD ?_ _ | refine zC ?_ | refine zB ?_ _)); exact BK277.out⟩, ⟨by (try simp only [hl6_1]); (with_reducible repeat (first | refine zD ?_ _ | refine zC ?_ | refine zB ?_ _)); exact BK278.out⟩, ⟨by (try simp only [hl6_1]); (with_reducible repeat (first | refine zD ?_ _ | refine zC ?_ | refine zB ?_ _)); exact BK299.out⟩, ⟨aL HB⟩⟩
    rw [if_pos c84] at H; have c84b0 : decide (0 < x86_3) = true := decide_eq_true c84
    clear c84; obtain ⟨ji85, hji85⟩ : ∃ j_ : Int, (wrap64 (x86_3 - 1)) = j_ := ⟨_, rfl⟩; replace H : (if 0 ≤ (ji85) then (if (ji85) < (t300.length : Int) then (if (rd t300 x86_3) ≤ (rd t300 (ji85)) then (some false) else (stanzalaw11_ItemsRight.l1 k3 t300 t300 (t300.length : Int) (wrap64 (x86_3 + 1)) t293 t296)) else (none)) else (none)) = some r := by first | (rw [hji85] at H; exact H) | (simp only [hji85] at H ⊢; exact H)
    have hji85w : (IntKind.i64.wrap (x86_3 - 1)) = ji85 := (i64_w _).trans hji85
    by_cases c86 : 0 ≤ (ji85)
    rotate_left
    ·rw [if_neg c86] at H
     exact absurd H (by simp)
    rw [if_pos c86] at H; have c86b0 : decide (0 ≤ (ji85)) = true := decide_eq_true c86
    clear c86; by_cases c87 : (ji85) < (t300.length : Int)
    rotate_left
    ·rw [if_neg c87] at H
     exact absurd H (by simp)
    rw [if_pos c87] at H; have c87b0 : decide ((ji85) < (t300.length : Int)) = true := decide_eq_true c87
    (try simp only [hl6_1] at c87b0)
    clear c87; by_cases c88 : (rd t300 x86_3) ≤ (rd t300 (ji85))
    ·rw [if_pos c88] at H
     have c88b0 : decide ((rd t300 x86_3) ≤ (rd t300 (ji85))) = true := decide_eq_true c88
     clear c88; exact absurd ((Option.some.inj H).trans hrt_.out) (by decide)
    rw [if_neg c88] at H; have c88b0 : decide ((rd t300 x86_3) ≤ (rd t300 (ji85))) = false := decide_eq_false c88
    clear c88; have H' := zA.mk H
    clear H; have p306 : 0 ≤ (x86_3 : Int) := aD
    have q306 : x86_3 < (t300.length : Int) := aD
    obtain ⟨ad306, e306, hx306_0⟩ := Kd.at_int (Kd.zN HO_84.out).2.2 x86_3 p306 q306; cases e306
    replace p306 := eq_true p306; replace q306 := eq_true q306; have hnb89 := NB299_271.out; have hnc89 := NB271_299.out; have hnb90 := NB299_277.out; have hnc90 := NB277_299.out; have hnb91 := NB299_278.out; have hnc91 := NB278_299.out; obtain ⟨hcz92_0, hcz92_1, hfz92_0, hfz92_1⟩ := aC2 BK299; have p307 : 0 ≤ ((rd t300 x86_3) : Int) := aD
    have q307 : (rd t300 x86_3) < (t296.length : Int) := aD
    obtain ⟨ad307, e307, hx307_0⟩ := Kd.at_int (Kd.zN HO_300001.out).2.2 (rd t300 x86_3) p307 q307; cases e307
    replace p307 := eq_true p307; replace q307 := eq_true q307; have p308 : 0 ≤ ((ji85) : Int) := aD
    have q308 : (ji85) < (t300.length : Int) := aD
    obtain ⟨ad308, e308, hx308_0⟩ := Kd.at_int (Kd.zN HO_9.out).2.2 (ji85) p308 q308; obtain rfl : ad306 = ad308 := (by injection e308)
    replace p308 := eq_true p308; replace q308 := eq_true q308; go_wp2
    go_roundg k3
    case measure => have := HK1.out; have := HJ35.out; have := HK3.out; omega
    case rel => exact ⟨(wrap64 (x86_3 + 1)), aZ, H', ⟨by have := HK1.out; have := HJ35.out; have := HK3.out; omega⟩, ⟨by (try simp only [hl6_1]); (with_reducible repeat (first | apply Kd.zG | apply Kd.zH | apply Kd.zI)); exact HO_9.out⟩, ⟨by (try simp only [hl6_1]); (with_reducible repeat (first | apply Kd.zG | apply Kd.zH | apply Kd.zI)); exact HO_84.out⟩, ⟨by (try simp only [hl6_1]); (with_reducible repeat (first | apply Kd.zG | apply Kd.zH | apply Kd.zI)); exact HO_300000.out⟩, ⟨by (try simp only [hl6_1]); (with_reducible repeat (first | apply Kd.zG | apply Kd.zH | apply Kd.zI)); exact HO_300001.out⟩, ⟨by (try simp only [hl6_1]); (with_reducible repeat (first | refine zD ?_ _ | refine zC ?_ | refine zB ?_ _)); exact BK271.out⟩, ⟨by (try simp only [hl6_1]); (with_reducible repeat (first | refine zD ?_ _ | refine zC ?_ | refine zB ?_ _)); exact BK277.out⟩, ⟨by (try simp only [hl6_1]); (with_reducible repeat (first | refine zD ?_ _ | refine zC ?_ | refine zB ?_ _)); exact BK278.out⟩, ⟨by (try simp only [hl6_1]); (with_reducible repeat (first | refine zD ?_ _ | refine zC ?_ | refine zB ?_ _)); exact BK299.out⟩, ⟨aL HB⟩⟩
def stanzalaw11_ItemsRight.Pure : Prop := ∀ (l0_0 : List Int) (l0_1 : List Int) (l0_2 : List Int) (l0_3 : List Bool) (l0_4 : List (S45)), ((l0_0.length * 1 ≤ 140737488351232 ∧ ∀ y0 ∈ l0_0, (Lit.int .u8 y0).wf = true) ∧ ((l0_1.length * 1 ≤ 140737488351232 ∧ ∀ y0 ∈ l0_1, (Lit.int .u8 y0).wf = true) ∧ ((l0_2.length * 1 ≤ 140737488351232 ∧ ∀ y0 ∈ l0_2, (Lit.int .u8 y0).wf = true) ∧ ((l0_3.length * 1 ≤ 140737488351232 ∧ ∀ y0 ∈ l0_3, True) ∧ (l0_4.length * 16 ≤ 140737488351232 ∧ ∀ y0 ∈ l0_4, ((Lit.int .i32 y0.f0).wf = true ∧ ((Lit.int .i32 y0.f1).wf = true ∧ (Lit.int .i64 y0.f2).wf = true))))))) → ∃ k, stanzalaw11_ItemsRight.f k l0_0 l0_1 l0_2 l0_3 l0_4 = some true
end Go.Proofs.Ytigajcipjklknaa.F
end
