/- Printed by a program: Lean functions that answer as the Go functions do, and the proofs of it. -/
import Derived.Test.YtlgclhhkgohanaaVBestHyphens0
import Derived.Test.YtlgclhhkgohanaaVBestHyphens1
section
namespace Go.Proofs.Ytlgclhhkgohanaa.F
open Go.RowKit Go.Proofs.YtlgclhhkgohanaaW.PrintWords Go.Proofs.YtlgclhhkgohanaaW.PrintLast Go.Proofs.YtlgclhhkgohanaaW.PrintMore
attribute [local go_sem] max2_int min2_int max_two min_two max_three min_three max_four min_four   -- for this text's walks alone
set_option linter.unusedVariables false
set_option linter.unusedSimpArgs false
def l5_BestHyphens.l0 : Nat → List (S45) → Int → Int → Int → Int → Int → Int → Int → Int → Nat → Option (Bool)
  | 0, _, _, _, _, _, _, _, _, _, _ => none
  | k + 1, x0, x2, x26, x27, x393000, x393001, x393002, x393003, x393004, x393005 => if x27 < x26 then (if 0 ≤ x27 then (if x27 < (x0.length : Int) then (if (Int.tmod ((rd_T45 x0 x27).f3) 4) = 2 then (l5_BestHyphens.l0 k (x0.set (x27 : Int).toNat (⟨(rd_T45 x0 x27).f0, (rd_T45 x0 x27).f1, (rd_T45 x0 x27).f2, 3⟩ : S45)) x2 x26 (wrap64 (x27 + 1)) x393000 x393001 x393002 x393003 x393004 x393005) else (l5_BestHyphens.l0 k x0 x2 x26 (wrap64 (x27 + 1)) x393000 x393001 x393002 x393003 x393004 x393005)) else (none)) else (none)) else ((h3_Para.f k x0).bind fun bt406 => ((h3_Config.f x393000 x393001 x393002 x393003 x393004 x393005).bind fun bt412 => ((best_Break.f k bt406.1 bt406.2 0 (bt406.1.length : Int) bt412.1 bt412.2.1 bt412.2.2.1 bt412.2.2.2.1 0 bt412.2.2.2.2.2).bind fun bt421 => ((best_Break.f k bt406.1 bt406.2 0 (bt406.1.length : Int) bt412.1 bt412.2.1 bt412.2.2.1 (wrap64 ((wrap64 (bt412.2.2.2.1 + 1)) + (wrap64 (x2)))) 0 bt412.2.2.2.2.2).bind fun bt425 => (if (bt421.2 == bt425.2) = true then ((l5_BestHyphens_1.f k bt425.1).bind fun t429 => ((l5_BestHyphens_1.f k bt421.1).bind fun t430 => (some (decide (t429 ≤ t430))))) else (some false))))))
def l5_BestHyphens.f (k : Nat) (l0 : List (S45)) (a1_0 : Int) (a1_1 : Int) (a1_2 : Int) (a1_3 : Int) (a1_4 : Int) (a1_5 : Nat) (a2 : Int) : Option (Bool) := (l5_Awake.f k).bind fun t393 => (if t393 = true then ((some (([] : List (S45)) : List (S45))).bind fun y394 => (if 0 ≤ (mn (l0.length : Int) 80) then (if (mn (l0.length : Int) 80) ≤ (l0.length : Int) then ((some (l0.take ((mn (l0.length : Int) 80) : Int).toNat : List (S45))).bind fun y397 => (if y394.length + y397.length < 35184372088832 then ((some (y394 ++ y397 : List (S45))).bind fun y401 => (l5_BestHyphens.l0 k y401 a2 (y401.length : Int) 0 a1_0 a1_1 a1_2 a1_3 a1_4 a1_5)) else (none))) else (none)) else (none))) else (some false))
theorem l5_BestHyphens.mono_l : ∀ k, (∀ y0 y1 y2 y3 y4 y5 y6 y7 y8 y9, LeO (l5_BestHyphens.l0 k y0 y1 y2 y3 y4 y5 y6 y7 y8 y9) (l5_BestHyphens.l0 (k + 1) y0 y1 y2 y3 y4 y5 y6 y7 y8 y9))
  | 0 => fun _ _ _ _ _ _ _ _ _ _ r h => by simp [l5_BestHyphens.l0] at h
  | k + 1 => by
    have ih0 := l5_BestHyphens.mono_l k
    · intro y0 y1 y2 y3 y4 y5 y6 y7 y8 y9
      unfold l5_BestHyphens.l0
      repeat' (with_reducible first | exact ih0 _ _ _ _ _ _ _ _ _ _ | exact best_Break.mono _ _ _ _ _ _ _ _ _ _ _ | exact h3_Para.mono _ _ | exact l5_Awake.mono _ | exact l5_BestHyphens_1.mono _ _ | exact LeO.refl _ | exact LeO.none _ | refine LeO.ite ?_ ?_ | refine LeO.bind ?_ (fun _ => ?_))
theorem l5_BestHyphens.mono : ∀ a0 a1 a2 a3 a4 a5 a6 a7 k, LeO (l5_BestHyphens.f k a0 a1 a2 a3 a4 a5 a6 a7) (l5_BestHyphens.f (k + 1) a0 a1 a2 a3 a4 a5 a6 a7) := by
  intro a0 a1 a2 a3 a4 a5 a6 a7 k
  have ih0 := l5_BestHyphens.mono_l k; unfold l5_BestHyphens.f
  repeat' (with_reducible first | exact ih0 _ _ _ _ _ _ _ _ _ _ | exact best_Break.mono _ _ _ _ _ _ _ _ _ _ _ | exact h3_Para.mono _ _ | exact l5_Awake.mono _ | exact l5_BestHyphens_1.mono _ _ | exact LeO.refl _ | exact LeO.none _ | refine LeO.ite ?_ ?_ | refine LeO.bind ?_ (fun _ => ?_))
def l5_BestHyphens.T10 : Bool × List (List Nat × List Nat) := (true, [([], []), ([0], [0]), ([], []), ([2, 1], [2]), ([], []), ([], []), ([4, 1, 3, 0, 1, 4, 5], [1, 4]), ([5, 3, 6, 0, 1, 2, 3, 4, 5, 6], [3, 5])])
def l5_BestHyphens.B10 : List Nat := [0, 1, 0, 7, 0, 0, 63, 127]
theorem l5_BestHyphens.tab10 : rtab .any (opsOf Try.f5 10) = l5_BestHyphens.T10 := by kernel_rfl
theorem l5_BestHyphens.bits10 : waitsOk l5_BestHyphens.T10.2 l5_BestHyphens.B10 = true := by kernel_rfl
set_option maxHeartbeats 8000000 in
set_option maxRecDepth 100000 in
theorem l5_BestHyphens.calls (k : Nat) (A0 : Option Addr) (c0 : Nat) (l0 : List (S45)) (a1_0 : Int) (a1_1 : Int) (a1_2 : Int) (a1_3 : Int) (a1_4 : Int) (a1_5 : Nat) (a2 : Int) (r : Bool) (w : World) (hr0 : Kd.C k45 w A0 l0.length l0) (hc0 : l0.length ≤ c0) (h : l5_BestHyphens.f k l0 a1_0 a1_1 a1_2 a1_3 a1_4 a1_5 a2 = some r) (hrt_ : zC (r = true)) :
    Calls Try.prog 5 #[.slice A0 l0.length c0, .agg #[.int .u8 a1_0, .int .u8 a1_1, .int .u8 a1_2, .int .u16 a1_3, .int .u16 a1_4, .float .f64 a1_5], .int .u16 a2] w fun e w' => e = .returned (.bool r) ∧ Below w.heap.size w w' := by
  have hu26 := Try.underlying26; have hu31 := Try.underlying31; have hu35 := Try.underlying35; have HR0 := zC.mk hr0; have HC0 := zC.mk hc0; clear hr0 hc0; have HB := zC.mk (Below.refl w.heap.size w); have H : ((l5_Awake.f k).bind fun t393 => (if t393 = true then ((some (([] : List (S45)) : List (S45))).bind fun y394 => (if 0 ≤ (mn (l0.length : Int) 80) then (if (mn (l0.length : Int) 80) ≤ (l0.length : Int) then ((some (l0.take ((mn (l0.length : Int) 80) : Int).toNat : List (S45))).bind fun y397 => (if y394.length + y397.length < 35184372088832 then ((some (y394 ++ y397 : List (S45))).bind fun y401 => (l5_BestHyphens.l0 k y401 a2 (y401.length : Int) 0 a1_0 a1_1 a1_2 a1_3 a1_4 a1_5)) else (none))) else (none)) else (none))) else (some false))) = some r := h
  clear h; replace H := Option.bind_eq_some_iff.mp H; obtain ⟨t393, A40, H⟩ := H; replace H : (if t393 = true then ((some (([] : List (S45)) : List (S45))).bind fun y394 => (if 0 ≤ (mn (l0.length : Int) 80) then (if (mn (l0.length : Int) 80) ≤ (l0.length : Int) then ((some (l0.take ((mn (l0.length : Int) 80) : Int).toNat : List (S45))).bind fun y397 => (if y394.length + y397.length < 35184372088832 then ((some (y394 ++ y397 : List (S45))).bind fun y401 => (l5_BestHyphens.l0 k y401 a2 (y401.length : Int) 0 a1_0 a1_1 a1_2 a1_3 a1_4 a1_5)) else (none))) else (none)) else (none))) else (some false)) = some r := H
  have A4 := zC.mk A40; clear A40; by_cases c5 : t393 = true
  rotate_left
  · replace c5 := Bool.eq_false_iff.mpr c5
    subst c5; have H1 : (some false) = some r := by rw [if_neg (show ¬ (false = true) by decide)] at H; exact H
    clear H; have H := H1; clear H1; exact absurd ((Option.some.inj H).trans hrt_.out) (by decide)
  subst c5; have H1 : ((some (([] : List (S45)) : List (S45))).bind fun y394 => (if 0 ≤ (mn (l0.length : Int) 80) then (if (mn (l0.length : Int) 80) ≤ (l0.length : Int) then ((some (l0.take ((mn (l0.length : Int) 80) : Int).toNat : List (S45))).bind fun y397 => (if y394.length + y397.length < 35184372088832 then ((some (y394 ++ y397 : List (S45))).bind fun y401 => (l5_BestHyphens.l0 k y401 a2 (y401.length : Int) 0 a1_0 a1_1 a1_2 a1_3 a1_4 a1_5)) else (none))) else (none)) else (none))) = some r := by rw [if_pos rfl] at H; exact H
  clear H; have H := H1; clear H1; obtain ⟨y394, hy394⟩ : ∃ y_ : List (S45), y_ = (([] : List (S45))) := ⟨_, rfl⟩; replace H : (if 0 ≤ (mn (l0.length : Int) 80) then (if (mn (l0.length : Int) 80) ≤ (l0.length : Int) then ((some (l0.take ((mn (l0.length : Int) 80) : Int).toNat : List (S45))).bind fun y397 => (if y394.length + y397.length < 35184372088832 then ((some (y394 ++ y397 : List (S45))).bind fun y401 => (l5_BestHyphens.l0 k y401 a2 (y401.length : Int) 0 a1_0 a1_1 a1_2 a1_3 a1_4 a1_5)) else (none))) else (none)) else (none)) = some r := by first | (rw [hy394]; with_reducible exact H) | (have H2_ := (Option.bind_some _ _).symm.trans H; rw [hy394]; with_reducible exact H2_) | (have H2_ := (Option.bind_some _ _).symm.trans H; with_reducible exact H2_) | with_reducible exact H | (rw [hy394]; exact H) | exact H
  have Ny394 := zC.mk hy394; clear hy394; obtain ⟨ji6, hji6⟩ : ∃ j_ : Int, (mn (l0.length : Int) 80) = j_ := ⟨_, rfl⟩; replace H : (if 0 ≤ (ji6) then (if (ji6) ≤ (l0.length : Int) then ((some (l0.take ((ji6) : Int).toNat : List (S45))).bind fun y397 => (if y394.length + y397.length < 35184372088832 then ((some (y394 ++ y397 : List (S45))).bind fun y401 => (l5_BestHyphens.l0 k y401 a2 (y401.length : Int) 0 a1_0 a1_1 a1_2 a1_3 a1_4 a1_5)) else (none))) else (none)) else (none)) = some r := by first | (rw [hji6] at H; exact H) | (simp only [hji6] at H ⊢; exact H)
  (try rw [hji6] at A4)
  (try (have hji6h : ji6 ≤ 80 := by (rw [← hji6]; unfold mn; (repeat' split) <;> omega)))
  (try (have hji6g : ji6 ≤ 64 := by omega))
  (try (have hji6l : 0 ≤ ji6 := by (rw [← hji6]; unfold mn; (repeat' split) <;> omega)))
  (try (have hji6m : 0 ≤ ji6 := by omega))
  have hji6_ : (if 80 < (l0.length : Int) then 80 else (l0.length : Int)) = ji6 := hji6
  by_cases c7 : 0 ≤ (ji6)
  rotate_left
  · rw [if_neg c7] at H
    exact absurd H (by simp)
  rw [if_pos c7] at H; have c7b0 := eq_true c7; have c7b1 : decide (0 ≤ (ji6)) = true := decide_eq_true c7
  clear c7; by_cases c8 : (ji6) ≤ (l0.length : Int)
  rotate_left
  · rw [if_neg c8] at H
    exact absurd H (by simp)
  rw [if_pos c8] at H; have c8b0 := eq_true c8; have c8b1 : decide ((ji6) ≤ (l0.length : Int)) = true := decide_eq_true c8
  clear c8; obtain ⟨y397, hy397⟩ : ∃ y_ : List (S45), y_ = (l0.take ((ji6) : Int).toNat) := ⟨_, rfl⟩; replace H : (if y394.length + y397.length < 35184372088832 then ((some (y394 ++ y397 : List (S45))).bind fun y401 => (l5_BestHyphens.l0 k y401 a2 (y401.length : Int) 0 a1_0 a1_1 a1_2 a1_3 a1_4 a1_5)) else (none)) = some r := by first | (rw [hy397]; with_reducible exact H) | (have H2_ := (Option.bind_some _ _).symm.trans H; rw [hy397]; with_reducible exact H2_) | (have H2_ := (Option.bind_some _ _).symm.trans H; with_reducible exact H2_) | with_reducible exact H | (rw [hy397]; exact H) | exact H
  have Ny397 := zC.mk hy397; clear hy397; by_cases c9 : y394.length + y397.length < 35184372088832
  rotate_left
  · rw [if_neg c9] at H
    exact absurd H (by simp)
  rw [if_pos c9] at H; have LMc9 := zC.mk c9; clear c9; obtain ⟨y401, hy401⟩ : ∃ y_ : List (S45), y_ = (y394 ++ y397) := ⟨_, rfl⟩; replace H : (l5_BestHyphens.l0 k y401 a2 (y401.length : Int) 0 a1_0 a1_1 a1_2 a1_3 a1_4 a1_5) = some r := by first | (rw [hy401]; with_reducible exact H) | (have H2_ := (Option.bind_some _ _).symm.trans H; rw [hy401]; with_reducible exact H2_) | (have H2_ := (Option.bind_some _ _).symm.trans H; with_reducible exact H2_) | with_reducible exact H | (rw [hy401]; exact H) | exact H
  have Ny401 := zC.mk hy401; clear hy401; have H' := zC.mk H
  clear H; go_enter Try.func5, Try.ntmps5
  go_wp2_with (first | ((with_reducible refine gate_dst (N := 4) rfl ?_); refine box_event ?hg (N := 4) ?hd (cs := #[.int .u8 a1_0, .int .u8 a1_1, .int .u8 a1_2, .int .u16 a1_3, .int .u16 a1_4, .float .f64 a1_5]) (t := 26) ?hr ?_; (case hd => rfl); (case hg => rfl); (case hr => first | (go_simp; done) | (go_simp; rfl)); intro gb392 hg w10 hbox hb; have n0_ := zC.mk (below_step (by repeat (first | (with_reducible first | exact HB.out | apply zJ | apply zG | apply zI) | exact HB.out)) hb); have n1_ := zC.mk (hbox); have n2_ := zC.mk ((by rw [hg]; exact (below_size (by repeat (first | (with_reducible first | exact HB.out | apply zJ | apply zG | apply zI) | exact HB.out))) : w.heap.size ≤ gb392)); have n3_ := zC.mk ((by rw [hg]; exact (below_size (by repeat (first | (with_reducible first | exact HB.out | apply zJ | apply zG | apply zI) | exact HB.out))) : w.heap.size ≤ gb392)); clear HB; have HB := n0_; have BK392 := n1_; have GW392 := n2_; have GE392 := n3_; clear n0_ n1_ n2_ n3_; clear hb hbox hg) | ((with_reducible refine gate_callee (f := 10) rfl ?_); refine goesL_ (some 16) rfl rfl Try.func10 (by kernel_rfl) rfl #[] rfl (by (try simp only [List.map_toArray, List.map_cons, List.map_nil]); first | done | rfl | (simp only [List.length_drop, List.length_take]; rfl)) ?_; (with_reducible refine (l5_Awake.calls k  true _ A4.out (by first | exact ⟨rfl⟩ | exact hrt_)).mono ?_); rintro e w11 ⟨rfl, hb⟩; refine ⟨_, rfl, ?_⟩; have n0_ := zC.mk (zK (g := gb392) (o := .cells #[.int .u8 a1_0, .int .u8 a1_1, .int .u8 a1_2, .int .u16 a1_3, .int .u16 a1_4, .float .f64 a1_5] 26 (0, 0)) (by (with_reducible repeat (first | refine zB ?_ _ | refine zD ?_ | refine zA ?_ _)); exact BK392.out) hb); have n1_ := zC.mk (below_step (by repeat (first | (with_reducible first | exact HB.out | apply zJ | apply zG | apply zI | refine zE ?_ GE392.out) | exact HB.out)) hb); clear BK392; clear HB; have BK392 := n0_; have HB := n1_; clear n0_ n1_; (try clear hb); (try clear hb2); (try clear hk); (try clear hi)) | ((with_reducible refine gate_dst (N := 18) rfl ?_); refine Kd.R_lit k45 _ 45 ?hg (N := 18) ?hd (xs := ([] : List (S45))) (inner := []) (ok := fun _ => True) (okp := fun _ => True) ?hr ?hp (fun _ hk => hk) trivial (Below.refl _ _) (Nat.le_refl _) (by simp) ?_; (case hd => rfl); (case hg => rfl); (case hr => first | (go_simp; done) | (go_simp; rfl)); (case hp => exact (Reps.none _ _)); intro v395 w12 ho13 hb hg_ hnew_; clear hg_ hnew_; (first | rw [← Ny394.out] at ho13 | (simp only [Int.reduceToNat] at ho13; rw [← Ny394.out] at ho13)); have n0_ := zC.mk (Kd.zX ho13 (below_size (by repeat (first | (with_reducible first | exact HB.out | apply zJ | apply zG | apply zI | refine zE ?_ GE392.out) | exact HB.out)))); have n1_ := zC.mk (zK (g := gb392) (o := .cells #[.int .u8 a1_0, .int .u8 a1_1, .int .u8 a1_2, .int .u16 a1_3, .int .u16 a1_4, .float .f64 a1_5] 26 (0, 0)) (by (with_reducible repeat (first | refine zB ?_ _ | refine zD ?_ | refine zA ?_ _)); exact BK392.out) hb); have n2_ := zC.mk (below_step (by repeat (first | (with_reducible first | exact HB.out | apply zJ | apply zG | apply zI | refine zE ?_ GE392.out) | exact HB.out)) hb); clear BK392; clear HB; have HO396 := n0_; have BK392 := n1_; have HB := n2_; clear n0_ n1_ n2_; clear hb ho13; have q14 : ((ji6) : Int) ≤ ((l0.length : Int) : Int) := of_decide_eq_true (by first | (with_reducible assumption) | assumption); obtain ⟨i014, hi014, _, hsz14, _⟩ := info_parts info45; have hroom14 : l0.length ≤ c0 := HC0.out; have hC14 : Kd.C k45 _ A0 l0.length l0 := HR0.out; have hcut14 := cut_to (P := Try.prog) 22 45 .i64 Try.underlying22 hi014 A0 l0.length c0 (ji6) (of_decide_eq_true (by first | (with_reducible assumption) | assumption)) q14 hroom14; have hr14 := Kd.C_take (m := ((ji6) : Int).toNat) hC14 (by omega); have hy14 : y397.length = ((ji6) : Int).toNat := (by rw [Ny397.out, List.length_take]; omega); rw [← Ny397.out] at hr14; rw [← hy14] at hcut14; have HR400 := zC.mk hr14; have HC400 := zC.mk (show y397.length ≤ c0 from by omega); clear hr14 hC14 hroom14 hi014 hsz14; have KY14 := zC.mk hy14; clear hy14; replace q14 := eq_true q14) | ((with_reducible refine gate_builtin (b := .append) (xs := #[.tmp 18, .tmp 23]) rfl ?_); at_builtin; refine Kd.R_append_rows k45 (w0 := w) w.heap.size rfl (.tmp 18) (.tmp 23) 22 45 (.agg #[(.int .u8 0), (.int .u8 0), (.int .u8 0), (.int .u8 0)]) 4 rfl Try.underlying22 info45 rfl (by decide) (by omega) v395 y394 y397 _ _ _ (fun _ => True) (fun _ => False) rfl rfl ?aO ?aR (fun _ _ h => h) (fun _ h => h.elim) ?aF ?aB ?aS ?aL ?_; (case aR => repeat (first | exact (Kd.zS HR400.out HB.out) | (with_reducible refine Kd.zP ?_ _) | (with_reducible refine Kd.zQ ?_ _) | (with_reducible refine Kd.zR ?_))); (case aB => exact (by repeat (first | (with_reducible first | exact HB.out | apply zJ | apply zG | apply zI | refine zE ?_ GE392.out) | exact HB.out))); (case aF => exact (fun _ _ => trivial)); (case aO => exact (by (with_reducible repeat (first | apply Kd.zM | apply Kd.zN | apply Kd.zO)); exact HO396.out)); (case aS => exact (below_size (by repeat (first | (with_reducible first | exact HB.out | apply zJ | apply zG | apply zI | refine zE ?_ GE392.out) | exact HB.out)))); (case aL => have := LMc9.out; omega); intro v402 w15 ho hb hg hat; rw [← Ny401.out] at ho; have n0_ := zC.mk (blk_grown (g := gb392) (o := .cells #[.int .u8 a1_0, .int .u8 a1_1, .int .u8 a1_2, .int .u16 a1_3, .int .u16 a1_4, .float .f64 a1_5] 26 (0, 0)) (by (with_reducible repeat (first | refine zB ?_ _ | refine zD ?_ | refine zA ?_ _)); exact BK392.out) hg (Kd.R_ne HO396.out BK392.out (by decide))); have n1_ := zC.mk (hb); have n2_ := zC.mk (ho); clear BK392; clear HB; clear HO396; have BK392 := n0_; have HB := n1_; have HO403 := n2_; clear n0_ n1_ n2_; clear ho hb hg hat; obtain ⟨Ao16, co16, eo16⟩ := Kd.zW HO403.out; subst eo16))
  go_loopg [27] k (fun kq v27 w' => ∃ (x0_1 : List (S45)) (x27_1 : Int), v27 = .int .i64 x27_1 ∧ zC (l5_BestHyphens.l0 kq x0_1 a2 (y401.length : Int) x27_1 a1_0 a1_1 a1_2 a1_3 a1_4 a1_5 = some r) ∧ zC (kq ≤ k) ∧ zC (Kd.R k45 45 w' w.heap.size (fun _ => True) (.slice Ao16 y401.length co16) x0_1) ∧ zC (w'.heap[gb392]? = some (.cells #[.int .u8 a1_0, .int .u8 a1_1, .int .u8 a1_2, .int .u16 a1_3, .int .u16 a1_4, .float .f64 a1_5] 26 (0, 0))) ∧ zC (Below w.heap.size w w'))
  case atStart => exact ⟨(y401), (0), (by first | rfl | (simp; done) | (simp [*]; done)), H', ⟨Nat.le_refl _⟩, ⟨by (with_reducible repeat (first | apply Kd.zM | apply Kd.zN | apply Kd.zO)); exact HO403.out⟩, ⟨by (with_reducible repeat (first | refine zB ?_ _ | refine zD ?_ | refine zA ?_ _)); exact BK392.out⟩, ⟨by repeat (first | (with_reducible first | exact HB.out | apply zJ | apply zG | apply zI | refine zE ?_ GE392.out) | exact HB.out)⟩⟩
  clear H'; try clear c1
  try clear q1
  try clear p2
  try clear c5
  try clear c7
  try clear c7b0
  try clear c7b1
  try clear c8
  try clear c8b0
  try clear c8b1
  try clear c9
  try clear c10
  try clear q14
  try clear q14
  obtain ⟨x0_1, x27_1, rfl, HA, HK1, HO_0, BK392, HB⟩ := hrel; have hl0_1 := (Kd.zT HO_0.out).1; rw [hl0_1] at HO_0; (try simp only [hl0_1])
  (try simp only [hl0_1] at BK392)
  cases gk with
  | zero => exact absurd HA.out (by simp [l5_BestHyphens.l0])
  | succ k1 =>
    have H := HA.out; clear HA; simp only [l5_BestHyphens.l0] at H; by_cases c17 : x27_1 < (y401.length : Int)
    · rw [if_pos c17] at H
      have c17b0 : decide (x27_1 < (y401.length : Int)) = true := decide_eq_true c17
      (try simp only [hl0_1] at c17b0)
      clear c17; by_cases c18 : 0 ≤ x27_1
      rotate_left
      · rw [if_neg c18] at H
        exact absurd H (by simp)
      rw [if_pos c18] at H; have c18b0 : decide (0 ≤ x27_1) = true := decide_eq_true c18
      clear c18; by_cases c19 : x27_1 < (x0_1.length : Int)
      rotate_left
      · rw [if_neg c19] at H
        exact absurd H (by simp)
      rw [if_pos c19] at H; have c19b0 : decide (x27_1 < (x0_1.length : Int)) = true := decide_eq_true c19
      (try simp only [hl0_1] at c19b0)
      clear c19; by_cases c20 : (Int.tmod ((rd_T45 x0_1 x27_1).f3) 4) = 2
      rotate_left
      · rw [if_neg c20] at H
        have c20b0 : ((Int.tmod ((rd_T45 x0_1 x27_1).f3) 4) == 2) = false := beq_eq_false_iff_ne.mpr c20
        have c20b1 : ((Int.tmod ((rd_T45 x0_1 x27_1).f3) 4) != 2) = true := bne_iff_ne.mpr c20
        have H' := zC.mk H
        clear H; have p404 : 0 ≤ (x27_1 : Int) := of_decide_eq_true (by first | (with_reducible assumption) | assumption)
        have q404 : x27_1 < (x0_1.length : Int) := of_decide_eq_true (by first | (with_reducible assumption) | assumption)
        obtain ⟨ad404, e404, hx404_0, hx404_1, hx404_2, hx404_3⟩ := at_T45 (Kd.zT HO_0.out).2.2 x27_1 p404 q404; cases e404
        replace p404 := eq_true p404; replace q404 := eq_true q404; go_wp2
        (try simp only [← hl0_1])
        go_roundg k1
        case measure => have := HK1.out; omega
        case rel => exact ⟨(x0_1), (wrap64 (x27_1 + 1)), (by first | rfl | (simp; done) | (simp [*]; done)), H', ⟨by have := HK1.out; omega⟩, ⟨by (try simp only [hl0_1]); (with_reducible repeat (first | apply Kd.zM | apply Kd.zN | apply Kd.zO)); exact HO_0.out⟩, ⟨by (try simp only [hl0_1]); (with_reducible repeat (first | refine zB ?_ _ | refine zD ?_ | refine zA ?_ _)); exact BK392.out⟩, ⟨by repeat (first | (with_reducible first | exact HB.out | apply zJ | apply zG | apply zI | refine zE ?_ GE392.out) | exact HB.out)⟩⟩
      rw [if_pos c20] at H; have c20b0 : ((Int.tmod ((rd_T45 x0_1 x27_1).f3) 4) == 2) = true := beq_iff_eq.mpr c20
      have c20b1 : ((Int.tmod ((rd_T45 x0_1 x27_1).f3) 4) != 2) = false := bne_eq_false_iff_eq.mpr c20
      clear c20; obtain ⟨y405, hy405⟩ : ∃ y_ : List (S45), y_ = (x0_1.set (x27_1 : Int).toNat (⟨(rd_T45 x0_1 x27_1).f0, (rd_T45 x0_1 x27_1).f1, (rd_T45 x0_1 x27_1).f2, 3⟩ : S45)) := ⟨_, rfl⟩; replace H : (l5_BestHyphens.l0 k1 y405 a2 (y401.length : Int) (wrap64 (x27_1 + 1)) a1_0 a1_1 a1_2 a1_3 a1_4 a1_5) = some r := by first | (rw [hy405]; with_reducible exact H) | (have H2_ := (Option.bind_some _ _).symm.trans H; rw [hy405]; with_reducible exact H2_) | (have H2_ := (Option.bind_some _ _).symm.trans H; with_reducible exact H2_) | with_reducible exact H | (rw [hy405]; exact H) | exact H
      have Ny405 := zC.mk hy405; clear hy405; have H' := zC.mk H
      clear H; have p404 : 0 ≤ (x27_1 : Int) := of_decide_eq_true (by first | (with_reducible assumption) | assumption)
      have q404 : x27_1 < (x0_1.length : Int) := of_decide_eq_true (by first | (with_reducible assumption) | assumption)
      obtain ⟨ad404, e404, hx404_0, hx404_1, hx404_2, hx404_3⟩ := at_T45 (Kd.zT HO_0.out).2.2 x27_1 p404 q404; cases e404
      replace p404 := eq_true p404; replace q404 := eq_true q404; have p21 : 0 ≤ (x27_1 : Int) := of_decide_eq_true (by first | (with_reducible assumption) | assumption)
      have q21 : (x27_1 : Int) < ((x0_1.length : Int) : Int) := of_decide_eq_true (by first | (with_reducible assumption) | assumption)
      obtain ⟨go21, co21, eo21, gb21, gl21, cl21, HG21⟩ := Kd.R_form HO_0.out (by omega)
      (first | cases eo21 | (injection eo21 with ea_ en_ ec_; (first | subst ea_ | (injection ea_ with ea_; subst ea_)); subst ec_; clear en_))
      have GB21 := zC.mk gb21; have GG21 := zC.mk HG21; clear gb21 gl21 HG21; (first | simp only [add_plain] at hx404_0 | skip)
      (first | simp only [add_plain] at hx404_1 | skip)
      (first | simp only [add_plain] at hx404_2 | skip)
      (first | simp only [add_plain] at hx404_3 | skip)
      obtain ⟨ce21, hcl21, hM21, hcc21, hfr21⟩ := Kd.R_elem HO_0.out z45 (x27_1 : Int) p21 q21; obtain rfl := k45_openM hM21
      have hx21_0 : wr.cell? ⟨go21, (x27_1 : Int).toNat * 4, none⟩ = some (.int .u8 ((rd_T45 x0_1 x27_1).f0)) := hcc21 0 _ rfl
      have hx21_1 : wr.cell? ⟨go21, (x27_1 : Int).toNat * 4 + 1, none⟩ = some (.int .u8 ((rd_T45 x0_1 x27_1).f1)) := hcc21 1 _ rfl
      have hx21_2 : wr.cell? ⟨go21, (x27_1 : Int).toNat * 4 + 2, none⟩ = some (.int .u8 ((rd_T45 x0_1 x27_1).f2)) := hcc21 2 _ rfl
      have hx21_3 : wr.cell? ⟨go21, (x27_1 : Int).toNat * 4 + 3, none⟩ = some (.int .u8 ((rd_T45 x0_1 x27_1).f3)) := hcc21 3 _ rfl
      have hf21_0 : wr.frozen? ⟨go21, (x27_1 : Int).toNat * 4, none⟩ = false := hfr21 0
      have hf21_1 : wr.frozen? ⟨go21, (x27_1 : Int).toNat * 4 + 1, none⟩ = false := hfr21 1
      have hf21_2 : wr.frozen? ⟨go21, (x27_1 : Int).toNat * 4 + 2, none⟩ = false := hfr21 2
      have hf21_3 : wr.frozen? ⟨go21, (x27_1 : Int).toNat * 4 + 3, none⟩ = false := hfr21 3
      clear hcl21 hcc21 hfr21 hM21; replace p21 := eq_true p21; replace q21 := eq_true q21; have HX22 := zC.mk (show Kd.R k45 45 wr w.heap.size (fun _ => True) (.slice (some ⟨go21, 0, none⟩) x0_1.length co16) x0_1 from (by (with_reducible repeat (first | apply Kd.zM | apply Kd.zN | apply Kd.zO)); exact HO_0.out))
      obtain ⟨ce22, hcl22, hM22, hcc22, hfr22⟩ := Kd.R_elem HX22.out z45 (x27_1 : Int) (of_decide_eq_true (by first | (with_reducible assumption) | assumption)) (by have h_ : (x27_1 : Int) < ((x0_1.length : Int) : Int) := of_decide_eq_true (by first | (with_reducible assumption) | assumption); first | exact h_ | (have e_ := (Kd.zT HO_0.out).1; omega) | simpa using h_)
      obtain rfl := k45_openM hM22
      have HP22 := Kd.R_seg HX22.out (x27_1 : Int) (of_decide_eq_true (by first | (with_reducible assumption) | assumption)) (by have h_ : (x27_1 : Int) < ((x0_1.length : Int) : Int) := of_decide_eq_true (by first | (with_reducible assumption) | assumption); first | exact h_ | (have e_ := (Kd.zT HO_0.out).1; omega) | simpa using h_) (seg := [.int .u8 3]) (j := 3) hcl22 hcc22 (show 4 ≤ 4 from by decide) (x' := (⟨(rd_T45 x0_1 x27_1).f0, (rd_T45 x0_1 x27_1).f1, (rd_T45 x0_1 x27_1).f2, 3⟩ : S45)) (k45_mkM _ _ _ (⟨(rd_T45 x0_1 x27_1).f0, (rd_T45 x0_1 x27_1).f1, (rd_T45 x0_1 x27_1).f2, 3⟩ : S45) ) (fun _ hk => hk)
      have hx22_3 := hcc22 3 _ rfl; (try simp only [show (k45).sz = 4 from rfl, Nat.mul_one, Nat.add_zero] at hx22_3)
      have hf22_3 := hfr22 3; (try simp only [show (k45).sz = 4 from rfl, Nat.mul_one, Nat.add_zero] at hf22_3)
      clear hcl22 hcc22 hfr22 hM22; go_wp2_with (first | ((with_reducible refine gate_store (t := 5) (p := 40) rfl ?_); refine store_event (t := 5) (p := 40) (v := ?vo_w23) (w1 := (wr.setCell ⟨go21, (x27_1 : Int).toNat * 4 + 3, none⟩ (.int .u8 3))) ?hg ?ho ?hn ?hr ?_; (case ho => rfl); (case hg => rfl); (case hn => rfl); (case hr => first | (go_simp; done) | (go_simp; rfl)); intro w23 hw; have hg : wr.grownBy w23 (some go21) := (by rw [hw]; exact HP22.2); have hp_ : Kd.R k45 45 w23 w.heap.size (fun _ => True) (.slice (some ⟨go21, 0, none⟩) x0_1.length co16) y405 := (by rw [hw, Ny405.out]; exact HP22.1); clear HP22; have n0_ := zC.mk (hp_); have n1_ := zC.mk (blk_grown (g := gb392) (o := .cells #[.int .u8 a1_0, .int .u8 a1_1, .int .u8 a1_2, .int .u16 a1_3, .int .u16 a1_4, .float .f64 a1_5] 26 (0, 0)) (by (with_reducible repeat (first | refine zB ?_ _ | refine zD ?_ | refine zA ?_ _)); exact BK392.out) hg (Kd.R_ne HO_0.out BK392.out (by decide))); have n2_ := zC.mk ((by rw [hw]; exact zE (HB.out) GB21.out : Below w.heap.size w w23)); clear HO_0; clear BK392; clear HB; have HO_0 := n0_; have BK392 := n1_; have HB := n2_; clear n0_ n1_ n2_; clear hg hw hp_))
      (try simp only [← hl0_1])
      go_roundg k1
      case measure => have := HK1.out; omega
      case rel => exact ⟨(y405), (wrap64 (x27_1 + 1)), (by first | rfl | (simp; done) | (simp [*]; done)), H', ⟨by have := HK1.out; omega⟩, ⟨by (try simp only [hl0_1]); (with_reducible repeat (first | apply Kd.zM | apply Kd.zN | apply Kd.zO)); exact HO_0.out⟩, ⟨by (try simp only [hl0_1]); (with_reducible repeat (first | refine zB ?_ _ | refine zD ?_ | refine zA ?_ _)); exact BK392.out⟩, ⟨by repeat (first | (with_reducible first | exact HB.out | apply zJ | apply zG | apply zI | refine zE ?_ GE392.out) | exact HB.out)⟩⟩
    rw [if_neg c17] at H; have c17b0 : decide (x27_1 < (y401.length : Int)) = false := decide_eq_false c17
    (try simp only [hl0_1] at c17b0)
    clear c17; replace H := Option.bind_eq_some_iff.mp H; obtain ⟨⟨t406, t409⟩, A240, H⟩ := H; replace H : ((h3_Config.f a1_0 a1_1 a1_2 a1_3 a1_4 a1_5).bind fun bt412 => ((best_Break.f k1 t406 t409 0 (t406.length : Int) bt412.1 bt412.2.1 bt412.2.2.1 bt412.2.2.2.1 0 bt412.2.2.2.2.2).bind fun bt421 => ((best_Break.f k1 t406 t409 0 (t406.length : Int) bt412.1 bt412.2.1 bt412.2.2.1 (wrap64 ((wrap64 (bt412.2.2.2.1 + 1)) + (wrap64 (a2)))) 0 bt412.2.2.2.2.2).bind fun bt425 => (if (bt421.2 == bt425.2) = true then ((l5_BestHyphens_1.f k1 bt425.1).bind fun t429 => ((l5_BestHyphens_1.f k1 bt421.1).bind fun t430 => (some (decide (t429 ≤ t430))))) else (some false))))) = some r := H
    have A24 := zC.mk A240; clear A240; replace H := Option.bind_eq_some_iff.mp H; obtain ⟨⟨t412, t413, t414, t415, t416, t417⟩, A250, H⟩ := H; replace H : ((best_Break.f k1 t406 t409 0 (t406.length : Int) t412 t413 t414 t415 0 t417).bind fun bt421 => ((best_Break.f k1 t406 t409 0 (t406.length : Int) t412 t413 t414 (wrap64 ((wrap64 (t415 + 1)) + (wrap64 (a2)))) 0 t417).bind fun bt425 => (if (bt421.2 == bt425.2) = true then ((l5_BestHyphens_1.f k1 bt425.1).bind fun t429 => ((l5_BestHyphens_1.f k1 bt421.1).bind fun t430 => (some (decide (t429 ≤ t430))))) else (some false)))) = some r := H
    have A25 := zC.mk A250; clear A250; replace H := Option.bind_eq_some_iff.mp H; obtain ⟨⟨t421, t424⟩, A260, H⟩ := H; replace H : ((best_Break.f k1 t406 t409 0 (t406.length : Int) t412 t413 t414 (wrap64 ((wrap64 (t415 + 1)) + (wrap64 (a2)))) 0 t417).bind fun bt425 => (if (t424 == bt425.2) = true then ((l5_BestHyphens_1.f k1 bt425.1).bind fun t429 => ((l5_BestHyphens_1.f k1 t421).bind fun t430 => (some (decide (t429 ≤ t430))))) else (some false))) = some r := H
    have A26 := zC.mk A260; clear A260; replace H := Option.bind_eq_some_iff.mp H; obtain ⟨⟨t425, t428⟩, A270, H⟩ := H; replace H : (if (t424 == t428) = true then ((l5_BestHyphens_1.f k1 t425).bind fun t429 => ((l5_BestHyphens_1.f k1 t421).bind fun t430 => (some (decide (t429 ≤ t430))))) else (some false)) = some r := H
    have A27 := zC.mk A270; clear A270; by_cases c28 : (t424 == t428) = true
    rotate_left
    · rw [if_neg c28] at H
      have c28b0 : (t424 == t428) = false := by simpa using c28
      (try (have c28b1 : decide (t424 = t428) = false := by simpa using c28))
      (try (have c28b2 : (t424 == t428) = false := by simpa using c28))
      (try (have c28b3 : ¬ (t424 = t428) := by simpa using c28))
      clear c28; exact absurd ((Option.some.inj H).trans hrt_.out) (by decide)
    rw [if_pos c28] at H; have c28b0 : (t424 == t428) = true := c28
    (try (have c28b1 : decide (t424 = t428) = true := by simpa using c28))
    (try (have c28b2 : (t424 == t428) = true := by simpa using c28))
    clear c28; replace H := Option.bind_eq_some_iff.mp H; obtain ⟨t429, A290, H⟩ := H; replace H : ((l5_BestHyphens_1.f k1 t421).bind fun t430 => (some (decide (t429 ≤ t430)))) = some r := H
    have A29 := zC.mk A290; clear A290; replace H := Option.bind_eq_some_iff.mp H; obtain ⟨t430, A300, H⟩ := H; replace H : (some (decide (t429 ≤ t430))) = some r := H; have A30 := zC.mk A300; clear A300; obtain rfl := Option.some.inj H
    try go_wp2
    have n0_ := zC.mk (Kd.zO HO_0.out); have n1_ := zC.mk (zD BK392.out); have n2_ := zC.mk (zI HB.out); clear HO_0; clear BK392; clear HB; have HO_0 := n0_; have BK392 := n1_; have HB := n2_; clear n0_ n1_ n2_; refine start_ (n := 8) (S := fun w' => w'.cell? ⟨gb392, 0, none⟩ = some (.int .u8 a1_0) ∧ w'.cell? ⟨gb392, 1, none⟩ = some (.int .u8 a1_1) ∧ w'.cell? ⟨gb392, 2, none⟩ = some (.int .u8 a1_2) ∧ w'.cell? ⟨gb392, 3, none⟩ = some (.int .u16 a1_3) ∧ w'.cell? ⟨gb392, 4, none⟩ = some (.int .u16 a1_4) ∧ w'.cell? ⟨gb392, 5, none⟩ = some (.float .f64 a1_5)) (ds := []) #[false, false, false, false, false, false, false, false] (by kernel_rfl) rfl rfl ⟨(zH BK392.out 0).trans rfl, (zH BK392.out 1).trans rfl, (zH BK392.out 2).trans rfl, (zH BK392.out 3).trans rfl, (zH BK392.out 4).trans rfl, (zH BK392.out 5).trans rfl⟩ (fun hHeld => ?_); refine with_tabW l5_BestHyphens.tab10 l5_BestHyphens.bits10 (fun HT_ HW_ => ?_)
    generalize wr.drew = w31 at HO_0 BK392 HB hHeld ⊢
    refine pure_ (i := 0) (N := some 42) (v := ?_) (a' := ?_) (tf_ 1 8) rfl rfl (any_of HT_.out (by kernel_rfl)) (fun _ _ _ h => h) (Or.inl ⟨by rfl, ?_⟩) ?_ ?_
    rotate_left
    · intro w'
      go_simp
      with_reducible rfl
    rotate_left
    · simp only [Act.put, sA_, sB_, sC_, i64_w, i32_w]
      rfl
    refine take_ (i := 2) (N := some 44) (v := ?_) (a' := ?_) #[true, false, true, false, false, false, false, false] rfl rfl (take_ofW HT_.out HW_.out (by kernel_rfl)) (fun _ _ _ h => h) (Or.inl ⟨by rfl, ?_⟩) hHeld ?_ ?_
    rotate_left
    · rintro w' ⟨s0, s1, s2, s3, s4, s5⟩
      go_simp
      with_reducible rfl
    rotate_left
    · simp only [Act.put, sA_, sB_, sC_, i64_w, i32_w]
      rfl
    refine join_ (σ := Value × Value × Nat × Nat) 2 #[true, true, true, true, true, true, false, false] (fun s_ => [(43, .agg #[s_.1, s_.2.1]), (45, .agg #[.int .i64 t412, .int .i64 t413, .int .u8 t414, .int .i64 t415, .int .i64 t416, .float .f64 t417]), (8, .pointer (some ⟨s_.2.2.1, 0, none⟩)), (9, .pointer (some ⟨s_.2.2.2, 0, none⟩))]) (fun s_ w' => (w'.cell? ⟨gb392, 0, none⟩ = some (.int .u8 a1_0) ∧ w'.cell? ⟨gb392, 1, none⟩ = some (.int .u8 a1_1) ∧ w'.cell? ⟨gb392, 2, none⟩ = some (.int .u8 a1_2) ∧ w'.cell? ⟨gb392, 3, none⟩ = some (.int .u16 a1_3) ∧ w'.cell? ⟨gb392, 4, none⟩ = some (.int .u16 a1_4) ∧ w'.cell? ⟨gb392, 5, none⟩ = some (.float .f64 a1_5)) ∧ (Kd.R k62 62 w' w.heap.size (fun _ => True) s_.1 t406) ∧ (Kd.R (Kd.int .u8) 46 w' w.heap.size (fun _ => True) s_.2.1 t409) ∧ (Kd.R k45 45 w' w.heap.size (fun _ => True) (.slice Ao16 x0_1.length co16) x0_1) ∧ (w'.heap[gb392]? = some (.cells #[.int .u8 a1_0, .int .u8 a1_1, .int .u8 a1_2, .int .u16 a1_3, .int .u16 a1_4, .float .f64 a1_5] 26 (0, 0))) ∧ (w'.heap[s_.2.2.1]? = some (.cells #[.slice none 0 0, .slice none 0 0] 31 (0, 0))) ∧ (w'.heap[s_.2.2.2]? = some (.cells #[.int .i64 0, .int .i64 0, .int .u8 0, .int .i64 0, .int .i64 0, .float .f64 0] 35 (0, 0))) ∧ (w.heap.size ≤ s_.2.2.1) ∧ (w.heap.size ≤ s_.2.2.1) ∧ (gb392 ≠ s_.2.2.1) ∧ (s_.2.2.1 ≠ gb392) ∧ (s_.2.2.2 ≠ s_.2.2.1) ∧ (s_.2.2.1 ≠ s_.2.2.2) ∧ (w.heap.size ≤ s_.2.2.2) ∧ (w.heap.size ≤ s_.2.2.2) ∧ (gb392 ≠ s_.2.2.2) ∧ (s_.2.2.2 ≠ gb392) ∧ (Below w.heap.size w w')) ?_ ?_
    rotate_left
    · intro hJ1_3_4_5
      refine par4_ (fuel := 2) (l' := #[true, true, true, true, true, true, false, false]) (i1 := 1) (i3 := 3) (i4 := 4) (i5 := 5) (σ := Value × Value) (cs4 := #[.slice none 0 0, .slice none 0 0]) (t4 := 31) (cs5 := #[.int .i64 0, .int .i64 0, .int .u8 0, .int .i64 0, .int .i64 0, .float .f64 0]) (t5 := 35) (fun s_ => .agg #[s_.1, s_.2]) (.agg #[.int .i64 t412, .int .i64 t413, .int .u8 t414, .int .i64 t415, .int .i64 t416, .float .f64 t417]) (par4_of HT_.out (by kernel_rfl)) rfl rfl rfl rfl rfl rfl rfl rfl rfl rfl (by decide) rfl (fun w_ => (w_.cell? ⟨gb392, 0, none⟩ = some (.int .u8 a1_0) ∧ w_.cell? ⟨gb392, 1, none⟩ = some (.int .u8 a1_1) ∧ w_.cell? ⟨gb392, 2, none⟩ = some (.int .u8 a1_2) ∧ w_.cell? ⟨gb392, 3, none⟩ = some (.int .u16 a1_3) ∧ w_.cell? ⟨gb392, 4, none⟩ = some (.int .u16 a1_4) ∧ w_.cell? ⟨gb392, 5, none⟩ = some (.float .f64 a1_5)) ∧ (Kd.R k45 45 w_ w.heap.size (fun _ => True) (.slice Ao16 x0_1.length co16) x0_1) ∧ (w_.heap[gb392]? = some (.cells #[.int .u8 a1_0, .int .u8 a1_1, .int .u8 a1_2, .int .u16 a1_3, .int .u16 a1_4, .float .f64 a1_5] 26 (0, 0))) ∧ (Below w.heap.size w w_)) ?pgrow (fun _ hP_ => hP_.1) (fun s_ w_ => (Kd.R k62 62 w_ w.heap.size (fun _ => True) s_.1 t406) ∧ (Kd.R (Kd.int .u8) 46 w_ w.heap.size (fun _ => True) s_.2 t409)) ?pF (fun g_ => (w.heap.size ≤ g_) ∧ (gb392 ≠ g_) ∧ (g_ ≠ gb392)) ?pNew ?pc1 ?pc3 ?pc4 ?pc5 ?pPhi ?pcont
      case pgrow =>
        intro w0_ w1_ hP_ hb_; obtain ⟨hS_, k0_, k1_, k2_⟩ := hP_; have HO_0 := zC.mk (by first | exact Kd.zU k0_ hb_ | exact zK k0_ hb_ | exact below_step k0_ hb_); have BK392 := zC.mk (by first | exact Kd.zU k1_ hb_ | exact zK k1_ hb_ | exact below_step k1_ hb_); have HB := zC.mk (by first | exact Kd.zU k2_ hb_ | exact zK k2_ hb_ | exact below_step k2_ hb_)
        exact ⟨⟨(zH BK392.out 0).trans rfl, (zH BK392.out 1).trans rfl, (zH BK392.out 2).trans rfl, (zH BK392.out 3).trans rfl, (zH BK392.out 4).trans rfl, (zH BK392.out 5).trans rfl⟩, HO_0.out, BK392.out, HB.out⟩
      case pF => intro s_ w0_ w1_ hP_ hb_; obtain ⟨f0_, f1_⟩ := hP_; exact ⟨(by first | exact Kd.zU f0_ hb_ | exact zK f0_ hb_ | exact below_step f0_ hb_), (by first | exact Kd.zU f1_ hb_ | exact zK f1_ hb_ | exact below_step f1_ hb_)⟩
      case pNew => intro w0_ hP_; obtain ⟨hS_, k0_, k1_, k2_⟩ := hP_; (try have l0_ := blk_lt k0_); (try have m0_ := below_size k0_); (try have l1_ := blk_lt k1_); (try have m1_ := below_size k1_); (try have l2_ := blk_lt k2_); (try have m2_ := below_size k2_); refine ⟨?_, ?_, ?_⟩ <;> omega
      case pc1 =>
        intro a_ W_ K_ hev_ hP_ h_; obtain ⟨hS_, k0_, k1_, k2_⟩ := hP_; have HO_0 := zC.mk k0_; have BK392 := zC.mk k1_; have HB := zC.mk k2_
        refine goes_ Try.func11 (by kernel_rfl) rfl #[.slice Ao16 x0_1.length co16] (by rfl) rfl rfl (by simp only [List.map_toArray, List.map_cons, List.map_nil]; first | rfl | (simp (disch := decide) only [hev_]; rfl) | (rw [hev_ _ (by decide) (by decide) (by decide) (by decide)]; rfl)) ?_
        with_reducible refine (h3_Para.calls k1 _ _ x0_1 t406 t409 _ ?side1 ?side2 A24.out).mono ?_
        (case side1 => repeat (first | exact (Kd.zT HO_0.out).2.2 | (with_reducible refine Kd.zP ?_ _) | (with_reducible refine Kd.zQ ?_ _) | (with_reducible refine Kd.zR ?_)))
        (case side2 => exact (Kd.zT HO_0.out).2.1)
        rintro e w32 ⟨v407, v410, rfl, ho0, ho1, hb⟩
        refine ⟨_, rfl, ?_⟩
        exact h_ (v407, v410) _ hb ⟨(Kd.zX ho0 (below_size (by repeat (first | (with_reducible first | exact HB.out | apply zJ | apply zG | apply zI | refine zE ?_ GE392.out) | exact HB.out)))), (Kd.zX ho1 (below_size (by repeat (first | (with_reducible first | exact HB.out | apply zJ | apply zG | apply zI | refine zE ?_ GE392.out) | exact HB.out))))⟩
      case pc3 =>
        intro a_ W_ K_ hev_ hP_ h_; obtain ⟨hS_, k0_, k1_, k2_⟩ := hP_; have HO_0 := zC.mk k0_; have BK392 := zC.mk k1_; have HB := zC.mk k2_
        refine goes_ Try.func12 (by kernel_rfl) rfl #[.agg #[.int .u8 a1_0, .int .u8 a1_1, .int .u8 a1_2, .int .u16 a1_3, .int .u16 a1_4, .float .f64 a1_5]] (by rfl) rfl rfl (by simp only [List.map_toArray, List.map_cons, List.map_nil]; first | rfl | (simp (disch := decide) only [hev_]; rfl) | (rw [hev_ _ (by decide) (by decide) (by decide) (by decide)]; rfl)) ?_
        with_reducible refine (h3_Config.calls a1_0 a1_1 a1_2 a1_3 a1_4 a1_5 t412 t413 t414 t415 t416 t417 _ A25.out).mono ?_
        rintro e w34 ⟨rfl, hb⟩
        refine ⟨_, rfl, ?_⟩
        exact h_ _ hb
      case pc4 => intro a_ W_; first | (go_simp; done) | (go_simp; rfl)
      case pc5 => intro a_ W_; first | (go_simp; done) | (go_simp; rfl)
      case pPhi => exact ⟨hHeld, HO_0.out, BK392.out, HB.out⟩
      case pcont => intro s_ gb418 gb419 w36 hP_ hF_ y4_ y5_ x4_ x5_ he_; obtain ⟨hS_, k0_, k1_, k2_⟩ := hP_; obtain ⟨v407, v410⟩ := s_; obtain ⟨f0_, f1_⟩ := hF_; exact hJ1_3_4_5 (v407, v410, gb418, gb419) _ ⟨hS_, f0_, f1_, k0_, k1_, y4_, y5_, x4_.1, x4_.1, x4_.2.1, x4_.2.2, (Ne.symm he_), he_, x5_.1, x5_.1, x5_.2.1, x5_.2.2, k2_⟩
    rintro ⟨v407, v410, gb418, gb419⟩ w36 ⟨hS_, h0_, h1_, h2_, h3_, h4_, h5_, h6_, h7_, h8_, h9_, h10_, h11_, h12_, h13_, h14_, h15_, h16_⟩
    have n0_ : zC (Kd.R k62 62 w36 w.heap.size (fun _ => True) v407 t406) := ⟨h0_⟩
    have n1_ : zC (Kd.R (Kd.int .u8) 46 w36 w.heap.size (fun _ => True) v410 t409) := ⟨h1_⟩
    have n2_ : zC (Kd.R k45 45 w36 w.heap.size (fun _ => True) (.slice Ao16 x0_1.length co16) x0_1) := ⟨h2_⟩
    have n3_ : zC (w36.heap[gb392]? = some (.cells #[.int .u8 a1_0, .int .u8 a1_1, .int .u8 a1_2, .int .u16 a1_3, .int .u16 a1_4, .float .f64 a1_5] 26 (0, 0))) := ⟨h3_⟩
    have n4_ : zC (w36.heap[gb418]? = some (.cells #[.slice none 0 0, .slice none 0 0] 31 (0, 0))) := ⟨h4_⟩
    have n5_ : zC (w36.heap[gb419]? = some (.cells #[.int .i64 0, .int .i64 0, .int .u8 0, .int .i64 0, .int .i64 0, .float .f64 0] 35 (0, 0))) := ⟨h5_⟩
    have n6_ : zC (w.heap.size ≤ gb418) := ⟨h6_⟩
    have n7_ : zC (w.heap.size ≤ gb418) := ⟨h7_⟩
    have n8_ : zC (gb392 ≠ gb418) := ⟨h8_⟩
    have n9_ : zC (gb418 ≠ gb392) := ⟨h9_⟩
    have n10_ : zC (gb419 ≠ gb418) := ⟨h10_⟩
    have n11_ : zC (gb418 ≠ gb419) := ⟨h11_⟩
    have n12_ : zC (w.heap.size ≤ gb419) := ⟨h12_⟩
    have n13_ : zC (w.heap.size ≤ gb419) := ⟨h13_⟩
    have n14_ : zC (gb392 ≠ gb419) := ⟨h14_⟩
    have n15_ : zC (gb419 ≠ gb392) := ⟨h15_⟩
    have n16_ : zC (Below w.heap.size w w36) := ⟨h16_⟩
    clear HO_0 BK392 HB h0_ h1_ h2_ h3_ h4_ h5_ h6_ h7_ h8_ h9_ h10_ h11_ h12_ h13_ h14_ h15_ h16_; have HO408 := n0_; have HO411 := n1_; have HO_0 := n2_; have BK392 := n3_; have BK418 := n4_; have BK419 := n5_; have GW418 := n6_; have GE418 := n7_; have NB392_418 := n8_; have NB418_392 := n9_; have NB419_418 := n10_; have NB418_419 := n11_; have GW419 := n12_; have GE419 := n13_; have NB392_419 := n14_; have NB419_392 := n15_; have HB := n16_; clear n0_ n1_ n2_ n3_ n4_ n5_ n6_ n7_ n8_ n9_ n10_ n11_ n12_ n13_ n14_ n15_ n16_; have hHeld : w36.cell? ⟨gb392, 0, none⟩ = some (.int .u8 a1_0) ∧ w36.cell? ⟨gb392, 1, none⟩ = some (.int .u8 a1_1) ∧ w36.cell? ⟨gb392, 2, none⟩ = some (.int .u8 a1_2) ∧ w36.cell? ⟨gb392, 3, none⟩ = some (.int .u16 a1_3) ∧ w36.cell? ⟨gb392, 4, none⟩ = some (.int .u16 a1_4) ∧ w36.cell? ⟨gb392, 5, none⟩ = some (.float .f64 a1_5) := hS_
    obtain ⟨Ao37, co37, eo37⟩ := Kd.zW HO408.out; (first | subst eo37 | (injection eo37 with f1_ f2_ f3_; have f4_ := f1_.symm; have f5_ := f3_.symm; clear f1_ f2_ f3_; subst f4_; subst f5_))
    obtain ⟨Ao39, co39, eo39⟩ := Kd.zW HO411.out; (first | subst eo39 | (injection eo39 with f1_ f2_ f3_; have f4_ := f1_.symm; have f5_ := f3_.symm; clear f1_ f2_ f3_; subst f4_; subst f5_))
    refine norm_ (a' := ?_) ?_ ?_
    rotate_left
    · simp only [putAll, Act.put, sA_, sB_, sC_]
      rfl
    refine one_ (i := 6) (N := none) #[true, true, true, true, true, true, true, false] rfl rfl (one_of HT_.out (by kernel_rfl)) (by decide) (fun K hK => ?_)
    have hs38 : w36.cell? ⟨gb418, 0, none⟩ = some (.slice none 0 0) := (zH BK418.out 0).trans rfl
    have hfs38 := zF BK418.out 0; have hns38_0 := NB392_418.out; have hns38_2 := NB419_418.out; have hms38_0 := NB418_392.out; have hms38_2 := NB418_419.out; have hs40 : w36.cell? ⟨gb418, 1, none⟩ = some (.slice none 0 0) := (zH BK418.out 1).trans rfl
    have hfs40 := zF BK418.out 1; have hns40_0 := NB392_418.out; have hns40_2 := NB419_418.out; have hms40_0 := NB418_392.out; have hms40_2 := NB418_419.out; refine skip_ (w1 := ?_) (by rfl) rfl ?_ ?_
    rotate_left
    · go_simp
      rfl
    refine hK.out _ _ ⟨((cell_far (p := ⟨gb418, _, none⟩) NB392_418.out _).trans (((cell_far (p := ⟨gb418, _, none⟩) NB392_418.out _).trans (hHeld.1)))), ((cell_far (p := ⟨gb418, _, none⟩) NB392_418.out _).trans (((cell_far (p := ⟨gb418, _, none⟩) NB392_418.out _).trans (hHeld.2.1)))), ((cell_far (p := ⟨gb418, _, none⟩) NB392_418.out _).trans (((cell_far (p := ⟨gb418, _, none⟩) NB392_418.out _).trans (hHeld.2.2.1)))), ((cell_far (p := ⟨gb418, _, none⟩) NB392_418.out _).trans (((cell_far (p := ⟨gb418, _, none⟩) NB392_418.out _).trans (hHeld.2.2.2.1)))), ((cell_far (p := ⟨gb418, _, none⟩) NB392_418.out _).trans (((cell_far (p := ⟨gb418, _, none⟩) NB392_418.out _).trans (hHeld.2.2.2.2.1)))), ((cell_far (p := ⟨gb418, _, none⟩) NB392_418.out _).trans (((cell_far (p := ⟨gb418, _, none⟩) NB392_418.out _).trans (hHeld.2.2.2.2.2))))⟩ (fun hHeld => ?_)
    clear hK K; refine one_ (i := 7) (N := none) #[true, true, true, true, true, true, true, true] rfl rfl (one_of HT_.out (by kernel_rfl)) (by decide) (fun K hK => ?_)
    have hs41 : w36.cell? ⟨gb419, 0, none⟩ = some (.int .i64 0) := (zH BK419.out 0).trans rfl
    have hfs41 := zF BK419.out 0; have hns41_0 := NB392_419.out; have hns41_1 := NB418_419.out; have hms41_0 := NB419_392.out; have hms41_1 := NB419_418.out; have hs42 : w36.cell? ⟨gb419, 1, none⟩ = some (.int .i64 0) := (zH BK419.out 1).trans rfl
    have hfs42 := zF BK419.out 1; have hns42_0 := NB392_419.out; have hns42_1 := NB418_419.out; have hms42_0 := NB419_392.out; have hms42_1 := NB419_418.out; have hs43 : w36.cell? ⟨gb419, 2, none⟩ = some (.int .u8 0) := (zH BK419.out 2).trans rfl
    have hfs43 := zF BK419.out 2; have hns43_0 := NB392_419.out; have hns43_1 := NB418_419.out; have hms43_0 := NB419_392.out; have hms43_1 := NB419_418.out; have hs44 : w36.cell? ⟨gb419, 3, none⟩ = some (.int .i64 0) := (zH BK419.out 3).trans rfl
    have hfs44 := zF BK419.out 3; have hns44_0 := NB392_419.out; have hns44_1 := NB418_419.out; have hms44_0 := NB419_392.out; have hms44_1 := NB419_418.out; have hs45 : w36.cell? ⟨gb419, 4, none⟩ = some (.int .i64 0) := (zH BK419.out 4).trans rfl
    have hfs45 := zF BK419.out 4; have hns45_0 := NB392_419.out; have hns45_1 := NB418_419.out; have hms45_0 := NB419_392.out; have hms45_1 := NB419_418.out; have hs46 : w36.cell? ⟨gb419, 5, none⟩ = some (.float .f64 0) := (zH BK419.out 5).trans rfl
    have hfs46 := zF BK419.out 5; have hns46_0 := NB392_419.out; have hns46_1 := NB418_419.out; have hms46_0 := NB419_392.out; have hms46_1 := NB419_418.out; refine skip_ (w1 := ?_) (by rfl) rfl ?_ ?_
    rotate_left
    · go_simp
      rfl
    refine hK.out _ _ ⟨((cell_far (p := ⟨gb419, _, none⟩) NB392_419.out _).trans (((cell_far (p := ⟨gb419, _, none⟩) NB392_419.out _).trans (((cell_far (p := ⟨gb419, _, none⟩) NB392_419.out _).trans (((cell_far (p := ⟨gb419, _, none⟩) NB392_419.out _).trans (((cell_far (p := ⟨gb419, _, none⟩) NB392_419.out _).trans (((cell_far (p := ⟨gb419, _, none⟩) NB392_419.out _).trans (hHeld.1)))))))))))), ((cell_far (p := ⟨gb419, _, none⟩) NB392_419.out _).trans (((cell_far (p := ⟨gb419, _, none⟩) NB392_419.out _).trans (((cell_far (p := ⟨gb419, _, none⟩) NB392_419.out _).trans (((cell_far (p := ⟨gb419, _, none⟩) NB392_419.out _).trans (((cell_far (p := ⟨gb419, _, none⟩) NB392_419.out _).trans (((cell_far (p := ⟨gb419, _, none⟩) NB392_419.out _).trans (hHeld.2.1)))))))))))), ((cell_far (p := ⟨gb419, _, none⟩) NB392_419.out _).trans (((cell_far (p := ⟨gb419, _, none⟩) NB392_419.out _).trans (((cell_far (p := ⟨gb419, _, none⟩) NB392_419.out _).trans (((cell_far (p := ⟨gb419, _, none⟩) NB392_419.out _).trans (((cell_far (p := ⟨gb419, _, none⟩) NB392_419.out _).trans (((cell_far (p := ⟨gb419, _, none⟩) NB392_419.out _).trans (hHeld.2.2.1)))))))))))), ((cell_far (p := ⟨gb419, _, none⟩) NB392_419.out _).trans (((cell_far (p := ⟨gb419, _, none⟩) NB392_419.out _).trans (((cell_far (p := ⟨gb419, _, none⟩) NB392_419.out _).trans (((cell_far (p := ⟨gb419, _, none⟩) NB392_419.out _).trans (((cell_far (p := ⟨gb419, _, none⟩) NB392_419.out _).trans (((cell_far (p := ⟨gb419, _, none⟩) NB392_419.out _).trans (hHeld.2.2.2.1)))))))))))), ((cell_far (p := ⟨gb419, _, none⟩) NB392_419.out _).trans (((cell_far (p := ⟨gb419, _, none⟩) NB392_419.out _).trans (((cell_far (p := ⟨gb419, _, none⟩) NB392_419.out _).trans (((cell_far (p := ⟨gb419, _, none⟩) NB392_419.out _).trans (((cell_far (p := ⟨gb419, _, none⟩) NB392_419.out _).trans (((cell_far (p := ⟨gb419, _, none⟩) NB392_419.out _).trans (hHeld.2.2.2.2.1)))))))))))), ((cell_far (p := ⟨gb419, _, none⟩) NB392_419.out _).trans (((cell_far (p := ⟨gb419, _, none⟩) NB392_419.out _).trans (((cell_far (p := ⟨gb419, _, none⟩) NB392_419.out _).trans (((cell_far (p := ⟨gb419, _, none⟩) NB392_419.out _).trans (((cell_far (p := ⟨gb419, _, none⟩) NB392_419.out _).trans (((cell_far (p := ⟨gb419, _, none⟩) NB392_419.out _).trans (hHeld.2.2.2.2.2))))))))))))⟩ (fun hHeld => ?_)
    clear hK K; refine done_ (done_of HT_.out (by kernel_rfl)) ?_
    have hnb47 := NB419_392.out; have hnc47 := NB392_419.out; have hnb48 := NB419_418.out; have hnc48 := NB418_419.out; have hcz49_0 : w36.cell? ⟨gb419, 0, none⟩ = some (.int .i64 0) := (zH BK419.out 0).trans rfl
    have hcz49_1 : w36.cell? ⟨gb419, 1, none⟩ = some (.int .i64 0) := (zH BK419.out 1).trans rfl
    have hcz49_2 : w36.cell? ⟨gb419, 2, none⟩ = some (.int .u8 0) := (zH BK419.out 2).trans rfl
    have hcz49_3 : w36.cell? ⟨gb419, 3, none⟩ = some (.int .i64 0) := (zH BK419.out 3).trans rfl
    have hcz49_4 : w36.cell? ⟨gb419, 4, none⟩ = some (.int .i64 0) := (zH BK419.out 4).trans rfl
    have hcz49_5 : w36.cell? ⟨gb419, 5, none⟩ = some (.float .f64 0) := (zH BK419.out 5).trans rfl
    have hfz49_0 := zF BK419.out 0; have hfz49_1 := zF BK419.out 1; have hfz49_2 := zF BK419.out 2; have hfz49_3 := zF BK419.out 3; have hfz49_4 := zF BK419.out 4; have hfz49_5 := zF BK419.out 5; try go_wp2_with (first | ((with_reducible refine gate_store (t := 3) (p := 46) rfl ?_); refine store_event (t := 3) (p := 46) (v := ?vo_w50) (w1 := (((((((((w36.setCell ⟨gb418, 0, none⟩ (.slice Ao37 t406.length co37)).setCell ⟨gb418, 1, none⟩ (.slice Ao39 t409.length co39)).setCell ⟨gb419, 0, none⟩ (.int .i64 t412)).setCell ⟨gb419, 1, none⟩ (.int .i64 t413)).setCell ⟨gb419, 2, none⟩ (.int .u8 t414)).setCell ⟨gb419, 3, none⟩ (.int .i64 t415)).setCell ⟨gb419, 4, none⟩ (.int .i64 t416)).setCell ⟨gb419, 5, none⟩ (.float .f64 t417)).setCell ⟨gb419, 4, none⟩ (.int .i64 0))) ?hg ?ho ?hn ?hr ?_; (case ho => rfl); (case hg => rfl); (case hn => rfl); (case hr => first | (go_simp; done) | (go_simp; rfl)); intro w50 hw; have n0_ : zC (Kd.R k45 45 w50 w.heap.size (fun _ => True) (.slice Ao16 x0_1.length co16) x0_1) := ⟨(by rw [hw]; exact (by (with_reducible repeat (first | apply Kd.zM | apply Kd.zN | apply Kd.zO)); exact Kd.zY (Kd.zV (p := ⟨gb419, 4, none⟩) (Kd.zV (p := ⟨gb419, 5, none⟩) (Kd.zV (p := ⟨gb419, 4, none⟩) (Kd.zV (p := ⟨gb419, 3, none⟩) (Kd.zV (p := ⟨gb419, 2, none⟩) (Kd.zV (p := ⟨gb419, 1, none⟩) (Kd.zV (p := ⟨gb419, 0, none⟩) (Kd.zV (p := ⟨gb418, 1, none⟩) (Kd.zV (p := ⟨gb418, 0, none⟩) (Kd.zZ (Kd.zZ HO_0.out BK418.out (by decide)) BK419.out (by decide)) (fun _ hk => hk.1.2) (.slice Ao37 t406.length co37)) (fun _ hk => hk.1.2) (.slice Ao39 t409.length co39)) (fun _ hk => hk.2) (.int .i64 t412)) (fun _ hk => hk.2) (.int .i64 t413)) (fun _ hk => hk.2) (.int .u8 t414)) (fun _ hk => hk.2) (.int .i64 t415)) (fun _ hk => hk.2) (.int .i64 t416)) (fun _ hk => hk.2) (.float .f64 t417)) (fun _ hk => hk.2) (.int .i64 0)) (fun _ hk => trivial)))⟩; have n1_ : zC (Kd.R k62 62 w50 w.heap.size (fun _ => True) (.slice Ao37 t406.length co37) t406) := ⟨(by rw [hw]; exact (by (with_reducible repeat (first | apply Kd.zM | apply Kd.zN | apply Kd.zO)); exact Kd.zY (Kd.zV (p := ⟨gb419, 4, none⟩) (Kd.zV (p := ⟨gb419, 5, none⟩) (Kd.zV (p := ⟨gb419, 4, none⟩) (Kd.zV (p := ⟨gb419, 3, none⟩) (Kd.zV (p := ⟨gb419, 2, none⟩) (Kd.zV (p := ⟨gb419, 1, none⟩) (Kd.zV (p := ⟨gb419, 0, none⟩) (Kd.zV (p := ⟨gb418, 1, none⟩) (Kd.zV (p := ⟨gb418, 0, none⟩) (Kd.zZ (Kd.zZ HO408.out BK418.out (by decide)) BK419.out (by decide)) (fun _ hk => hk.1.2) (.slice Ao37 t406.length co37)) (fun _ hk => hk.1.2) (.slice Ao39 t409.length co39)) (fun _ hk => hk.2) (.int .i64 t412)) (fun _ hk => hk.2) (.int .i64 t413)) (fun _ hk => hk.2) (.int .u8 t414)) (fun _ hk => hk.2) (.int .i64 t415)) (fun _ hk => hk.2) (.int .i64 t416)) (fun _ hk => hk.2) (.float .f64 t417)) (fun _ hk => hk.2) (.int .i64 0)) (fun _ hk => trivial)))⟩; have n2_ : zC (Kd.R (Kd.int .u8) 46 w50 w.heap.size (fun _ => True) (.slice Ao39 t409.length co39) t409) := ⟨(by rw [hw]; exact (by (with_reducible repeat (first | apply Kd.zM | apply Kd.zN | apply Kd.zO)); exact Kd.zY (Kd.zV (p := ⟨gb419, 4, none⟩) (Kd.zV (p := ⟨gb419, 5, none⟩) (Kd.zV (p := ⟨gb419, 4, none⟩) (Kd.zV (p := ⟨gb419, 3, none⟩) (Kd.zV (p := ⟨gb419, 2, none⟩) (Kd.zV (p := ⟨gb419, 1, none⟩) (Kd.zV (p := ⟨gb419, 0, none⟩) (Kd.zV (p := ⟨gb418, 1, none⟩) (Kd.zV (p := ⟨gb418, 0, none⟩) (Kd.zZ (Kd.zZ HO411.out BK418.out (by decide)) BK419.out (by decide)) (fun _ hk => hk.1.2) (.slice Ao37 t406.length co37)) (fun _ hk => hk.1.2) (.slice Ao39 t409.length co39)) (fun _ hk => hk.2) (.int .i64 t412)) (fun _ hk => hk.2) (.int .i64 t413)) (fun _ hk => hk.2) (.int .u8 t414)) (fun _ hk => hk.2) (.int .i64 t415)) (fun _ hk => hk.2) (.int .i64 t416)) (fun _ hk => hk.2) (.float .f64 t417)) (fun _ hk => hk.2) (.int .i64 0)) (fun _ hk => trivial)))⟩; have n3_ : zC (w50.heap[gb392]? = some (.cells #[.int .u8 a1_0, .int .u8 a1_1, .int .u8 a1_2, .int .u16 a1_3, .int .u16 a1_4, .float .f64 a1_5] 26 (0, 0))) := ⟨(by rw [hw]; exact (by (with_reducible repeat (first | refine zB ?_ _ | refine zD ?_ | refine zA ?_ _)); refine zL ?_ NB392_419.out _; (with_reducible repeat (first | refine zB ?_ _ | refine zD ?_ | refine zA ?_ _)); refine zL ?_ NB392_419.out _; (with_reducible repeat (first | refine zB ?_ _ | refine zD ?_ | refine zA ?_ _)); refine zL ?_ NB392_419.out _; (with_reducible repeat (first | refine zB ?_ _ | refine zD ?_ | refine zA ?_ _)); refine zL ?_ NB392_419.out _; (with_reducible repeat (first | refine zB ?_ _ | refine zD ?_ | refine zA ?_ _)); refine zL ?_ NB392_419.out _; (with_reducible repeat (first | refine zB ?_ _ | refine zD ?_ | refine zA ?_ _)); refine zL ?_ NB392_419.out _; (with_reducible repeat (first | refine zB ?_ _ | refine zD ?_ | refine zA ?_ _)); refine zL ?_ NB392_419.out _; (with_reducible repeat (first | refine zB ?_ _ | refine zD ?_ | refine zA ?_ _)); refine zL ?_ NB392_418.out _; (with_reducible repeat (first | refine zB ?_ _ | refine zD ?_ | refine zA ?_ _)); refine zL ?_ NB392_418.out _; (with_reducible repeat (first | refine zB ?_ _ | refine zD ?_ | refine zA ?_ _)); exact BK392.out))⟩; have n4_ : zC (w50.heap[gb418]? = some (.cells #[.slice Ao37 t406.length co37, .slice Ao39 t409.length co39] 31 (0, 0))) := ⟨(by rw [hw]; exact (by (with_reducible repeat (first | refine zB ?_ _ | refine zD ?_ | refine zA ?_ _)); refine zL ?_ NB418_419.out _; (with_reducible repeat (first | refine zB ?_ _ | refine zD ?_ | refine zA ?_ _)); refine zL ?_ NB418_419.out _; (with_reducible repeat (first | refine zB ?_ _ | refine zD ?_ | refine zA ?_ _)); refine zL ?_ NB418_419.out _; (with_reducible repeat (first | refine zB ?_ _ | refine zD ?_ | refine zA ?_ _)); refine zL ?_ NB418_419.out _; (with_reducible repeat (first | refine zB ?_ _ | refine zD ?_ | refine zA ?_ _)); refine zL ?_ NB418_419.out _; (with_reducible repeat (first | refine zB ?_ _ | refine zD ?_ | refine zA ?_ _)); refine zL ?_ NB418_419.out _; (with_reducible repeat (first | refine zB ?_ _ | refine zD ?_ | refine zA ?_ _)); refine zL ?_ NB418_419.out _; (with_reducible repeat (first | refine zB ?_ _ | refine zD ?_ | refine zA ?_ _)); refine blk_put (cs := #[.slice Ao37 t406.length co37, .slice none 0 0]) ?_ 1 _ rfl; (with_reducible repeat (first | refine zB ?_ _ | refine zD ?_ | refine zA ?_ _)); refine blk_put (cs := #[.slice none 0 0, .slice none 0 0]) ?_ 0 _ rfl; (with_reducible repeat (first | refine zB ?_ _ | refine zD ?_ | refine zA ?_ _)); exact BK418.out))⟩; have n5_ : zC (w50.heap[gb419]? = some (.cells #[.int .i64 t412, .int .i64 t413, .int .u8 t414, .int .i64 t415, .int .i64 0, .float .f64 t417] 35 (0, 0))) := ⟨(by rw [hw]; exact (by (with_reducible repeat (first | refine zB ?_ _ | refine zD ?_ | refine zA ?_ _)); refine blk_put (cs := #[.int .i64 t412, .int .i64 t413, .int .u8 t414, .int .i64 t415, .int .i64 t416, .float .f64 t417]) ?_ 4 _ rfl; (with_reducible repeat (first | refine zB ?_ _ | refine zD ?_ | refine zA ?_ _)); refine blk_put (cs := #[.int .i64 t412, .int .i64 t413, .int .u8 t414, .int .i64 t415, .int .i64 t416, .float .f64 0]) ?_ 5 _ rfl; (with_reducible repeat (first | refine zB ?_ _ | refine zD ?_ | refine zA ?_ _)); refine blk_put (cs := #[.int .i64 t412, .int .i64 t413, .int .u8 t414, .int .i64 t415, .int .i64 0, .float .f64 0]) ?_ 4 _ rfl; (with_reducible repeat (first | refine zB ?_ _ | refine zD ?_ | refine zA ?_ _)); refine blk_put (cs := #[.int .i64 t412, .int .i64 t413, .int .u8 t414, .int .i64 0, .int .i64 0, .float .f64 0]) ?_ 3 _ rfl; (with_reducible repeat (first | refine zB ?_ _ | refine zD ?_ | refine zA ?_ _)); refine blk_put (cs := #[.int .i64 t412, .int .i64 t413, .int .u8 0, .int .i64 0, .int .i64 0, .float .f64 0]) ?_ 2 _ rfl; (with_reducible repeat (first | refine zB ?_ _ | refine zD ?_ | refine zA ?_ _)); refine blk_put (cs := #[.int .i64 t412, .int .i64 0, .int .u8 0, .int .i64 0, .int .i64 0, .float .f64 0]) ?_ 1 _ rfl; (with_reducible repeat (first | refine zB ?_ _ | refine zD ?_ | refine zA ?_ _)); refine blk_put (cs := #[.int .i64 0, .int .i64 0, .int .u8 0, .int .i64 0, .int .i64 0, .float .f64 0]) ?_ 0 _ rfl; (with_reducible repeat (first | refine zB ?_ _ | refine zD ?_ | refine zA ?_ _)); refine zL ?_ NB419_418.out _; (with_reducible repeat (first | refine zB ?_ _ | refine zD ?_ | refine zA ?_ _)); refine zL ?_ NB419_418.out _; (with_reducible repeat (first | refine zB ?_ _ | refine zD ?_ | refine zA ?_ _)); exact BK419.out))⟩; have n6_ : zC (Below w.heap.size w w50) := ⟨(by rw [hw]; exact (by repeat (first | (with_reducible first | exact HB.out | apply zJ | apply zG | apply zI | refine zE ?_ GE392.out | refine zE ?_ GE418.out | refine zE ?_ GE419.out) | exact HB.out)))⟩; clear hw; clear HO_0; clear HO408; clear HO411; clear BK392; clear BK418; clear BK419; clear HB; have HO_0 := n0_; have HO408 := n1_; have HO411 := n2_; have BK392 := n3_; have BK418 := n4_; have BK419 := n5_; have HB := n6_; clear n0_ n1_ n2_ n3_ n4_ n5_ n6_; have hcz51_0 : w50.cell? ⟨gb419, 0, none⟩ = some (.int .i64 t412) := (zH BK419.out 0).trans rfl; have hcz51_1 : w50.cell? ⟨gb419, 1, none⟩ = some (.int .i64 t413) := (zH BK419.out 1).trans rfl; have hcz51_2 : w50.cell? ⟨gb419, 2, none⟩ = some (.int .u8 t414) := (zH BK419.out 2).trans rfl; have hcz51_3 : w50.cell? ⟨gb419, 3, none⟩ = some (.int .i64 t415) := (zH BK419.out 3).trans rfl; have hcz51_4 : w50.cell? ⟨gb419, 4, none⟩ = some (.int .i64 0) := (zH BK419.out 4).trans rfl; have hcz51_5 : w50.cell? ⟨gb419, 5, none⟩ = some (.float .f64 t417) := (zH BK419.out 5).trans rfl; have hfz51_0 := zF BK419.out 0; have hfz51_1 := zF BK419.out 1; have hfz51_2 := zF BK419.out 2; have hfz51_3 := zF BK419.out 3; have hfz51_4 := zF BK419.out 4; have hfz51_5 := zF BK419.out 5) | ((with_reducible refine gate_dst (N := 10) rfl ?_); refine box_event ?hg (N := 10) ?hd (cs := #[.int .i64 0, .int .i64 0, .int .u8 0, .int .i64 0, .int .i64 0, .float .f64 0]) (t := 35) ?hr ?_; (case hd => rfl); (case hg => rfl); (case hr => first | (go_simp; done) | (go_simp; rfl)); intro gb420 hg w52 hbox hb; have n0_ := zC.mk (Kd.zU (by (with_reducible repeat (first | apply Kd.zM | apply Kd.zN | apply Kd.zO)); exact HO_0.out) hb); have n1_ := zC.mk (Kd.zU (by (with_reducible repeat (first | apply Kd.zM | apply Kd.zN | apply Kd.zO)); exact HO408.out) hb); have n2_ := zC.mk (Kd.zU (by (with_reducible repeat (first | apply Kd.zM | apply Kd.zN | apply Kd.zO)); exact HO411.out) hb); have n3_ := zC.mk (zK (g := gb392) (o := .cells #[.int .u8 a1_0, .int .u8 a1_1, .int .u8 a1_2, .int .u16 a1_3, .int .u16 a1_4, .float .f64 a1_5] 26 (0, 0)) (by (with_reducible repeat (first | refine zB ?_ _ | refine zD ?_ | refine zA ?_ _)); exact BK392.out) hb); have n4_ := zC.mk (zK (g := gb418) (o := .cells #[.slice Ao37 t406.length co37, .slice Ao39 t409.length co39] 31 (0, 0)) (by (with_reducible repeat (first | refine zB ?_ _ | refine zD ?_ | refine zA ?_ _)); exact BK418.out) hb); have n5_ := zC.mk (zK (g := gb419) (o := .cells #[.int .i64 t412, .int .i64 t413, .int .u8 t414, .int .i64 t415, .int .i64 0, .float .f64 t417] 35 (0, 0)) (by (with_reducible repeat (first | refine zB ?_ _ | refine zD ?_ | refine zA ?_ _)); exact BK419.out) hb); have n6_ := zC.mk (below_step (by repeat (first | (with_reducible first | exact HB.out | apply zJ | apply zG | apply zI | refine zE ?_ GE392.out | refine zE ?_ GE418.out | refine zE ?_ GE419.out) | exact HB.out)) hb); have n7_ := zC.mk (hbox); have n8_ := zC.mk ((by rw [hg]; exact (below_size (by repeat (first | (with_reducible first | exact HB.out | apply zJ | apply zG | apply zI | refine zE ?_ GE392.out | refine zE ?_ GE418.out | refine zE ?_ GE419.out) | exact HB.out))) : w.heap.size ≤ gb420)); have n9_ := zC.mk ((by rw [hg]; exact (below_size (by repeat (first | (with_reducible first | exact HB.out | apply zJ | apply zG | apply zI | refine zE ?_ GE392.out | refine zE ?_ GE418.out | refine zE ?_ GE419.out) | exact HB.out))) : w.heap.size ≤ gb420)); have n10_ := zC.mk ((by rw [hg]; exact Nat.ne_of_lt (blk_lt (g := gb392) (o := .cells #[.int .u8 a1_0, .int .u8 a1_1, .int .u8 a1_2, .int .u16 a1_3, .int .u16 a1_4, .float .f64 a1_5] 26 (0, 0)) (by (with_reducible repeat (first | refine zB ?_ _ | refine zD ?_ | refine zA ?_ _)); exact BK392.out)) : gb392 ≠ gb420)); have n11_ := zC.mk ((by rw [hg]; exact Nat.ne_of_gt (blk_lt (g := gb392) (o := .cells #[.int .u8 a1_0, .int .u8 a1_1, .int .u8 a1_2, .int .u16 a1_3, .int .u16 a1_4, .float .f64 a1_5] 26 (0, 0)) (by (with_reducible repeat (first | refine zB ?_ _ | refine zD ?_ | refine zA ?_ _)); exact BK392.out)) : gb420 ≠ gb392)); have n12_ := zC.mk ((by rw [hg]; exact Nat.ne_of_lt (blk_lt (g := gb418) (o := .cells #[.slice Ao37 t406.length co37, .slice Ao39 t409.length co39] 31 (0, 0)) (by (with_reducible repeat (first | refine zB ?_ _ | refine zD ?_ | refine zA ?_ _)); exact BK418.out)) : gb418 ≠ gb420)); have n13_ := zC.mk ((by rw [hg]; exact Nat.ne_of_gt (blk_lt (g := gb418) (o := .cells #[.slice Ao37 t406.length co37, .slice Ao39 t409.length co39] 31 (0, 0)) (by (with_reducible repeat (first | refine zB ?_ _ | refine zD ?_ | refine zA ?_ _)); exact BK418.out)) : gb420 ≠ gb418)); have n14_ := zC.mk ((by rw [hg]; exact Nat.ne_of_lt (blk_lt (g := gb419) (o := .cells #[.int .i64 t412, .int .i64 t413, .int .u8 t414, .int .i64 t415, .int .i64 0, .float .f64 t417] 35 (0, 0)) (by (with_reducible repeat (first | refine zB ?_ _ | refine zD ?_ | refine zA ?_ _)); exact BK419.out)) : gb419 ≠ gb420)); have n15_ := zC.mk ((by rw [hg]; exact Nat.ne_of_gt (blk_lt (g := gb419) (o := .cells #[.int .i64 t412, .int .i64 t413, .int .u8 t414, .int .i64 t415, .int .i64 0, .float .f64 t417] 35 (0, 0)) (by (with_reducible repeat (first | refine zB ?_ _ | refine zD ?_ | refine zA ?_ _)); exact BK419.out)) : gb420 ≠ gb419)); clear HO_0; clear HO408; clear HO411; clear BK392; clear BK418; clear BK419; clear HB; have HO_0 := n0_; have HO408 := n1_; have HO411 := n2_; have BK392 := n3_; have BK418 := n4_; have BK419 := n5_; have HB := n6_; have BK420 := n7_; have GW420 := n8_; have GE420 := n9_; have NB392_420 := n10_; have NB420_392 := n11_; have NB418_420 := n12_; have NB420_418 := n13_; have NB419_420 := n14_; have NB420_419 := n15_; clear n0_ n1_ n2_ n3_ n4_ n5_ n6_ n7_ n8_ n9_ n10_ n11_ n12_ n13_ n14_ n15_; clear hb hbox hg; have hnb53 := NB420_392.out; have hnc53 := NB392_420.out; have hnb54 := NB420_418.out; have hnc54 := NB418_420.out; have hnb55 := NB420_419.out; have hnc55 := NB419_420.out; have hcz56_0 : w52.cell? ⟨gb420, 0, none⟩ = some (.int .i64 0) := (zH BK420.out 0).trans rfl; have hcz56_1 : w52.cell? ⟨gb420, 1, none⟩ = some (.int .i64 0) := (zH BK420.out 1).trans rfl; have hcz56_2 : w52.cell? ⟨gb420, 2, none⟩ = some (.int .u8 0) := (zH BK420.out 2).trans rfl; have hcz56_3 : w52.cell? ⟨gb420, 3, none⟩ = some (.int .i64 0) := (zH BK420.out 3).trans rfl; have hcz56_4 : w52.cell? ⟨gb420, 4, none⟩ = some (.int .i64 0) := (zH BK420.out 4).trans rfl; have hcz56_5 : w52.cell? ⟨gb420, 5, none⟩ = some (.float .f64 0) := (zH BK420.out 5).trans rfl; have hfz56_0 := zF BK420.out 0; have hfz56_1 := zF BK420.out 1; have hfz56_2 := zF BK420.out 2; have hfz56_3 := zF BK420.out 3; have hfz56_4 := zF BK420.out 4; have hfz56_5 := zF BK420.out 5) | ((with_reducible refine gate_store (t := 35) (p := 10) rfl ?_); refine store_event (t := 35) (p := 10) (v := ?vo_w57) (w1 := ((((((w52.setCell ⟨gb420, 0, none⟩ (.int .i64 t412)).setCell ⟨gb420, 1, none⟩ (.int .i64 t413)).setCell ⟨gb420, 2, none⟩ (.int .u8 t414)).setCell ⟨gb420, 3, none⟩ (.int .i64 t415)).setCell ⟨gb420, 4, none⟩ (.int .i64 0)).setCell ⟨gb420, 5, none⟩ (.float .f64 t417))) ?hg ?ho ?hn ?hr ?_; (case ho => rfl); (case hg => rfl); (case hn => rfl); (case hr => first | (go_simp; done) | (go_simp; rfl)); intro w57 hw; have n0_ : zC (Kd.R k45 45 w57 w.heap.size (fun _ => True) (.slice Ao16 x0_1.length co16) x0_1) := ⟨(by rw [hw]; exact (by (with_reducible repeat (first | apply Kd.zM | apply Kd.zN | apply Kd.zO)); exact Kd.zY (Kd.zV (p := ⟨gb420, 5, none⟩) (Kd.zV (p := ⟨gb420, 4, none⟩) (Kd.zV (p := ⟨gb420, 3, none⟩) (Kd.zV (p := ⟨gb420, 2, none⟩) (Kd.zV (p := ⟨gb420, 1, none⟩) (Kd.zV (p := ⟨gb420, 0, none⟩) (Kd.zZ HO_0.out BK420.out (by decide)) (fun _ hk => hk.2) (.int .i64 t412)) (fun _ hk => hk.2) (.int .i64 t413)) (fun _ hk => hk.2) (.int .u8 t414)) (fun _ hk => hk.2) (.int .i64 t415)) (fun _ hk => hk.2) (.int .i64 0)) (fun _ hk => hk.2) (.float .f64 t417)) (fun _ hk => trivial)))⟩; have n1_ : zC (Kd.R k62 62 w57 w.heap.size (fun _ => True) (.slice Ao37 t406.length co37) t406) := ⟨(by rw [hw]; exact (by (with_reducible repeat (first | apply Kd.zM | apply Kd.zN | apply Kd.zO)); exact Kd.zY (Kd.zV (p := ⟨gb420, 5, none⟩) (Kd.zV (p := ⟨gb420, 4, none⟩) (Kd.zV (p := ⟨gb420, 3, none⟩) (Kd.zV (p := ⟨gb420, 2, none⟩) (Kd.zV (p := ⟨gb420, 1, none⟩) (Kd.zV (p := ⟨gb420, 0, none⟩) (Kd.zZ HO408.out BK420.out (by decide)) (fun _ hk => hk.2) (.int .i64 t412)) (fun _ hk => hk.2) (.int .i64 t413)) (fun _ hk => hk.2) (.int .u8 t414)) (fun _ hk => hk.2) (.int .i64 t415)) (fun _ hk => hk.2) (.int .i64 0)) (fun _ hk => hk.2) (.float .f64 t417)) (fun _ hk => trivial)))⟩; have n2_ : zC (Kd.R (Kd.int .u8) 46 w57 w.heap.size (fun _ => True) (.slice Ao39 t409.length co39) t409) := ⟨(by rw [hw]; exact (by (with_reducible repeat (first | apply Kd.zM | apply Kd.zN | apply Kd.zO)); exact Kd.zY (Kd.zV (p := ⟨gb420, 5, none⟩) (Kd.zV (p := ⟨gb420, 4, none⟩) (Kd.zV (p := ⟨gb420, 3, none⟩) (Kd.zV (p := ⟨gb420, 2, none⟩) (Kd.zV (p := ⟨gb420, 1, none⟩) (Kd.zV (p := ⟨gb420, 0, none⟩) (Kd.zZ HO411.out BK420.out (by decide)) (fun _ hk => hk.2) (.int .i64 t412)) (fun _ hk => hk.2) (.int .i64 t413)) (fun _ hk => hk.2) (.int .u8 t414)) (fun _ hk => hk.2) (.int .i64 t415)) (fun _ hk => hk.2) (.int .i64 0)) (fun _ hk => hk.2) (.float .f64 t417)) (fun _ hk => trivial)))⟩; have n3_ : zC (w57.heap[gb392]? = some (.cells #[.int .u8 a1_0, .int .u8 a1_1, .int .u8 a1_2, .int .u16 a1_3, .int .u16 a1_4, .float .f64 a1_5] 26 (0, 0))) := ⟨(by rw [hw]; exact (by (with_reducible repeat (first | refine zB ?_ _ | refine zD ?_ | refine zA ?_ _)); refine zL ?_ NB392_420.out _; (with_reducible repeat (first | refine zB ?_ _ | refine zD ?_ | refine zA ?_ _)); refine zL ?_ NB392_420.out _; (with_reducible repeat (first | refine zB ?_ _ | refine zD ?_ | refine zA ?_ _)); refine zL ?_ NB392_420.out _; (with_reducible repeat (first | refine zB ?_ _ | refine zD ?_ | refine zA ?_ _)); refine zL ?_ NB392_420.out _; (with_reducible repeat (first | refine zB ?_ _ | refine zD ?_ | refine zA ?_ _)); refine zL ?_ NB392_420.out _; (with_reducible repeat (first | refine zB ?_ _ | refine zD ?_ | refine zA ?_ _)); refine zL ?_ NB392_420.out _; (with_reducible repeat (first | refine zB ?_ _ | refine zD ?_ | refine zA ?_ _)); exact BK392.out))⟩; have n4_ : zC (w57.heap[gb418]? = some (.cells #[.slice Ao37 t406.length co37, .slice Ao39 t409.length co39] 31 (0, 0))) := ⟨(by rw [hw]; exact (by (with_reducible repeat (first | refine zB ?_ _ | refine zD ?_ | refine zA ?_ _)); refine zL ?_ NB418_420.out _; (with_reducible repeat (first | refine zB ?_ _ | refine zD ?_ | refine zA ?_ _)); refine zL ?_ NB418_420.out _; (with_reducible repeat (first | refine zB ?_ _ | refine zD ?_ | refine zA ?_ _)); refine zL ?_ NB418_420.out _; (with_reducible repeat (first | refine zB ?_ _ | refine zD ?_ | refine zA ?_ _)); refine zL ?_ NB418_420.out _; (with_reducible repeat (first | refine zB ?_ _ | refine zD ?_ | refine zA ?_ _)); refine zL ?_ NB418_420.out _; (with_reducible repeat (first | refine zB ?_ _ | refine zD ?_ | refine zA ?_ _)); refine zL ?_ NB418_420.out _; (with_reducible repeat (first | refine zB ?_ _ | refine zD ?_ | refine zA ?_ _)); exact BK418.out))⟩; have n5_ : zC (w57.heap[gb419]? = some (.cells #[.int .i64 t412, .int .i64 t413, .int .u8 t414, .int .i64 t415, .int .i64 0, .float .f64 t417] 35 (0, 0))) := ⟨(by rw [hw]; exact (by (with_reducible repeat (first | refine zB ?_ _ | refine zD ?_ | refine zA ?_ _)); refine zL ?_ NB419_420.out _; (with_reducible repeat (first | refine zB ?_ _ | refine zD ?_ | refine zA ?_ _)); refine zL ?_ NB419_420.out _; (with_reducible repeat (first | refine zB ?_ _ | refine zD ?_ | refine zA ?_ _)); refine zL ?_ NB419_420.out _; (with_reducible repeat (first | refine zB ?_ _ | refine zD ?_ | refine zA ?_ _)); refine zL ?_ NB419_420.out _; (with_reducible repeat (first | refine zB ?_ _ | refine zD ?_ | refine zA ?_ _)); refine zL ?_ NB419_420.out _; (with_reducible repeat (first | refine zB ?_ _ | refine zD ?_ | refine zA ?_ _)); refine zL ?_ NB419_420.out _; (with_reducible repeat (first | refine zB ?_ _ | refine zD ?_ | refine zA ?_ _)); exact BK419.out))⟩; have n6_ : zC (w57.heap[gb420]? = some (.cells #[.int .i64 t412, .int .i64 t413, .int .u8 t414, .int .i64 t415, .int .i64 0, .float .f64 t417] 35 (0, 0))) := ⟨(by rw [hw]; exact (by (with_reducible repeat (first | refine zB ?_ _ | refine zD ?_ | refine zA ?_ _)); refine blk_put (cs := #[.int .i64 t412, .int .i64 t413, .int .u8 t414, .int .i64 t415, .int .i64 0, .float .f64 0]) ?_ 5 _ rfl; (with_reducible repeat (first | refine zB ?_ _ | refine zD ?_ | refine zA ?_ _)); refine blk_put (cs := #[.int .i64 t412, .int .i64 t413, .int .u8 t414, .int .i64 t415, .int .i64 0, .float .f64 0]) ?_ 4 _ rfl; (with_reducible repeat (first | refine zB ?_ _ | refine zD ?_ | refine zA ?_ _)); refine blk_put (cs := #[.int .i64 t412, .int .i64 t413, .int .u8 t414, .int .i64 0, .int .i64 0, .float .f64 0]) ?_ 3 _ rfl; (with_reducible repeat (first | refine zB ?_ _ | refine zD ?_ | refine zA ?_ _)); refine blk_put (cs := #[.int .i64 t412, .int .i64 t413, .int .u8 0, .int .i64 0, .int .i64 0, .float .f64 0]) ?_ 2 _ rfl; (with_reducible repeat (first | refine zB ?_ _ | refine zD ?_ | refine zA ?_ _)); refine blk_put (cs := #[.int .i64 t412, .int .i64 0, .int .u8 0, .int .i64 0, .int .i64 0, .float .f64 0]) ?_ 1 _ rfl; (with_reducible repeat (first | refine zB ?_ _ | refine zD ?_ | refine zA ?_ _)); refine blk_put (cs := #[.int .i64 0, .int .i64 0, .int .u8 0, .int .i64 0, .int .i64 0, .float .f64 0]) ?_ 0 _ rfl; (with_reducible repeat (first | refine zB ?_ _ | refine zD ?_ | refine zA ?_ _)); exact BK420.out))⟩; have n7_ : zC (Below w.heap.size w w57) := ⟨(by rw [hw]; exact (by repeat (first | (with_reducible first | exact HB.out | apply zJ | apply zG | apply zI | refine zE ?_ GE392.out | refine zE ?_ GE418.out | refine zE ?_ GE419.out | refine zE ?_ GE420.out) | exact HB.out)))⟩; clear hw; clear HO_0; clear HO408; clear HO411; clear BK392; clear BK418; clear BK419; clear BK420; clear HB; have HO_0 := n0_; have HO408 := n1_; have HO411 := n2_; have BK392 := n3_; have BK418 := n4_; have BK419 := n5_; have BK420 := n6_; have HB := n7_; clear n0_ n1_ n2_ n3_ n4_ n5_ n6_ n7_; have hcz58_0 : w57.cell? ⟨gb419, 0, none⟩ = some (.int .i64 t412) := (zH BK419.out 0).trans rfl; have hcz58_1 : w57.cell? ⟨gb419, 1, none⟩ = some (.int .i64 t413) := (zH BK419.out 1).trans rfl; have hcz58_2 : w57.cell? ⟨gb419, 2, none⟩ = some (.int .u8 t414) := (zH BK419.out 2).trans rfl; have hcz58_3 : w57.cell? ⟨gb419, 3, none⟩ = some (.int .i64 t415) := (zH BK419.out 3).trans rfl; have hcz58_4 : w57.cell? ⟨gb419, 4, none⟩ = some (.int .i64 0) := (zH BK419.out 4).trans rfl; have hcz58_5 : w57.cell? ⟨gb419, 5, none⟩ = some (.float .f64 t417) := (zH BK419.out 5).trans rfl; have hfz58_0 := zF BK419.out 0; have hfz58_1 := zF BK419.out 1; have hfz58_2 := zF BK419.out 2; have hfz58_3 := zF BK419.out 3; have hfz58_4 := zF BK419.out 4; have hfz58_5 := zF BK419.out 5; have hcz59_0 : w57.cell? ⟨gb420, 0, none⟩ = some (.int .i64 t412) := (zH BK420.out 0).trans rfl; have hcz59_1 : w57.cell? ⟨gb420, 1, none⟩ = some (.int .i64 t413) := (zH BK420.out 1).trans rfl; have hcz59_2 : w57.cell? ⟨gb420, 2, none⟩ = some (.int .u8 t414) := (zH BK420.out 2).trans rfl; have hcz59_3 : w57.cell? ⟨gb420, 3, none⟩ = some (.int .i64 t415) := (zH BK420.out 3).trans rfl; have hcz59_4 : w57.cell? ⟨gb420, 4, none⟩ = some (.int .i64 0) := (zH BK420.out 4).trans rfl; have hcz59_5 : w57.cell? ⟨gb420, 5, none⟩ = some (.float .f64 t417) := (zH BK420.out 5).trans rfl; have hfz59_0 := zF BK420.out 0; have hfz59_1 := zF BK420.out 1; have hfz59_2 := zF BK420.out 2; have hfz59_3 := zF BK420.out 3; have hfz59_4 := zF BK420.out 4; have hfz59_5 := zF BK420.out 5; have hnb60 := NB418_392.out; have hnc60 := NB392_418.out; have hcz61_0 : w57.cell? ⟨gb418, 0, none⟩ = some (.slice Ao37 t406.length co37) := (zH BK418.out 0).trans rfl; have hcz61_1 : w57.cell? ⟨gb418, 1, none⟩ = some (.slice Ao39 t409.length co39) := (zH BK418.out 1).trans rfl; have hfz61_0 := zF BK418.out 0; have hfz61_1 := zF BK418.out 1) | ((with_reducible refine gate_callee (f := 14) rfl ?_); refine goesL_ (some 61) rfl rfl Try.func14 (by kernel_rfl) rfl #[.agg #[.slice Ao37 t406.length co37, .slice Ao39 t409.length co39], .int .i64 0, .int .i64 (t406.length : Int), .agg #[.int .i64 t412, .int .i64 t413, .int .u8 t414, .int .i64 t415, .int .i64 0, .float .f64 t417]] rfl (by (try simp only [List.map_toArray, List.map_cons, List.map_nil]); first | done | rfl | (simp only [List.length_drop, List.length_take]; rfl)) ?_; (with_reducible refine (best_Break.calls k1 _ _ t406 _ _ t409 0 (t406.length : Int) t412 t413 t414 t415 0 t417 t421 t424 _ ?side1 ?side2 ?side3 ?side4 A26.out).mono ?_); (case side1 => refine (Kd.zT (e := 62) (base := w.heap.size) (ok := fun k_ => True) (n := t406.length) (c := co37) ?_).2.2; exact (by (with_reducible repeat (first | apply Kd.zM | apply Kd.zN | apply Kd.zO)); exact (Kd.zY (Kd.zV (p := ⟨gb420, 3, none⟩) (Kd.zZ HO408.out BK420.out (by decide)) (fun _ hk => hk.2) (.int .i64 (wrap64 ((wrap64 (t415 + 1)) + (wrap64 (a2)))))) (fun _ h_ => h_.1)))); (case side2 => exact (Kd.zT HO408.out).2.1); (case side3 => refine (Kd.zT (e := 46) (base := w.heap.size) (ok := fun k_ => True) (n := t409.length) (c := co39) ?_).2.2; exact (by (with_reducible repeat (first | apply Kd.zM | apply Kd.zN | apply Kd.zO)); exact (Kd.zY (Kd.zV (p := ⟨gb420, 3, none⟩) (Kd.zZ HO411.out BK420.out (by decide)) (fun _ hk => hk.2) (.int .i64 (wrap64 ((wrap64 (t415 + 1)) + (wrap64 (a2)))))) (fun _ h_ => h_.1)))); (case side4 => exact (Kd.zT HO411.out).2.1); rintro e w62 ⟨v422, rfl, ho0, hb⟩; refine ⟨_, rfl, ?_⟩; have n0_ := zC.mk (Kd.zU (by (with_reducible repeat (first | apply Kd.zM | apply Kd.zN | apply Kd.zO)); exact (Kd.zY (Kd.zV (p := ⟨gb420, 3, none⟩) (Kd.zZ HO_0.out BK420.out (by decide)) (fun _ hk => hk.2) (.int .i64 (wrap64 ((wrap64 (t415 + 1)) + (wrap64 (a2)))))) (fun _ h_ => h_.1))) hb); have n1_ := zC.mk (Kd.zU (by (with_reducible repeat (first | apply Kd.zM | apply Kd.zN | apply Kd.zO)); exact (Kd.zY (Kd.zV (p := ⟨gb420, 3, none⟩) (Kd.zZ HO408.out BK420.out (by decide)) (fun _ hk => hk.2) (.int .i64 (wrap64 ((wrap64 (t415 + 1)) + (wrap64 (a2)))))) (fun _ h_ => h_.1))) hb); have n2_ := zC.mk (Kd.zU (by (with_reducible repeat (first | apply Kd.zM | apply Kd.zN | apply Kd.zO)); exact (Kd.zY (Kd.zV (p := ⟨gb420, 3, none⟩) (Kd.zZ HO411.out BK420.out (by decide)) (fun _ hk => hk.2) (.int .i64 (wrap64 ((wrap64 (t415 + 1)) + (wrap64 (a2)))))) (fun _ h_ => h_.1))) hb); have n3_ := zC.mk (Kd.zX ho0 (below_size (by repeat (first | (with_reducible first | exact HB.out | apply zJ | apply zG | apply zI | refine zE ?_ GE392.out | refine zE ?_ GE418.out | refine zE ?_ GE419.out | refine zE ?_ GE420.out) | exact HB.out)))); have n4_ := zC.mk (zK (g := gb392) (o := .cells #[.int .u8 a1_0, .int .u8 a1_1, .int .u8 a1_2, .int .u16 a1_3, .int .u16 a1_4, .float .f64 a1_5] 26 (0, 0)) (by (with_reducible repeat (first | refine zB ?_ _ | refine zD ?_ | refine zA ?_ _)); refine zL ?_ NB392_420.out _; (with_reducible repeat (first | refine zB ?_ _ | refine zD ?_ | refine zA ?_ _)); exact BK392.out) hb); have n5_ := zC.mk (zK (g := gb418) (o := .cells #[.slice Ao37 t406.length co37, .slice Ao39 t409.length co39] 31 (0, 0)) (by (with_reducible repeat (first | refine zB ?_ _ | refine zD ?_ | refine zA ?_ _)); refine zL ?_ NB418_420.out _; (with_reducible repeat (first | refine zB ?_ _ | refine zD ?_ | refine zA ?_ _)); exact BK418.out) hb); have n6_ := zC.mk (zK (g := gb419) (o := .cells #[.int .i64 t412, .int .i64 t413, .int .u8 t414, .int .i64 t415, .int .i64 0, .float .f64 t417] 35 (0, 0)) (by (with_reducible repeat (first | refine zB ?_ _ | refine zD ?_ | refine zA ?_ _)); refine zL ?_ NB419_420.out _; (with_reducible repeat (first | refine zB ?_ _ | refine zD ?_ | refine zA ?_ _)); exact BK419.out) hb); have n7_ := zC.mk (zK (g := gb420) (o := .cells #[.int .i64 t412, .int .i64 t413, .int .u8 t414, .int .i64 (wrap64 ((wrap64 (t415 + 1)) + (wrap64 (a2)))), .int .i64 0, .float .f64 t417] 35 (0, 0)) (by (with_reducible repeat (first | refine zB ?_ _ | refine zD ?_ | refine zA ?_ _)); refine blk_put (cs := #[.int .i64 t412, .int .i64 t413, .int .u8 t414, .int .i64 t415, .int .i64 0, .float .f64 t417]) ?_ 3 _ rfl; (with_reducible repeat (first | refine zB ?_ _ | refine zD ?_ | refine zA ?_ _)); exact BK420.out) hb); have n8_ := zC.mk (below_step (by repeat (first | (with_reducible first | exact HB.out | apply zJ | apply zG | apply zI | refine zE ?_ GE392.out | refine zE ?_ GE418.out | refine zE ?_ GE419.out | refine zE ?_ GE420.out) | exact HB.out)) hb); clear HO_0; clear HO408; clear HO411; clear BK392; clear BK418; clear BK419; clear BK420; clear HB; have HO_0 := n0_; have HO408 := n1_; have HO411 := n2_; have HO423 := n3_; have BK392 := n4_; have BK418 := n5_; have BK419 := n6_; have BK420 := n7_; have HB := n8_; clear n0_ n1_ n2_ n3_ n4_ n5_ n6_ n7_ n8_; (try clear hb); (try clear hb2); (try clear hk); (try clear hi); (try clear ho0); have hcz63_0 : w62.cell? ⟨gb418, 0, none⟩ = some (.slice Ao37 t406.length co37) := (zH BK418.out 0).trans rfl; have hcz63_1 : w62.cell? ⟨gb418, 1, none⟩ = some (.slice Ao39 t409.length co39) := (zH BK418.out 1).trans rfl; have hfz63_0 := zF BK418.out 0; have hfz63_1 := zF BK418.out 1; have hcz64_0 : w62.cell? ⟨gb420, 0, none⟩ = some (.int .i64 t412) := (zH BK420.out 0).trans rfl; have hcz64_1 : w62.cell? ⟨gb420, 1, none⟩ = some (.int .i64 t413) := (zH BK420.out 1).trans rfl; have hcz64_2 : w62.cell? ⟨gb420, 2, none⟩ = some (.int .u8 t414) := (zH BK420.out 2).trans rfl; have hcz64_3 : w62.cell? ⟨gb420, 3, none⟩ = some (.int .i64 (wrap64 ((wrap64 (t415 + 1)) + (wrap64 (a2))))) := (zH BK420.out 3).trans rfl; have hcz64_4 : w62.cell? ⟨gb420, 4, none⟩ = some (.int .i64 0) := (zH BK420.out 4).trans rfl; have hcz64_5 : w62.cell? ⟨gb420, 5, none⟩ = some (.float .f64 t417) := (zH BK420.out 5).trans rfl; have hfz64_0 := zF BK420.out 0; have hfz64_1 := zF BK420.out 1; have hfz64_2 := zF BK420.out 2; have hfz64_3 := zF BK420.out 3; have hfz64_4 := zF BK420.out 4; have hfz64_5 := zF BK420.out 5) | ((with_reducible refine gate_callee (f := 14) rfl ?_); refine goesL_ (some 70) rfl rfl Try.func14 (by kernel_rfl) rfl #[.agg #[.slice Ao37 t406.length co37, .slice Ao39 t409.length co39], .int .i64 0, .int .i64 (t406.length : Int), .agg #[.int .i64 t412, .int .i64 t413, .int .u8 t414, .int .i64 (wrap64 ((wrap64 (t415 + 1)) + (wrap64 (a2)))), .int .i64 0, .float .f64 t417]] rfl (by (try simp only [List.map_toArray, List.map_cons, List.map_nil]); first | done | rfl | (simp only [List.length_drop, List.length_take]; rfl)) ?_; (with_reducible refine (best_Break.calls k1 _ _ t406 _ _ t409 0 (t406.length : Int) t412 t413 t414 (wrap64 ((wrap64 (t415 + 1)) + (wrap64 (a2)))) 0 t417 t425 t428 _ ?side1 ?side2 ?side3 ?side4 A27.out).mono ?_); (case side1 => repeat (first | exact (Kd.zT HO408.out).2.2 | (with_reducible refine Kd.zP ?_ _) | (with_reducible refine Kd.zQ ?_ _) | (with_reducible refine Kd.zR ?_))); (case side2 => exact (Kd.zT HO408.out).2.1); (case side3 => repeat (first | exact (Kd.zT HO411.out).2.2 | (with_reducible refine Kd.zP ?_ _) | (with_reducible refine Kd.zQ ?_ _) | (with_reducible refine Kd.zR ?_))); (case side4 => exact (Kd.zT HO411.out).2.1); rintro e w65 ⟨v426, rfl, ho0, hb⟩; refine ⟨_, rfl, ?_⟩; have n0_ := zC.mk (Kd.zU (by (with_reducible repeat (first | apply Kd.zM | apply Kd.zN | apply Kd.zO)); exact HO_0.out) hb); have n1_ := zC.mk (Kd.zU (by (with_reducible repeat (first | apply Kd.zM | apply Kd.zN | apply Kd.zO)); exact HO408.out) hb); have n2_ := zC.mk (Kd.zU (by (with_reducible repeat (first | apply Kd.zM | apply Kd.zN | apply Kd.zO)); exact HO411.out) hb); have n3_ := zC.mk (Kd.R_elder' (by (with_reducible repeat (first | apply Kd.zM | apply Kd.zN | apply Kd.zO)); exact HO423.out) (Kd.R_base ho0) hb); have n4_ := zC.mk (Kd.zX (Kd.R_new' ho0 (Kd.R_lt (by (with_reducible repeat (first | apply Kd.zM | apply Kd.zN | apply Kd.zO)); exact HO423.out))) (below_size (by repeat (first | (with_reducible first | exact HB.out | apply zJ | apply zG | apply zI | refine zE ?_ GE392.out | refine zE ?_ GE418.out | refine zE ?_ GE419.out | refine zE ?_ GE420.out) | exact HB.out)))); have n5_ := zC.mk (zK (g := gb392) (o := .cells #[.int .u8 a1_0, .int .u8 a1_1, .int .u8 a1_2, .int .u16 a1_3, .int .u16 a1_4, .float .f64 a1_5] 26 (0, 0)) (by (with_reducible repeat (first | refine zB ?_ _ | refine zD ?_ | refine zA ?_ _)); exact BK392.out) hb); have n6_ := zC.mk (zK (g := gb418) (o := .cells #[.slice Ao37 t406.length co37, .slice Ao39 t409.length co39] 31 (0, 0)) (by (with_reducible repeat (first | refine zB ?_ _ | refine zD ?_ | refine zA ?_ _)); exact BK418.out) hb); have n7_ := zC.mk (zK (g := gb419) (o := .cells #[.int .i64 t412, .int .i64 t413, .int .u8 t414, .int .i64 t415, .int .i64 0, .float .f64 t417] 35 (0, 0)) (by (with_reducible repeat (first | refine zB ?_ _ | refine zD ?_ | refine zA ?_ _)); exact BK419.out) hb); have n8_ := zC.mk (zK (g := gb420) (o := .cells #[.int .i64 t412, .int .i64 t413, .int .u8 t414, .int .i64 (wrap64 ((wrap64 (t415 + 1)) + (wrap64 (a2)))), .int .i64 0, .float .f64 t417] 35 (0, 0)) (by (with_reducible repeat (first | refine zB ?_ _ | refine zD ?_ | refine zA ?_ _)); exact BK420.out) hb); have n9_ := zC.mk (below_step (by repeat (first | (with_reducible first | exact HB.out | apply zJ | apply zG | apply zI | refine zE ?_ GE392.out | refine zE ?_ GE418.out | refine zE ?_ GE419.out | refine zE ?_ GE420.out) | exact HB.out)) hb); clear HO_0; clear HO408; clear HO411; clear HO423; clear BK392; clear BK418; clear BK419; clear BK420; clear HB; have HO_0 := n0_; have HO408 := n1_; have HO411 := n2_; have HO423 := n3_; have HO427 := n4_; have BK392 := n5_; have BK418 := n6_; have BK419 := n7_; have BK420 := n8_; have HB := n9_; clear n0_ n1_ n2_ n3_ n4_ n5_ n6_ n7_ n8_ n9_; (try clear hb); (try clear hb2); (try clear hk); (try clear hi); (try clear ho0); obtain ⟨Ao66, co66, eo66⟩ := Kd.zW HO427.out; subst eo66) | (go_at_call 17; (with_reducible refine (l5_BestHyphens_1.calls k1 _ _ t425 t429 _ ?side1 ?side2 A29.out).mono ?_); (case side1 => repeat (first | exact (Kd.zT HO427.out).2.2 | (with_reducible refine Kd.zP ?_ _) | (with_reducible refine Kd.zQ ?_ _) | (with_reducible refine Kd.zR ?_))); (case side2 => exact (Kd.zT HO427.out).2.1); rintro e w67 ⟨rfl, hb⟩; have n0_ := zC.mk (Kd.zU (by (with_reducible repeat (first | apply Kd.zM | apply Kd.zN | apply Kd.zO)); exact HO_0.out) hb); have n1_ := zC.mk (Kd.zU (by (with_reducible repeat (first | apply Kd.zM | apply Kd.zN | apply Kd.zO)); exact HO408.out) hb); have n2_ := zC.mk (Kd.zU (by (with_reducible repeat (first | apply Kd.zM | apply Kd.zN | apply Kd.zO)); exact HO411.out) hb); have n3_ := zC.mk (Kd.zU (by (with_reducible repeat (first | apply Kd.zM | apply Kd.zN | apply Kd.zO)); exact HO423.out) hb); have n4_ := zC.mk (Kd.zU (by (with_reducible repeat (first | apply Kd.zM | apply Kd.zN | apply Kd.zO)); exact HO427.out) hb); have n5_ := zC.mk (zK (g := gb392) (o := .cells #[.int .u8 a1_0, .int .u8 a1_1, .int .u8 a1_2, .int .u16 a1_3, .int .u16 a1_4, .float .f64 a1_5] 26 (0, 0)) (by (with_reducible repeat (first | refine zB ?_ _ | refine zD ?_ | refine zA ?_ _)); exact BK392.out) hb); have n6_ := zC.mk (zK (g := gb418) (o := .cells #[.slice Ao37 t406.length co37, .slice Ao39 t409.length co39] 31 (0, 0)) (by (with_reducible repeat (first | refine zB ?_ _ | refine zD ?_ | refine zA ?_ _)); exact BK418.out) hb); have n7_ := zC.mk (zK (g := gb419) (o := .cells #[.int .i64 t412, .int .i64 t413, .int .u8 t414, .int .i64 t415, .int .i64 0, .float .f64 t417] 35 (0, 0)) (by (with_reducible repeat (first | refine zB ?_ _ | refine zD ?_ | refine zA ?_ _)); exact BK419.out) hb); have n8_ := zC.mk (zK (g := gb420) (o := .cells #[.int .i64 t412, .int .i64 t413, .int .u8 t414, .int .i64 (wrap64 ((wrap64 (t415 + 1)) + (wrap64 (a2)))), .int .i64 0, .float .f64 t417] 35 (0, 0)) (by (with_reducible repeat (first | refine zB ?_ _ | refine zD ?_ | refine zA ?_ _)); exact BK420.out) hb); have n9_ := zC.mk (below_step (by repeat (first | (with_reducible first | exact HB.out | apply zJ | apply zG | apply zI | refine zE ?_ GE392.out | refine zE ?_ GE418.out | refine zE ?_ GE419.out | refine zE ?_ GE420.out) | exact HB.out)) hb); clear HO_0; clear HO408; clear HO411; clear HO423; clear HO427; clear BK392; clear BK418; clear BK419; clear BK420; clear HB; have HO_0 := n0_; have HO408 := n1_; have HO411 := n2_; have HO423 := n3_; have HO427 := n4_; have BK392 := n5_; have BK418 := n6_; have BK419 := n7_; have BK420 := n8_; have HB := n9_; clear n0_ n1_ n2_ n3_ n4_ n5_ n6_ n7_ n8_ n9_; (try clear hb); (try clear hb2); (try clear hk); (try clear hi); obtain ⟨Ao68, co68, eo68⟩ := Kd.zW HO423.out; subst eo68) | (go_at_call 17; (with_reducible refine (l5_BestHyphens_1.calls k1 _ _ t421 t430 _ ?side1 ?side2 A30.out).mono ?_); (case side1 => repeat (first | exact (Kd.zT HO423.out).2.2 | (with_reducible refine Kd.zP ?_ _) | (with_reducible refine Kd.zQ ?_ _) | (with_reducible refine Kd.zR ?_))); (case side2 => exact (Kd.zT HO423.out).2.1); rintro e w69 ⟨rfl, hb⟩; have n0_ := zC.mk (Kd.zU (by (with_reducible repeat (first | apply Kd.zM | apply Kd.zN | apply Kd.zO)); exact HO_0.out) hb); have n1_ := zC.mk (Kd.zU (by (with_reducible repeat (first | apply Kd.zM | apply Kd.zN | apply Kd.zO)); exact HO408.out) hb); have n2_ := zC.mk (Kd.zU (by (with_reducible repeat (first | apply Kd.zM | apply Kd.zN | apply Kd.zO)); exact HO411.out) hb); have n3_ := zC.mk (Kd.zU (by (with_reducible repeat (first | apply Kd.zM | apply Kd.zN | apply Kd.zO)); exact HO423.out) hb); have n4_ := zC.mk (Kd.zU (by (with_reducible repeat (first | apply Kd.zM | apply Kd.zN | apply Kd.zO)); exact HO427.out) hb); have n5_ := zC.mk (zK (g := gb392) (o := .cells #[.int .u8 a1_0, .int .u8 a1_1, .int .u8 a1_2, .int .u16 a1_3, .int .u16 a1_4, .float .f64 a1_5] 26 (0, 0)) (by (with_reducible repeat (first | refine zB ?_ _ | refine zD ?_ | refine zA ?_ _)); exact BK392.out) hb); have n6_ := zC.mk (zK (g := gb418) (o := .cells #[.slice Ao37 t406.length co37, .slice Ao39 t409.length co39] 31 (0, 0)) (by (with_reducible repeat (first | refine zB ?_ _ | refine zD ?_ | refine zA ?_ _)); exact BK418.out) hb); have n7_ := zC.mk (zK (g := gb419) (o := .cells #[.int .i64 t412, .int .i64 t413, .int .u8 t414, .int .i64 t415, .int .i64 0, .float .f64 t417] 35 (0, 0)) (by (with_reducible repeat (first | refine zB ?_ _ | refine zD ?_ | refine zA ?_ _)); exact BK419.out) hb); have n8_ := zC.mk (zK (g := gb420) (o := .cells #[.int .i64 t412, .int .i64 t413, .int .u8 t414, .int .i64 (wrap64 ((wrap64 (t415 + 1)) + (wrap64 (a2)))), .int .i64 0, .float .f64 t417] 35 (0, 0)) (by (with_reducible repeat (first | refine zB ?_ _ | refine zD ?_ | refine zA ?_ _)); exact BK420.out) hb); have n9_ := zC.mk (below_step (by repeat (first | (with_reducible first | exact HB.out | apply zJ | apply zG | apply zI | refine zE ?_ GE392.out | refine zE ?_ GE418.out | refine zE ?_ GE419.out | refine zE ?_ GE420.out) | exact HB.out)) hb); clear HO_0; clear HO408; clear HO411; clear HO423; clear HO427; clear BK392; clear BK418; clear BK419; clear BK420; clear HB; have HO_0 := n0_; have HO408 := n1_; have HO411 := n2_; have HO423 := n3_; have HO427 := n4_; have BK392 := n5_; have BK418 := n6_; have BK419 := n7_; have BK420 := n8_; have HB := n9_; clear n0_ n1_ n2_ n3_ n4_ n5_ n6_ n7_ n8_ n9_; (try clear hb); (try clear hb2); (try clear hk); (try clear hi)))
    go_ret
    exact ⟨by first | rfl | (simp [errW_none, errW_some] <;> rfl) | (simp only [← hji6]; first | rfl | (simp [errW_none, errW_some] <;> rfl)) | (simp [*, errW_none, errW_some] <;> rfl), by repeat (first | (with_reducible first | exact HB.out | apply zJ | apply zG | apply zI | refine zE ?_ GE392.out | refine zE ?_ GE418.out | refine zE ?_ GE419.out | refine zE ?_ GE420.out) | exact HB.out)⟩
def l5_BestHyphens.Pure : Prop := ∀ (l0 : List (S45)) (a1_0 : Int) (a1_1 : Int) (a1_2 : Int) (a1_3 : Int) (a1_4 : Int) (a1_5 : Nat) (a2 : Int), (l0.length * 4 ≤ 140737488351232 ∧ ∀ y0 ∈ l0, ((Lit.int .u8 y0.f0).wf = true ∧ ((Lit.int .u8 y0.f1).wf = true ∧ ((Lit.int .u8 y0.f2).wf = true ∧ (Lit.int .u8 y0.f3).wf = true)))) → ((Lit.int .u8 a1_0).wf = true ∧ ((Lit.int .u8 a1_1).wf = true ∧ ((Lit.int .u8 a1_2).wf = true ∧ ((Lit.int .u16 a1_3).wf = true ∧ ((Lit.int .u16 a1_4).wf = true ∧ (Lit.float .f64 a1_5).wf = true))))) → (Lit.int .u16 a2).wf = true → ∃ k, l5_BestHyphens.f k l0 a1_0 a1_1 a1_2 a1_3 a1_4 a1_5 a2 = some true
def span_Gaps.l0 : Nat → Int → List (S62) → Int → Int → Option (Int)
  | 0, _, _, _, _ => none
  | k + 1, x7, x17, x18, x19 => if x19 < x18 then (if 0 ≤ x19 then (if x19 < (x17.length : Int) then (if ((rd_T62 x17 x19).f3) = 1 then (span_Gaps.l0 k (wrap64 (x7 + 1)) x17 x18 (wrap64 (x19 + 1))) else (span_Gaps.l0 k x7 x17 x18 (wrap64 (x19 + 1)))) else (none)) else (none)) else (some x7)
def span_Gaps.f (k : Nat) (l0_0 : List (S62)) (l0_1 : List Int) (a1 : Int) (a2 : Int) : Option (Int) := (span_Trim.f k l0_0 l0_1 a1 a2).bind fun t467 => (if 0 ≤ a1 then (if a1 ≤ t467 then (if t467 ≤ (l0_0.length : Int) then ((some ((l0_0.take (t467 : Int).toNat).drop (a1 : Int).toNat : List (S62))).bind fun y468 => (span_Gaps.l0 k 0 y468 (y468.length : Int) 0)) else (none)) else (none)) else (none))
theorem span_Gaps.mono_l : ∀ k, (∀ y0 y1 y2 y3, LeO (span_Gaps.l0 k y0 y1 y2 y3) (span_Gaps.l0 (k + 1) y0 y1 y2 y3))
  | 0 => fun _ _ _ _ r h => by simp [span_Gaps.l0] at h
  | k + 1 => by
    have ih0 := span_Gaps.mono_l k
    · intro y0 y1 y2 y3
      unfold span_Gaps.l0
      repeat' (with_reducible first | exact ih0 _ _ _ _ | exact span_Trim.mono _ _ _ _ _ | exact LeO.refl _ | exact LeO.none _ | refine LeO.ite ?_ ?_ | refine LeO.bind ?_ (fun _ => ?_))
theorem span_Gaps.mono : ∀ a0 a1 a2 a3 k, LeO (span_Gaps.f k a0 a1 a2 a3) (span_Gaps.f (k + 1) a0 a1 a2 a3) := by
  intro a0 a1 a2 a3 k
  have ih0 := span_Gaps.mono_l k; unfold span_Gaps.f
  repeat' (with_reducible first | exact ih0 _ _ _ _ | exact span_Trim.mono _ _ _ _ _ | exact LeO.refl _ | exact LeO.none _ | refine LeO.ite ?_ ?_ | refine LeO.bind ?_ (fun _ => ?_))
def span_Gaps.T2 : Bool × List (List Nat × List Nat) := (true, [([], []), ([0], [0]), ([], []), ([], []), ([], []), ([], []), ([3, 4, 5], [3, 4, 5]), ([1, 2, 6], [1, 2, 6]), ([7], [7]), ([], [])])
def span_Gaps.B2 : List Nat := [0, 1, 0, 0, 0, 0, 56, 127, 255, 0]
theorem span_Gaps.tab2 : rtab .any (opsOf Try.f33 2) = span_Gaps.T2 := by kernel_rfl
theorem span_Gaps.bits2 : waitsOk span_Gaps.T2.2 span_Gaps.B2 = true := by kernel_rfl
set_option maxHeartbeats 8000000 in
set_option maxRecDepth 100000 in
theorem span_Gaps.calls (k : Nat) (A0_0 : Option Addr) (c0_0 : Nat) (l0_0 : List (S62)) (A0_1 : Option Addr) (c0_1 : Nat) (l0_1 : List Int) (a1 : Int) (a2 : Int) (r : Int) (w : World) (hr0_0 : Kd.C k62 w A0_0 l0_0.length l0_0) (hc0_0 : l0_0.length ≤ c0_0) (hr0_1 : Kd.C (Kd.int .u8) w A0_1 l0_1.length l0_1) (hc0_1 : l0_1.length ≤ c0_1) (h : span_Gaps.f k l0_0 l0_1 a1 a2 = some r) :
    Calls Try.prog 33 #[.agg #[.slice A0_0 l0_0.length c0_0, .slice A0_1 l0_1.length c0_1], .int .i64 a1, .int .i64 a2] w fun e w' => e = .returned (.int .i64 r) ∧ Below w.heap.size w w' := by
  have hu31 := Try.underlying31; have hu62 := Try.underlying62; have HR0_0 := zC.mk hr0_0; have HC0_0 := zC.mk hc0_0; clear hr0_0 hc0_0; have HR0_1 := zC.mk hr0_1; have HC0_1 := zC.mk hc0_1; clear hr0_1 hc0_1; have HB := zC.mk (Below.refl w.heap.size w); have H : ((span_Trim.f k l0_0 l0_1 a1 a2).bind fun t467 => (if 0 ≤ a1 then (if a1 ≤ t467 then (if t467 ≤ (l0_0.length : Int) then ((some ((l0_0.take (t467 : Int).toNat).drop (a1 : Int).toNat : List (S62))).bind fun y468 => (span_Gaps.l0 k 0 y468 (y468.length : Int) 0)) else (none)) else (none)) else (none))) = some r := h
  clear h; replace H := Option.bind_eq_some_iff.mp H; obtain ⟨t467, A40, H⟩ := H; replace H : (if 0 ≤ a1 then (if a1 ≤ t467 then (if t467 ≤ (l0_0.length : Int) then ((some ((l0_0.take (t467 : Int).toNat).drop (a1 : Int).toNat : List (S62))).bind fun y468 => (span_Gaps.l0 k 0 y468 (y468.length : Int) 0)) else (none)) else (none)) else (none)) = some r := H
  have A4 := zC.mk A40; clear A40; by_cases c5 : 0 ≤ a1
  rotate_left
  · rw [if_neg c5] at H
    exact absurd H (by simp)
  rw [if_pos c5] at H; have c5b0 := eq_true c5; have c5b1 : decide (0 ≤ a1) = true := decide_eq_true c5
  clear c5; by_cases c6 : a1 ≤ t467
  rotate_left
  · rw [if_neg c6] at H
    exact absurd H (by simp)
  rw [if_pos c6] at H; have c6b0 := eq_true c6; have c6b1 : decide (a1 ≤ t467) = true := decide_eq_true c6
  clear c6; by_cases c7 : t467 ≤ (l0_0.length : Int)
  rotate_left
  · rw [if_neg c7] at H
    exact absurd H (by simp)
  rw [if_pos c7] at H; have c7b0 := eq_true c7; have c7b1 : decide (t467 ≤ (l0_0.length : Int)) = true := decide_eq_true c7
  clear c7; obtain ⟨y468, hy468⟩ : ∃ y_ : List (S62), y_ = ((l0_0.take (t467 : Int).toNat).drop (a1 : Int).toNat) := ⟨_, rfl⟩; replace H : (span_Gaps.l0 k 0 y468 (y468.length : Int) 0) = some r := by first | (rw [hy468]; with_reducible exact H) | (have H2_ := (Option.bind_some _ _).symm.trans H; rw [hy468]; with_reducible exact H2_) | (have H2_ := (Option.bind_some _ _).symm.trans H; with_reducible exact H2_) | with_reducible exact H | (rw [hy468]; exact H) | exact H
  have Ny468 := zC.mk hy468; clear hy468; have H' := zC.mk H
  clear H; go_enter Try.func33, Try.ntmps33
  try go_wp2_with (first | ((with_reducible refine gate_dst (N := 3) rfl ?_); refine box_event ?hg (N := 3) ?hd (cs := #[.slice A0_0 l0_0.length c0_0, .slice A0_1 l0_1.length c0_1]) (t := 31) ?hr ?_; (case hd => rfl); (case hg => rfl); (case hr => first | (go_simp; done) | (go_simp; rfl)); intro gb466 hg w8 hbox hb; have n0_ := zC.mk (below_step (by repeat (first | (with_reducible first | exact HB.out | apply zJ | apply zG | apply zI) | exact HB.out)) hb); have n1_ := zC.mk (hbox); have n2_ := zC.mk ((by rw [hg]; exact (below_size (by repeat (first | (with_reducible first | exact HB.out | apply zJ | apply zG | apply zI) | exact HB.out))) : w.heap.size ≤ gb466)); have n3_ := n2_; clear HB; have HB := n0_; have BK466 := n1_; have GW466 := n2_; have GE466 := n3_; clear n0_ n1_ n2_ n3_; clear hb hbox hg))
  replace BK466 := zC.mk (zD BK466.out); replace HB := zC.mk (zI HB.out); refine start_ (n := 10) (S := fun w' => w'.cell? ⟨gb466, 0, none⟩ = some (.slice A0_0 l0_0.length c0_0) ∧ w'.cell? ⟨gb466, 1, none⟩ = some (.slice A0_1 l0_1.length c0_1)) (ds := []) #[false, false, false, false, false, false, false, false, false, false] (by kernel_rfl) rfl rfl ⟨(zH BK466.out 0).trans rfl, (zH BK466.out 1).trans rfl⟩ (fun hHeld => ?_); refine with_tabW span_Gaps.tab2 span_Gaps.bits2 (fun HT_ HW_ => ?_)
  generalize w8.drew = w9 at BK466 HB hHeld ⊢
  refine pure_ (i := 0) (N := some 10) (v := ?_) (a' := ?_) (tf_ 1 10) rfl rfl (any_of HT_.out (by kernel_rfl)) (fun _ _ _ h => h) (Or.inl ⟨by rfl, ?_⟩) ?_ ?_
  rotate_left
  · intro w'
    go_simp
    with_reducible rfl
  rotate_left
  · simp only [Act.put, sA_, sB_, sC_, i64_w, i32_w]
    rfl
  refine pure_ (i := 2) (N := some 12) (v := ?_) (a' := ?_) (tb_ 5 10) rfl rfl (any_of HT_.out (by kernel_rfl)) (fun _ _ _ h => h) (Or.inl ⟨by rfl, ?_⟩) ?_ ?_
  rotate_left
  · intro w'
    go_simp
    with_reducible rfl
  rotate_left
  · simp only [Act.put, sA_, sB_, sC_, i64_w, i32_w]
    rfl
  refine pure_ (i := 4) (N := some 14) (v := ?_) (a' := ?_) (tb_ 21 10) rfl rfl (any_of HT_.out (by kernel_rfl)) (fun _ _ _ h => h) (Or.inl ⟨by rfl, ?_⟩) ?_ ?_
  rotate_left
  · intro w'
    go_simp
    with_reducible rfl
  rotate_left
  · simp only [Act.put, sA_, sB_, sC_, i64_w, i32_w]
    rfl
  refine pure_ (i := 5) (N := some 15) (v := ?_) (a' := ?_) (tb_ 53 10) rfl rfl (any_of HT_.out (by kernel_rfl)) (fun _ _ _ h => h) (Or.inl ⟨by rfl, ?_⟩) ?_ ?_
  rotate_left
  · intro w'
    go_simp
    with_reducible rfl
  rotate_left
  · simp only [Act.put, sA_, sB_, sC_, i64_w, i32_w]
    rfl
  refine pure_ (i := 9) (N := some 19) (v := ?_) (a' := ?_) (tb_ 565 10) rfl rfl (any_of HT_.out (by kernel_rfl)) (fun _ _ _ h => h) (Or.inl ⟨by rfl, ?_⟩) ?_ ?_
  rotate_left
  · intro w'
    go_simp
    with_reducible rfl
  rotate_left
  · simp only [Act.put, sA_, sB_, sC_, i64_w, i32_w]
    rfl
  refine take_ (i := 1) (N := some 11) (v := ?_) (a' := ?_) (tb_ 567 10) rfl rfl (take_ofW HT_.out HW_.out (by kernel_rfl)) (fun _ _ _ h => h) (Or.inl ⟨by rfl, ?_⟩) hHeld ?_ ?_
  rotate_left
  · rintro w' ⟨s0, s1⟩
    go_simp
    with_reducible rfl
  rotate_left
  · simp only [Act.put, sA_, sB_, sC_, i64_w, i32_w]
    rfl
  refine take_ (i := 3) (N := some 13) (v := ?_) (a' := ?_) (tb_ 575 10) rfl rfl (take_ofW HT_.out HW_.out (by kernel_rfl)) (fun _ _ _ h => h) (Or.inl ⟨by rfl, ?_⟩) hHeld ?_ ?_
  rotate_left
  · rintro w' ⟨s0, s1⟩
    go_simp
    with_reducible rfl
  rotate_left
  · simp only [Act.put, sA_, sB_, sC_, i64_w, i32_w]
    rfl
  refine one_ (i := 6) (N := some 16) (tb_ 639 10) rfl rfl (one_of HT_.out (by kernel_rfl)) (by decide) (fun K hK => ?_)
  refine goes_ Try.func38 (by kernel_rfl) rfl #[.agg #[.slice A0_0 l0_0.length c0_0, .slice A0_1 l0_1.length c0_1], .int .i64 a1, .int .i64 a2] (by rfl) rfl rfl (by (try simp only [List.map_toArray, List.map_cons, List.map_nil]); first | done | rfl | (simp only [List.length_drop, List.length_take]; rfl)) ?_
  with_reducible refine (span_Trim.calls k _ _ l0_0 _ _ l0_1 a1 a2 t467 _ ?side1 ?side2 ?side3 ?side4 A4.out).mono ?_
  (case side1 => repeat (first | exact (Kd.zS HR0_0.out HB.out) | (with_reducible refine Kd.zP ?_ _) | (with_reducible refine Kd.zQ ?_ _) | (with_reducible refine Kd.zR ?_)))
  (case side2 => exact HC0_0.out)
  (case side3 => repeat (first | exact (Kd.zS HR0_1.out HB.out) | (with_reducible refine Kd.zP ?_ _) | (with_reducible refine Kd.zQ ?_ _) | (with_reducible refine Kd.zR ?_)))
  (case side4 => exact HC0_1.out)
  rintro e w10 ⟨rfl, hb⟩
  refine ⟨_, rfl, ?_⟩
  replace BK466 := zC.mk (zK (by (with_reducible repeat (first | refine zB ?_ _ | refine zD ?_ | refine zA ?_ _)); exact BK466.out) hb)
  replace HB := zC.mk (below_step (by repeat (first | (with_reducible first | exact HB.out | apply zJ | apply zG | apply zI | refine zE ?_ GE466.out) | exact HB.out)) hb)
  (try clear hb)
  (try clear hb2)
  (try clear hk)
  (try clear hi)
  have q11 : (t467 : Int) ≤ ((l0_0.length : Int) : Int) := of_decide_eq_true (by first | (with_reducible assumption) | assumption)
  obtain ⟨i011, hi011, _, hsz11, _⟩ := info_parts info62; have hroom11 : l0_0.length ≤ c0_0 := HC0_0.out
  have hC11 : Kd.C k62 _ A0_0 l0_0.length l0_0 := HR0_0.out
  have ql11 : (a1 : Int) ≤ (t467 : Int) := of_decide_eq_true (by first | (with_reducible assumption) | assumption)
  have q011 : (0 : Int) ≤ (a1 : Int) := of_decide_eq_true (by first | (with_reducible assumption) | assumption)
  have hcut11 := cut_mid (P := Try.prog) 28 62 .i64 .i64 Try.underlying28 hi011 4 hsz11 A0_0 l0_0.length c0_0 a1 t467 q011 ql11 q11 hroom11; have hr11 := Kd.C_mid (lo := (a1 : Int).toNat) (hi := (t467 : Int).toNat) (c := c0_0) hC11 (by omega) (by omega) hroom11
  obtain ⟨A11, hA11⟩ : ∃ A1, A1 = (if c0_0 = (a1 : Int).toNat then A0_0 else (A0_0 : Option Addr).map (·.add ((a1 : Int).toNat * 4))) := ⟨_, rfl⟩
  obtain ⟨c11, hc11⟩ : ∃ c1, c1 = c0_0 - (a1 : Int).toNat := ⟨_, rfl⟩; have hy11 : y468.length = (t467 : Int).toNat - (a1 : Int).toNat := (by rw [Ny468.out, List.length_drop, List.length_take] <;> omega)
  rw [show ((l0_0).take (t467 : Int).toNat).drop (a1 : Int).toNat = y468 from Ny468.out.symm] at hr11; replace hr11 : Kd.C k62 _ A11 y468.length y468 := (by rw [hA11]; exact hr11)
  rw [← hy11, ← hA11, ← hc11] at hcut11; have HR471 := zC.mk hr11; have HC471 := zC.mk (show y468.length ≤ c11 from by rw [hy11, hc11]; exact Nat.sub_le_sub_right (Nat.le_trans (by omega) hroom11) _)
  clear hr11 hC11 hroom11 hi011 hsz11 hc11; have KY11 := zC.mk hy11; have KA11 := zC.mk hA11; clear hy11 hA11; replace q11 := eq_true q11; refine hK.out _ _ ⟨(zH BK466.out 0).trans rfl, (zH BK466.out 1).trans rfl⟩ (fun hHeld => ?_)
  clear hK K; refine norm_ (a' := ?_) ?_ ?_
  rotate_left
  · show Act.put _ (some 16) _ = _
    simp only [Act.put, sA_, sB_, sC_, i64_w, i32_w]; rfl
  refine pure_ (i := 7) (N := some 17) (v := ?_) (a' := ?_) (tb_ 767 10) rfl rfl (any_of HT_.out (by kernel_rfl)) (fun _ _ _ h => h) (Or.inl ⟨by rfl, ?_⟩) ?_ ?_
  rotate_left
  · intro w'
    go_simp
    with_reducible rfl
  rotate_left
  · simp only [Act.put, sA_, sB_, sC_, i64_w, i32_w]
    rfl
  refine pure_ (i := 8) (N := some 18) (v := ?_) (a' := ?_) (tb_ 1023 10) rfl rfl (any_of HT_.out (by kernel_rfl)) (fun _ _ _ h => h) (Or.inl ⟨by rfl, ?_⟩) ?_ ?_
  rotate_left
  · intro w'
    go_simp
    with_reducible rfl
  rotate_left
  · simp only [Act.put, sA_, sB_, sC_, i64_w, i32_w]
    rfl
  refine done_ (done_of HT_.out (by kernel_rfl)) ?_
  try go_wp2
  go_loopg [7, 19] k (fun kq v7 v19 w' => ∃ (x7_1 : Int) (x19_1 : Int), v7 = .int .i64 x7_1 ∧ v19 = .int .i64 x19_1 ∧ zC (span_Gaps.l0 kq x7_1 y468 (y468.length : Int) x19_1 = some r) ∧ zC (kq ≤ k) ∧ zC (w'.heap[gb466]? = some (.cells #[(.slice A0_0 l0_0.length c0_0), (.slice A0_1 l0_1.length c0_1)] 31 (0, 0))) ∧ zC (Below w.heap.size w w'))
  case atStart => exact ⟨(0), (0), (by first | rfl | (simp; done) | (simp [*]; done)), (by first | rfl | (simp; done) | (simp [*]; done)), H', ⟨Nat.le_refl _⟩, ⟨by (with_reducible repeat (first | refine zB ?_ _ | refine zD ?_ | refine zA ?_ _)); exact BK466.out⟩, ⟨by repeat (first | (with_reducible first | exact HB.out | apply zJ | apply zG | apply zI | refine zE ?_ GE466.out) | exact HB.out)⟩⟩
  clear H'; obtain ⟨x7_1, x19_1, rfl, rfl, HA, HK1, BK466, HB⟩ := hrel; cases gk with
  | zero => exact absurd HA.out (by simp [span_Gaps.l0])
  | succ k1 =>
    have H := HA.out; clear HA; simp only [span_Gaps.l0] at H; by_cases c12 : x19_1 < (y468.length : Int)
    rotate_left
    · rw [if_neg c12] at H
      have c12b0 : decide (x19_1 < (y468.length : Int)) = false := decide_eq_false c12
      clear c12; obtain rfl := Option.some.inj H
      go_wp2
      go_ret
      exact ⟨by first | rfl | (simp [errW_none, errW_some] <;> rfl) | (simp [*, errW_none, errW_some] <;> rfl), by repeat (first | (with_reducible first | exact HB.out | apply zJ | apply zG | apply zI | refine zE ?_ GE466.out) | exact HB.out)⟩
    rw [if_pos c12] at H; have c12b0 : decide (x19_1 < (y468.length : Int)) = true := decide_eq_true c12
    clear c12; by_cases c13 : 0 ≤ x19_1
    rotate_left
    · rw [if_neg c13] at H
      exact absurd H (by simp)
    rw [if_pos c13] at H; have c13b0 : decide (0 ≤ x19_1) = true := decide_eq_true c13
    clear c13; by_cases c14 : x19_1 < (y468.length : Int)
    rotate_left
    · rw [if_neg c14] at H
      exact absurd H (by simp)
    rw [if_pos c14] at H; have c14b0 : decide (x19_1 < (y468.length : Int)) = true := decide_eq_true c14
    clear c14; by_cases c15 : ((rd_T62 y468 x19_1).f3) = 1
    · rw [if_pos c15] at H
      have c15b0 : (((rd_T62 y468 x19_1).f3) == 1) = true := beq_iff_eq.mpr c15
      have c15b1 : (((rd_T62 y468 x19_1).f3) != 1) = false := bne_eq_false_iff_eq.mpr c15
      clear c15; have H' := zC.mk H
      clear H; have p472 : 0 ≤ (x19_1 : Int) := of_decide_eq_true (by first | (with_reducible assumption) | assumption)
      have q472 : x19_1 < (y468.length : Int) := of_decide_eq_true (by first | (with_reducible assumption) | assumption)
      obtain ⟨ad472, e472, hx472_0, hx472_1, hx472_2, hx472_3⟩ := at_T62 HR471.out x19_1 p472 q472; cases e472
      replace hx472_0 := (HB.out.cell (World.block_lt_of_cell? w _ hx472_0)).trans hx472_0; replace hx472_1 := (HB.out.cell (World.block_lt_of_cell? w _ hx472_1)).trans hx472_1; replace hx472_2 := (HB.out.cell (World.block_lt_of_cell? w _ hx472_2)).trans hx472_2; replace hx472_3 := (HB.out.cell (World.block_lt_of_cell? w _ hx472_3)).trans hx472_3; replace p472 := eq_true p472; replace q472 := eq_true q472; go_wp2_with (first | ((with_reducible refine gate_dst (N := 9) rfl ?_); refine box_event ?hg (N := 9) ?hd (cs := #[.int .i64 0, .int .i64 0, .int .i64 0, .int .u8 0]) (t := 62) ?hr ?_; (case hd => rfl); (case hg => rfl); (case hr => first | (go_simp; done) | (go_simp; rfl)); intro gb473 hg w16 hbox hb; have n0_ := zC.mk (zK (by (with_reducible repeat (first | refine zB ?_ _ | refine zD ?_ | refine zA ?_ _)); exact BK466.out) hb); have n1_ := zC.mk (below_step (by repeat (first | (with_reducible first | exact HB.out | apply zJ | apply zG | apply zI | refine zE ?_ GE466.out) | exact HB.out)) hb); have n2_ := zC.mk (hbox); have n3_ := zC.mk ((by rw [hg]; exact (below_size (by repeat (first | (with_reducible first | exact HB.out | apply zJ | apply zG | apply zI | refine zE ?_ GE466.out) | exact HB.out))) : w.heap.size ≤ gb473)); have n4_ := n3_; have n5_ := zC.mk ((by rw [hg]; exact Nat.ne_of_lt (blk_lt (by (with_reducible repeat (first | refine zB ?_ _ | refine zD ?_ | refine zA ?_ _)); exact BK466.out)) : gb466 ≠ gb473)); have n6_ := zC.mk n5_.out.symm; clear BK466; clear HB; have BK466 := n0_; have HB := n1_; have BK473 := n2_; have GW473 := n3_; have GE473 := n4_; have NB466_473 := n5_; have NB473_466 := n6_; clear n0_ n1_ n2_ n3_ n4_ n5_ n6_; clear hb hbox hg; have hnb17 := NB473_466.out; have hnc17 := NB466_473.out; have hcz18_0 : w16.cell? ⟨gb473, 0, none⟩ = some (.int .i64 0) := (zH BK473.out 0).trans rfl; have hcz18_1 : w16.cell? ⟨gb473, 1, none⟩ = some (.int .i64 0) := (zH BK473.out 1).trans rfl; have hcz18_2 : w16.cell? ⟨gb473, 2, none⟩ = some (.int .i64 0) := (zH BK473.out 2).trans rfl; have hcz18_3 : w16.cell? ⟨gb473, 3, none⟩ = some (.int .u8 0) := (zH BK473.out 3).trans rfl; have hfz18_0 := zF BK473.out 0; have hfz18_1 := zF BK473.out 1; have hfz18_2 := zF BK473.out 2; have hfz18_3 := zF BK473.out 3) | ((with_reducible refine gate_store (t := 62) (p := 9) rfl ?_); refine store_event (t := 62) (p := 9) (v := ?vo_w19) (w1 := ((((w16.setCell ⟨gb473, 0, none⟩ (.int .i64 ((rd_T62 y468 x19_1).f0))).setCell ⟨gb473, 1, none⟩ (.int .i64 ((rd_T62 y468 x19_1).f1))).setCell ⟨gb473, 2, none⟩ (.int .i64 ((rd_T62 y468 x19_1).f2))).setCell ⟨gb473, 3, none⟩ (.int .u8 ((rd_T62 y468 x19_1).f3)))) ?hg ?ho ?hn ?hr ?_; (case ho => rfl); (case hg => rfl); (case hn => rfl); (case hr => first | (go_simp; done) | (go_simp; rfl)); intro w19 hw; have n0_ : zC (w19.heap[gb466]? = some (.cells #[.slice A0_0 l0_0.length c0_0, .slice A0_1 l0_1.length c0_1] 31 (0, 0))) := ⟨(by rw [hw]; exact (by (with_reducible repeat (first | refine zB ?_ _ | refine zD ?_ | refine zA ?_ _)); refine zL ?_ NB466_473.out _; (with_reducible repeat (first | refine zB ?_ _ | refine zD ?_ | refine zA ?_ _)); refine zL ?_ NB466_473.out _; (with_reducible repeat (first | refine zB ?_ _ | refine zD ?_ | refine zA ?_ _)); refine zL ?_ NB466_473.out _; (with_reducible repeat (first | refine zB ?_ _ | refine zD ?_ | refine zA ?_ _)); refine zL ?_ NB466_473.out _; (with_reducible repeat (first | refine zB ?_ _ | refine zD ?_ | refine zA ?_ _)); exact BK466.out))⟩; have n1_ : zC (w19.heap[gb473]? = some (.cells #[.int .i64 ((rd_T62 y468 x19_1).f0), .int .i64 ((rd_T62 y468 x19_1).f1), .int .i64 ((rd_T62 y468 x19_1).f2), .int .u8 ((rd_T62 y468 x19_1).f3)] 62 (0, 0))) := ⟨(by rw [hw]; exact (by (with_reducible repeat (first | refine zB ?_ _ | refine zD ?_ | refine zA ?_ _)); refine blk_put (cs := #[.int .i64 ((rd_T62 y468 x19_1).f0), .int .i64 ((rd_T62 y468 x19_1).f1), .int .i64 ((rd_T62 y468 x19_1).f2), .int .u8 0]) ?_ 3 _ rfl; (with_reducible repeat (first | refine zB ?_ _ | refine zD ?_ | refine zA ?_ _)); refine blk_put (cs := #[.int .i64 ((rd_T62 y468 x19_1).f0), .int .i64 ((rd_T62 y468 x19_1).f1), .int .i64 0, .int .u8 0]) ?_ 2 _ rfl; (with_reducible repeat (first | refine zB ?_ _ | refine zD ?_ | refine zA ?_ _)); refine blk_put (cs := #[.int .i64 ((rd_T62 y468 x19_1).f0), .int .i64 0, .int .i64 0, .int .u8 0]) ?_ 1 _ rfl; (with_reducible repeat (first | refine zB ?_ _ | refine zD ?_ | refine zA ?_ _)); refine blk_put (cs := #[.int .i64 0, .int .i64 0, .int .i64 0, .int .u8 0]) ?_ 0 _ rfl; (with_reducible repeat (first | refine zB ?_ _ | refine zD ?_ | refine zA ?_ _)); exact BK473.out))⟩; have n2_ : zC (Below w.heap.size w w19) := ⟨(by rw [hw]; exact (by repeat (first | (with_reducible first | exact HB.out | apply zJ | apply zG | apply zI | refine zE ?_ GE466.out | refine zE ?_ GE473.out) | exact HB.out)))⟩; clear hw; clear BK466; clear BK473; clear HB; have BK466 := n0_; have BK473 := n1_; have HB := n2_; clear n0_ n1_ n2_; have hcz20_0 : w19.cell? ⟨gb473, 0, none⟩ = some (.int .i64 ((rd_T62 y468 x19_1).f0)) := (zH BK473.out 0).trans rfl; have hcz20_1 : w19.cell? ⟨gb473, 1, none⟩ = some (.int .i64 ((rd_T62 y468 x19_1).f1)) := (zH BK473.out 1).trans rfl; have hcz20_2 : w19.cell? ⟨gb473, 2, none⟩ = some (.int .i64 ((rd_T62 y468 x19_1).f2)) := (zH BK473.out 2).trans rfl; have hcz20_3 : w19.cell? ⟨gb473, 3, none⟩ = some (.int .u8 ((rd_T62 y468 x19_1).f3)) := (zH BK473.out 3).trans rfl; have hfz20_0 := zF BK473.out 0; have hfz20_1 := zF BK473.out 1; have hfz20_2 := zF BK473.out 2; have hfz20_3 := zF BK473.out 3))
      go_roundg k1
      case measure => have := HK1.out; omega
      case rel => exact ⟨(wrap64 (x7_1 + 1)), (wrap64 (x19_1 + 1)), (by first | rfl | (simp; done) | (simp [*]; done)), (by first | rfl | (simp; done) | (simp [*]; done)), H', ⟨by have := HK1.out; omega⟩, ⟨by (with_reducible repeat (first | refine zB ?_ _ | refine zD ?_ | refine zA ?_ _)); exact BK466.out⟩, ⟨by repeat (first | (with_reducible first | exact HB.out | apply zJ | apply zG | apply zI | refine zE ?_ GE466.out | refine zE ?_ GE473.out) | exact HB.out)⟩⟩
    rw [if_neg c15] at H; have c15b0 : (((rd_T62 y468 x19_1).f3) == 1) = false := beq_eq_false_iff_ne.mpr c15
    have c15b1 : (((rd_T62 y468 x19_1).f3) != 1) = true := bne_iff_ne.mpr c15
    have H' := zC.mk H
    clear H; have p472 : 0 ≤ (x19_1 : Int) := of_decide_eq_true (by first | (with_reducible assumption) | assumption)
    have q472 : x19_1 < (y468.length : Int) := of_decide_eq_true (by first | (with_reducible assumption) | assumption)
    obtain ⟨ad472, e472, hx472_0, hx472_1, hx472_2, hx472_3⟩ := at_T62 HR471.out x19_1 p472 q472; cases e472
    replace hx472_0 := (HB.out.cell (World.block_lt_of_cell? w _ hx472_0)).trans hx472_0; replace hx472_1 := (HB.out.cell (World.block_lt_of_cell? w _ hx472_1)).trans hx472_1; replace hx472_2 := (HB.out.cell (World.block_lt_of_cell? w _ hx472_2)).trans hx472_2; replace hx472_3 := (HB.out.cell (World.block_lt_of_cell? w _ hx472_3)).trans hx472_3; replace p472 := eq_true p472; replace q472 := eq_true q472; go_wp2_with (first | ((with_reducible refine gate_dst (N := 9) rfl ?_); refine box_event ?hg (N := 9) ?hd (cs := #[.int .i64 0, .int .i64 0, .int .i64 0, .int .u8 0]) (t := 62) ?hr ?_; (case hd => rfl); (case hg => rfl); (case hr => first | (go_simp; done) | (go_simp; rfl)); intro gb473 hg w21 hbox hb; have n0_ := zC.mk (zK (by (with_reducible repeat (first | refine zB ?_ _ | refine zD ?_ | refine zA ?_ _)); exact BK466.out) hb); have n1_ := zC.mk (below_step (by repeat (first | (with_reducible first | exact HB.out | apply zJ | apply zG | apply zI | refine zE ?_ GE466.out) | exact HB.out)) hb); have n2_ := zC.mk (hbox); have n3_ := zC.mk ((by rw [hg]; exact (below_size (by repeat (first | (with_reducible first | exact HB.out | apply zJ | apply zG | apply zI | refine zE ?_ GE466.out) | exact HB.out))) : w.heap.size ≤ gb473)); have n4_ := n3_; have n5_ := zC.mk ((by rw [hg]; exact Nat.ne_of_lt (blk_lt (by (with_reducible repeat (first | refine zB ?_ _ | refine zD ?_ | refine zA ?_ _)); exact BK466.out)) : gb466 ≠ gb473)); have n6_ := zC.mk n5_.out.symm; clear BK466; clear HB; have BK466 := n0_; have HB := n1_; have BK473 := n2_; have GW473 := n3_; have GE473 := n4_; have NB466_473 := n5_; have NB473_466 := n6_; clear n0_ n1_ n2_ n3_ n4_ n5_ n6_; clear hb hbox hg; have hnb22 := NB473_466.out; have hnc22 := NB466_473.out; have hcz23_0 : w21.cell? ⟨gb473, 0, none⟩ = some (.int .i64 0) := (zH BK473.out 0).trans rfl; have hcz23_1 : w21.cell? ⟨gb473, 1, none⟩ = some (.int .i64 0) := (zH BK473.out 1).trans rfl; have hcz23_2 : w21.cell? ⟨gb473, 2, none⟩ = some (.int .i64 0) := (zH BK473.out 2).trans rfl; have hcz23_3 : w21.cell? ⟨gb473, 3, none⟩ = some (.int .u8 0) := (zH BK473.out 3).trans rfl; have hfz23_0 := zF BK473.out 0; have hfz23_1 := zF BK473.out 1; have hfz23_2 := zF BK473.out 2; have hfz23_3 := zF BK473.out 3) | ((with_reducible refine gate_store (t := 62) (p := 9) rfl ?_); refine store_event (t := 62) (p := 9) (v := ?vo_w24) (w1 := ((((w21.setCell ⟨gb473, 0, none⟩ (.int .i64 ((rd_T62 y468 x19_1).f0))).setCell ⟨gb473, 1, none⟩ (.int .i64 ((rd_T62 y468 x19_1).f1))).setCell ⟨gb473, 2, none⟩ (.int .i64 ((rd_T62 y468 x19_1).f2))).setCell ⟨gb473, 3, none⟩ (.int .u8 ((rd_T62 y468 x19_1).f3)))) ?hg ?ho ?hn ?hr ?_; (case ho => rfl); (case hg => rfl); (case hn => rfl); (case hr => first | (go_simp; done) | (go_simp; rfl)); intro w24 hw; have n0_ : zC (w24.heap[gb466]? = some (.cells #[.slice A0_0 l0_0.length c0_0, .slice A0_1 l0_1.length c0_1] 31 (0, 0))) := ⟨(by rw [hw]; exact (by (with_reducible repeat (first | refine zB ?_ _ | refine zD ?_ | refine zA ?_ _)); refine zL ?_ NB466_473.out _; (with_reducible repeat (first | refine zB ?_ _ | refine zD ?_ | refine zA ?_ _)); refine zL ?_ NB466_473.out _; (with_reducible repeat (first | refine zB ?_ _ | refine zD ?_ | refine zA ?_ _)); refine zL ?_ NB466_473.out _; (with_reducible repeat (first | refine zB ?_ _ | refine zD ?_ | refine zA ?_ _)); refine zL ?_ NB466_473.out _; (with_reducible repeat (first | refine zB ?_ _ | refine zD ?_ | refine zA ?_ _)); exact BK466.out))⟩; have n1_ : zC (w24.heap[gb473]? = some (.cells #[.int .i64 ((rd_T62 y468 x19_1).f0), .int .i64 ((rd_T62 y468 x19_1).f1), .int .i64 ((rd_T62 y468 x19_1).f2), .int .u8 ((rd_T62 y468 x19_1).f3)] 62 (0, 0))) := ⟨(by rw [hw]; exact (by (with_reducible repeat (first | refine zB ?_ _ | refine zD ?_ | refine zA ?_ _)); refine blk_put (cs := #[.int .i64 ((rd_T62 y468 x19_1).f0), .int .i64 ((rd_T62 y468 x19_1).f1), .int .i64 ((rd_T62 y468 x19_1).f2), .int .u8 0]) ?_ 3 _ rfl; (with_reducible repeat (first | refine zB ?_ _ | refine zD ?_ | refine zA ?_ _)); refine blk_put (cs := #[.int .i64 ((rd_T62 y468 x19_1).f0), .int .i64 ((rd_T62 y468 x19_1).f1), .int .i64 0, .int .u8 0]) ?_ 2 _ rfl; (with_reducible repeat (first | refine zB ?_ _ | refine zD ?_ | refine zA ?_ _)); refine blk_put (cs := #[.int .i64 ((rd_T62 y468 x19_1).f0), .int .i64 0, .int .i64 0, .int .u8 0]) ?_ 1 _ rfl; (with_reducible repeat (first | refine zB ?_ _ | refine zD ?_ | refine zA ?_ _)); refine blk_put (cs := #[.int .i64 0, .int .i64 0, .int .i64 0, .int .u8 0]) ?_ 0 _ rfl; (with_reducible repeat (first | refine zB ?_ _ | refine zD ?_ | refine zA ?_ _)); exact BK473.out))⟩; have n2_ : zC (Below w.heap.size w w24) := ⟨(by rw [hw]; exact (by repeat (first | (with_reducible first | exact HB.out | apply zJ | apply zG | apply zI | refine zE ?_ GE466.out | refine zE ?_ GE473.out) | exact HB.out)))⟩; clear hw; clear BK466; clear BK473; clear HB; have BK466 := n0_; have BK473 := n1_; have HB := n2_; clear n0_ n1_ n2_; have hcz25_0 : w24.cell? ⟨gb473, 0, none⟩ = some (.int .i64 ((rd_T62 y468 x19_1).f0)) := (zH BK473.out 0).trans rfl; have hcz25_1 : w24.cell? ⟨gb473, 1, none⟩ = some (.int .i64 ((rd_T62 y468 x19_1).f1)) := (zH BK473.out 1).trans rfl; have hcz25_2 : w24.cell? ⟨gb473, 2, none⟩ = some (.int .i64 ((rd_T62 y468 x19_1).f2)) := (zH BK473.out 2).trans rfl; have hcz25_3 : w24.cell? ⟨gb473, 3, none⟩ = some (.int .u8 ((rd_T62 y468 x19_1).f3)) := (zH BK473.out 3).trans rfl; have hfz25_0 := zF BK473.out 0; have hfz25_1 := zF BK473.out 1; have hfz25_2 := zF BK473.out 2; have hfz25_3 := zF BK473.out 3))
    go_roundg k1
    case measure => have := HK1.out; omega
    case rel => exact ⟨(x7_1), (wrap64 (x19_1 + 1)), (by first | rfl | (simp; done) | (simp [*]; done)), (by first | rfl | (simp; done) | (simp [*]; done)), H', ⟨by have := HK1.out; omega⟩, ⟨by (with_reducible repeat (first | refine zB ?_ _ | refine zD ?_ | refine zA ?_ _)); exact BK466.out⟩, ⟨by repeat (first | (with_reducible first | exact HB.out | apply zJ | apply zG | apply zI | refine zE ?_ GE466.out | refine zE ?_ GE473.out) | exact HB.out)⟩⟩
def best_Cost.j0 : Nat → Int → Int → Bool → Int → Bool → List (S62) → List Int → Int → Int → Int → Int → Int → Nat → Option (Int × Bool)
  | 0, _, _, _, _, _, _, _, _, _, _, _, _, _ => none
  | k + 1, x1, x2, x3, x12, x26, x475000, x475001, x476000, x476001, x476002, x476003, x476004, x476005 => if x26 = true then (some (0, false)) else ((span_Cells.f k x475000 x475001 x1 x2 x12 x476001).bind fun t478 => ((span_Gaps.f k x475000 x475001 x1 x2).bind fun t479 => ((best_price.f k x475000 x475001 x1 x12 t478 t479 x3 x476000 x476001 x476002 x476003 x476004 x476005).bind fun bt480 => (some (bt480.1, bt480.2)))))
def best_Cost.f (k : Nat) (l0_0 : List (S62)) (l0_1 : List Int) (a1 : Int) (a2 : Int) (a3 : Bool) (a4_0 : Int) (a4_1 : Int) (a4_2 : Int) (a4_3 : Int) (a4_4 : Int) (a4_5 : Nat) : Option (Int × Bool) := (span_Ends.f l0_0 l0_1 a2).bind fun bt476 => (if bt476.2 = true then (best_Cost.j0 k a1 a2 a3 bt476.1 (decide (a2 ≤ a1)) l0_0 l0_1 a4_0 a4_1 a4_2 a4_3 a4_4 a4_5) else (best_Cost.j0 k a1 a2 a3 bt476.1 true l0_0 l0_1 a4_0 a4_1 a4_2 a4_3 a4_4 a4_5))
theorem best_Cost.mono_l : ∀ k, (∀ y0 y1 y2 y3 y4 y5 y6 y7 y8 y9 y10 y11 y12, LeO (best_Cost.j0 k y0 y1 y2 y3 y4 y5 y6 y7 y8 y9 y10 y11 y12) (best_Cost.j0 (k + 1) y0 y1 y2 y3 y4 y5 y6 y7 y8 y9 y10 y11 y12))
  | 0 => fun _ _ _ _ _ _ _ _ _ _ _ _ _ r h => by simp [best_Cost.j0] at h
  | k + 1 => by
    have ih0 := best_Cost.mono_l k
    · intro y0 y1 y2 y3 y4 y5 y6 y7 y8 y9 y10 y11 y12
      unfold best_Cost.j0
      repeat' (with_reducible first | exact ih0 _ _ _ _ _ _ _ _ _ _ _ _ _ | exact best_price.mono _ _ _ _ _ _ _ _ _ _ _ _ _ _ | exact span_Cells.mono _ _ _ _ _ _ _ | exact span_Gaps.mono _ _ _ _ _ | exact LeO.refl _ | exact LeO.none _ | refine LeO.ite ?_ ?_ | refine LeO.bind ?_ (fun _ => ?_))
theorem best_Cost.mono : ∀ a0 a1 a2 a3 a4 a5 a6 a7 a8 a9 a10 k, LeO (best_Cost.f k a0 a1 a2 a3 a4 a5 a6 a7 a8 a9 a10) (best_Cost.f (k + 1) a0 a1 a2 a3 a4 a5 a6 a7 a8 a9 a10) := by
  intro a0 a1 a2 a3 a4 a5 a6 a7 a8 a9 a10 k
  have ih0 := best_Cost.mono_l k; unfold best_Cost.f
  repeat' (with_reducible first | exact ih0 _ _ _ _ _ _ _ _ _ _ _ _ _ | exact best_price.mono _ _ _ _ _ _ _ _ _ _ _ _ _ _ | exact span_Cells.mono _ _ _ _ _ _ _ | exact span_Gaps.mono _ _ _ _ _ | exact LeO.refl _ | exact LeO.none _ | refine LeO.ite ?_ ?_ | refine LeO.bind ?_ (fun _ => ?_))
def best_Cost.T4 : Bool × List (List Nat × List Nat) := (true, [([], []), ([], []), ([], []), ([], []), ([], []), ([], []), ([], []), ([], []), ([7], [7]), ([3, 4, 5, 6, 8], [3, 4, 5, 6, 8]), ([], []), ([], []), ([], []), ([10, 11, 12, 9], [10, 11, 12]), ([], []), ([], []), ([0, 1, 2, 9, 13, 14, 15, 13], [0, 1, 2, 9, 13, 14, 15]), ([16], [16]), ([16], [16]), ([17, 16, 0, 1, 2, 3, 4, 5, 6, 7, 8, 9, 10, 11, 12, 13, 14, 15, 16, 17, 18], [17]), ([18, 19, 0, 1, 2, 3, 4, 5, 6, 7, 8, 9, 10, 11, 12, 13, 14, 15, 16, 17, 18, 19], [18])])
def best_Cost.B4 : List Nat := [0, 0, 0, 0, 0, 0, 0, 0, 128, 504, 0, 0, 0, 8184, 0, 0, 65535, 131071, 131071, 524287, 1048575]
theorem best_Cost.tab4 : rtab .any (opsOf Try.f19 4) = best_Cost.T4 := by kernel_rfl
theorem best_Cost.bits4 : waitsOk best_Cost.T4.2 best_Cost.B4 = true := by kernel_rfl
set_option maxHeartbeats 8000000 in
set_option maxRecDepth 100000 in
theorem best_Cost.calls (k : Nat) (A0_0 : Option Addr) (c0_0 : Nat) (l0_0 : List (S62)) (A0_1 : Option Addr) (c0_1 : Nat) (l0_1 : List Int) (a1 : Int) (a2 : Int) (a3 : Bool) (a4_0 : Int) (a4_1 : Int) (a4_2 : Int) (a4_3 : Int) (a4_4 : Int) (a4_5 : Nat) (r1 : Int) (r2 : Bool) (w : World) (hr0_0 : Kd.C k62 w A0_0 l0_0.length l0_0) (hc0_0 : l0_0.length ≤ c0_0) (hr0_1 : Kd.C (Kd.int .u8) w A0_1 l0_1.length l0_1) (hc0_1 : l0_1.length ≤ c0_1) (h : best_Cost.f k l0_0 l0_1 a1 a2 a3 a4_0 a4_1 a4_2 a4_3 a4_4 a4_5 = some (r1, r2)) :
    Calls Try.prog 19 #[.agg #[.slice A0_0 l0_0.length c0_0, .slice A0_1 l0_1.length c0_1], .int .i64 a1, .int .i64 a2, .bool a3, .agg #[.int .i64 a4_0, .int .i64 a4_1, .int .u8 a4_2, .int .i64 a4_3, .int .i64 a4_4, .float .f64 a4_5]] w fun e w' => e = .returned (.tuple #[.int .i64 r1, .bool r2]) ∧ Below w.heap.size w w' := by
  have hu31 := Try.underlying31; have hu35 := Try.underlying35; have HR0_0 := zC.mk hr0_0; have HC0_0 := zC.mk hc0_0; clear hr0_0 hc0_0; have HR0_1 := zC.mk hr0_1; have HC0_1 := zC.mk hc0_1; clear hr0_1 hc0_1; have HB := zC.mk (Below.refl w.heap.size w); have H : ((span_Ends.f l0_0 l0_1 a2).bind fun bt476 => (if bt476.2 = true then (best_Cost.j0 k a1 a2 a3 bt476.1 (decide (a2 ≤ a1)) l0_0 l0_1 a4_0 a4_1 a4_2 a4_3 a4_4 a4_5) else (best_Cost.j0 k a1 a2 a3 bt476.1 true l0_0 l0_1 a4_0 a4_1 a4_2 a4_3 a4_4 a4_5))) = some (r1, r2) := h
  clear h; replace H := Option.bind_eq_some_iff.mp H; obtain ⟨⟨t476, t477⟩, A60, H⟩ := H; replace H : (if t477 = true then (best_Cost.j0 k a1 a2 a3 t476 (decide (a2 ≤ a1)) l0_0 l0_1 a4_0 a4_1 a4_2 a4_3 a4_4 a4_5) else (best_Cost.j0 k a1 a2 a3 t476 true l0_0 l0_1 a4_0 a4_1 a4_2 a4_3 a4_4 a4_5)) = some (r1, r2) := H; have A6 := zC.mk A60; clear A60; have HC7 := zC.mk H; clear H; go_enter Try.func19, Try.ntmps19
  go_upto_region 2 with (first | ((with_reducible refine gate_dst (N := 5) rfl ?_); refine box_event ?hg (N := 5) ?hd (cs := #[.slice A0_0 l0_0.length c0_0, .slice A0_1 l0_1.length c0_1]) (t := 31) ?hr ?_; (case hd => rfl); (case hg => rfl); (case hr => first | (go_simp; done) | (go_simp; rfl)); intro gb474 hg w8 hbox hb; have n0_ := zC.mk (below_step (by repeat (first | (with_reducible first | exact HB.out | apply zJ | apply zG | apply zI) | exact HB.out)) hb); have n1_ := zC.mk (hbox); have n2_ := zC.mk ((by rw [hg]; exact (below_size (by repeat (first | (with_reducible first | exact HB.out | apply zJ | apply zG | apply zI) | exact HB.out))) : w.heap.size ≤ gb474)); have n3_ := n2_; clear HB; have HB := n0_; have BK474 := n1_; have GW474 := n2_; have GE474 := n3_; clear n0_ n1_ n2_ n3_; clear hb hbox hg) | ((with_reducible refine gate_dst (N := 9) rfl ?_); refine box_event ?hg (N := 9) ?hd (cs := #[.int .i64 a4_0, .int .i64 a4_1, .int .u8 a4_2, .int .i64 a4_3, .int .i64 a4_4, .float .f64 a4_5]) (t := 35) ?hr ?_; (case hd => rfl); (case hg => rfl); (case hr => first | (go_simp; done) | (go_simp; rfl)); intro gb475 hg w9 hbox hb; have n0_ := zC.mk (zK (by (with_reducible repeat (first | refine zB ?_ _ | refine zD ?_ | refine zA ?_ _)); exact BK474.out) hb); have n1_ := zC.mk (below_step (by repeat (first | (with_reducible first | exact HB.out | apply zJ | apply zG | apply zI | refine zE ?_ GE474.out) | exact HB.out)) hb); have n2_ := zC.mk (hbox); have n3_ := zC.mk ((by rw [hg]; exact (below_size (by repeat (first | (with_reducible first | exact HB.out | apply zJ | apply zG | apply zI | refine zE ?_ GE474.out) | exact HB.out))) : w.heap.size ≤ gb475)); have n4_ := n3_; have n5_ := zC.mk ((by rw [hg]; exact Nat.ne_of_lt (blk_lt (by (with_reducible repeat (first | refine zB ?_ _ | refine zD ?_ | refine zA ?_ _)); exact BK474.out)) : gb474 ≠ gb475)); have n6_ := zC.mk n5_.out.symm; clear BK474; clear HB; have BK474 := n0_; have HB := n1_; have BK475 := n2_; have GW475 := n3_; have GE475 := n4_; have NB474_475 := n5_; have NB475_474 := n6_; clear n0_ n1_ n2_ n3_ n4_ n5_ n6_; clear hb hbox hg; have hnb10 := NB474_475.out; have hnc10 := NB475_474.out; have hcz11_0 : w9.cell? ⟨gb474, 0, none⟩ = some (.slice A0_0 l0_0.length c0_0) := (zH BK474.out 0).trans rfl; have hcz11_1 : w9.cell? ⟨gb474, 1, none⟩ = some (.slice A0_1 l0_1.length c0_1) := (zH BK474.out 1).trans rfl; have hfz11_0 := zF BK474.out 0; have hfz11_1 := zF BK474.out 1) | ((with_reducible refine gate_callee (f := 30) rfl ?_); refine goesL_ (some 17) rfl rfl Try.func30 (by kernel_rfl) rfl #[.agg #[.slice A0_0 l0_0.length c0_0, .slice A0_1 l0_1.length c0_1], .int .i64 a2] rfl (by (try simp only [List.map_toArray, List.map_cons, List.map_nil]); first | done | rfl | (simp only [List.length_drop, List.length_take]; rfl)) ?_; (with_reducible refine (span_Ends.calls _ _ l0_0 _ _ l0_1 a2 t476 t477 _ ?side1 ?side2 ?side3 ?side4 A6.out).mono ?_); (case side1 => repeat (first | exact (Kd.zS HR0_0.out HB.out) | (with_reducible refine Kd.zP ?_ _) | (with_reducible refine Kd.zQ ?_ _) | (with_reducible refine Kd.zR ?_))); (case side2 => exact HC0_0.out); (case side3 => repeat (first | exact (Kd.zS HR0_1.out HB.out) | (with_reducible refine Kd.zP ?_ _) | (with_reducible refine Kd.zQ ?_ _) | (with_reducible refine Kd.zR ?_))); (case side4 => exact HC0_1.out); rintro e w12 ⟨rfl, hb⟩; refine ⟨_, rfl, ?_⟩; replace BK474 := zC.mk (zK (by (with_reducible repeat (first | refine zB ?_ _ | refine zD ?_ | refine zA ?_ _)); exact BK474.out) hb); replace BK475 := zC.mk (zK (by (with_reducible repeat (first | refine zB ?_ _ | refine zD ?_ | refine zA ?_ _)); exact BK475.out) hb); replace HB := zC.mk (below_step (by repeat (first | (with_reducible first | exact HB.out | apply zJ | apply zG | apply zI | refine zE ?_ GE474.out | refine zE ?_ GE475.out) | exact HB.out)) hb); (try clear hb); (try clear hb2); (try clear hk); (try clear hi)))
  (try simp only [Act.put, sA_, sB_, sC_])
  go_cut [26] (fun v26 wc => ∃ (kq : Nat) (x26_6 : Bool), v26 = .bool x26_6 ∧ zC (best_Cost.j0 kq a1 a2 a3 t476 x26_6 l0_0 l0_1 a4_0 a4_1 a4_2 a4_3 a4_4 a4_5 = some (r1, r2)) ∧ zC (kq ≤ k) ∧ zC (wc.heap[gb474]? = some (.cells #[(.slice A0_0 l0_0.length c0_0), (.slice A0_1 l0_1.length c0_1)] 31 (0, 0))) ∧ zC (wc.heap[gb475]? = some (.cells #[.int .i64 a4_0, .int .i64 a4_1, .int .u8 a4_2, .int .i64 a4_3, .int .i64 a4_4, .float .f64 a4_5] 35 (0, 0))) ∧ zC (Below w.heap.size w wc))
  case first =>
    have H := HC7.out; clear HC7; by_cases c13 : t477 = true
    · subst c13
      have H1 : (best_Cost.j0 k a1 a2 a3 t476 (decide (a2 ≤ a1)) l0_0 l0_1 a4_0 a4_1 a4_2 a4_3 a4_4 a4_5) = some (r1, r2) := by rw [if_pos rfl] at H; exact H
      clear H; have H := H1; clear H1; have H' := zC.mk H
      clear H; go_wp2
      go_meet
      case rel => exact ⟨_, (decide (a2 ≤ a1)), (by first | rfl | (simp; done) | (simp [*]; done)), H', ⟨by first | omega | exact Nat.le_refl _⟩, ⟨by (with_reducible repeat (first | refine zB ?_ _ | refine zD ?_ | refine zA ?_ _)); exact BK474.out⟩, ⟨by (with_reducible repeat (first | refine zB ?_ _ | refine zD ?_ | refine zA ?_ _)); exact BK475.out⟩, ⟨by repeat (first | (with_reducible first | exact HB.out | apply zJ | apply zG | apply zI | refine zE ?_ GE474.out | refine zE ?_ GE475.out) | exact HB.out)⟩⟩
    replace c13 := Bool.eq_false_iff.mpr c13; subst c13; have H1 : (best_Cost.j0 k a1 a2 a3 t476 true l0_0 l0_1 a4_0 a4_1 a4_2 a4_3 a4_4 a4_5) = some (r1, r2) := by rw [if_neg (show ¬ (false = true) by decide)] at H; exact H
    clear H; have H := H1; clear H1; have H' := zC.mk H
    clear H; go_wp2
    go_meet
    case rel => exact ⟨_, (true), (by first | rfl | (simp; done) | (simp [*]; done)), H', ⟨by first | omega | exact Nat.le_refl _⟩, ⟨by (with_reducible repeat (first | refine zB ?_ _ | refine zD ?_ | refine zA ?_ _)); exact BK474.out⟩, ⟨by (with_reducible repeat (first | refine zB ?_ _ | refine zD ?_ | refine zA ?_ _)); exact BK475.out⟩, ⟨by repeat (first | (with_reducible first | exact HB.out | apply zJ | apply zG | apply zI | refine zE ?_ GE474.out | refine zE ?_ GE475.out) | exact HB.out)⟩⟩
  clear HC7; obtain ⟨kq, x26_6, rfl, HA, HJ6, BK474, BK475, HB⟩ := hcut; cases kq with
  | zero => exact absurd HA.out (by simp [best_Cost.j0])
  | succ kj6 =>
    have H := HA.out; clear HA; simp only [best_Cost.j0] at H; by_cases c14 : x26_6 = true
    · subst c14
      have H1 : (some (0, false)) = some (r1, r2) := by rw [if_pos rfl] at H; exact H
      clear H; have H := H1; clear H1; simp only [Option.some.injEq, Prod.mk.injEq] at H; obtain ⟨rfl, rfl⟩ := H; go_wp2
      go_ret2
      exact ⟨by first | rfl | (simp [errW_none, errW_some] <;> rfl) | (simp [*, errW_none, errW_some] <;> rfl), by repeat (first | (with_reducible first | exact HB.out | apply zJ | apply zG | apply zI | refine zE ?_ GE474.out | refine zE ?_ GE475.out) | exact HB.out)⟩
    replace c14 := Bool.eq_false_iff.mpr c14; subst c14; have H1 : ((span_Cells.f kj6 l0_0 l0_1 a1 a2 t476 a4_1).bind fun t478 => ((span_Gaps.f kj6 l0_0 l0_1 a1 a2).bind fun t479 => ((best_price.f kj6 l0_0 l0_1 a1 t476 t478 t479 a3 a4_0 a4_1 a4_2 a4_3 a4_4 a4_5).bind fun bt480 => (some (bt480.1, bt480.2))))) = some (r1, r2) := by rw [if_neg (show ¬ (false = true) by decide)] at H; exact H
    clear H; have H := H1; clear H1; replace H := Option.bind_eq_some_iff.mp H; obtain ⟨t478, A150, H⟩ := H; replace H : ((span_Gaps.f kj6 l0_0 l0_1 a1 a2).bind fun t479 => ((best_price.f kj6 l0_0 l0_1 a1 t476 t478 t479 a3 a4_0 a4_1 a4_2 a4_3 a4_4 a4_5).bind fun bt480 => (some (bt480.1, bt480.2)))) = some (r1, r2) := H
    have A15 := zC.mk A150; clear A150; replace H := Option.bind_eq_some_iff.mp H; obtain ⟨t479, A160, H⟩ := H; replace H : ((best_price.f kj6 l0_0 l0_1 a1 t476 t478 t479 a3 a4_0 a4_1 a4_2 a4_3 a4_4 a4_5).bind fun bt480 => (some (bt480.1, bt480.2))) = some (r1, r2) := H
    have A16 := zC.mk A160; clear A160; replace H := Option.bind_eq_some_iff.mp H; obtain ⟨⟨t480, t481⟩, A170, H⟩ := H; replace H : (some (t480, t481)) = some (r1, r2) := H; have A17 := zC.mk A170; clear A170; simp only [Option.some.injEq, Prod.mk.injEq] at H; obtain ⟨rfl, rfl⟩ := H; try go_wp2
    replace BK474 := zC.mk (zD BK474.out); replace BK475 := zC.mk (zD BK475.out); replace HB := zC.mk (zI HB.out); refine start_ (n := 21) (S := fun w' => w'.cell? ⟨gb474, 0, none⟩ = some (.slice A0_0 l0_0.length c0_0) ∧ w'.cell? ⟨gb474, 1, none⟩ = some (.slice A0_1 l0_1.length c0_1) ∧ w'.cell? ⟨gb475, 0, none⟩ = some (.int .i64 a4_0) ∧ w'.cell? ⟨gb475, 1, none⟩ = some (.int .i64 a4_1) ∧ w'.cell? ⟨gb475, 2, none⟩ = some (.int .u8 a4_2) ∧ w'.cell? ⟨gb475, 3, none⟩ = some (.int .i64 a4_3) ∧ w'.cell? ⟨gb475, 4, none⟩ = some (.int .i64 a4_4) ∧ w'.cell? ⟨gb475, 5, none⟩ = some (.float .f64 a4_5)) (ds := []) #[false, false, false, false, false, false, false, false, false, false, false, false, false, false, false, false, false, false, false, false, false] (by kernel_rfl) rfl rfl ⟨(zH BK474.out 0).trans rfl, (zH BK474.out 1).trans rfl, (zH BK475.out 0).trans rfl, (zH BK475.out 1).trans rfl, (zH BK475.out 2).trans rfl, (zH BK475.out 3).trans rfl, (zH BK475.out 4).trans rfl, (zH BK475.out 5).trans rfl⟩ (fun hHeld => ?_); refine with_tabW best_Cost.tab4 best_Cost.bits4 (fun HT_ HW_ => ?_)
    generalize wc.drew = w18 at BK474 BK475 HB hHeld ⊢
    refine pure_ (i := 1) (N := some 28) (v := ?_) (a' := ?_) (tb_ 2 21) rfl rfl (any_of HT_.out (by kernel_rfl)) (fun _ _ _ h => h) (Or.inl ⟨by rfl, ?_⟩) ?_ ?_
    rotate_left
    · intro w'
      go_simp
      with_reducible rfl
    rotate_left
    · simp only [Act.put, sA_, sB_, sC_, i64_w, i32_w]
      rfl
    refine pure_ (i := 2) (N := some 29) (v := ?_) (a' := ?_) (tb_ 6 21) rfl rfl (any_of HT_.out (by kernel_rfl)) (fun _ _ _ h => h) (Or.inl ⟨by rfl, ?_⟩) ?_ ?_
    rotate_left
    · intro w'
      go_simp
      with_reducible rfl
    rotate_left
    · simp only [Act.put, sA_, sB_, sC_, i64_w, i32_w]
      rfl
    refine pure_ (i := 4) (N := some 31) (v := ?_) (a' := ?_) (tb_ 22 21) rfl rfl (any_of HT_.out (by kernel_rfl)) (fun _ _ _ h => h) (Or.inl ⟨by rfl, ?_⟩) ?_ ?_
    rotate_left
    · intro w'
      go_simp
      with_reducible rfl
    rotate_left
    · simp only [Act.put, sA_, sB_, sC_, i64_w, i32_w]
      rfl
    refine pure_ (i := 5) (N := some 32) (v := ?_) (a' := ?_) (tb_ 54 21) rfl rfl (any_of HT_.out (by kernel_rfl)) (fun _ _ _ h => h) (Or.inl ⟨by rfl, ?_⟩) ?_ ?_
    rotate_left
    · intro w'
      go_simp
      with_reducible rfl
    rotate_left
    · simp only [Act.put, sA_, sB_, sC_, i64_w, i32_w]
      rfl
    refine pure_ (i := 6) (N := some 33) (v := ?_) (a' := ?_) (tb_ 118 21) rfl rfl (any_of HT_.out (by kernel_rfl)) (fun _ _ _ h => h) (Or.inl ⟨by rfl, ?_⟩) ?_ ?_
    rotate_left
    · intro w'
      go_simp
      with_reducible rfl
    rotate_left
    · simp only [Act.put, sA_, sB_, sC_, i64_w, i32_w]
      rfl
    refine pure_ (i := 7) (N := some 34) (v := ?_) (a' := ?_) (tb_ 246 21) rfl rfl (any_of HT_.out (by kernel_rfl)) (fun _ _ _ h => h) (Or.inl ⟨by rfl, ?_⟩) ?_ ?_
    rotate_left
    · intro w'
      go_simp
      with_reducible rfl
    rotate_left
    · simp only [Act.put, sA_, sB_, sC_, i64_w, i32_w]
      rfl
    refine pure_ (i := 11) (N := some 38) (v := ?_) (a' := ?_) (tb_ 2294 21) rfl rfl (any_of HT_.out (by kernel_rfl)) (fun _ _ _ h => h) (Or.inl ⟨by rfl, ?_⟩) ?_ ?_
    rotate_left
    · intro w'
      go_simp
      with_reducible rfl
    rotate_left
    · simp only [Act.put, sA_, sB_, sC_, i64_w, i32_w]
      rfl
    refine pure_ (i := 12) (N := some 39) (v := ?_) (a' := ?_) (tb_ 6390 21) rfl rfl (any_of HT_.out (by kernel_rfl)) (fun _ _ _ h => h) (Or.inl ⟨by rfl, ?_⟩) ?_ ?_
    rotate_left
    · intro w'
      go_simp
      with_reducible rfl
    rotate_left
    · simp only [Act.put, sA_, sB_, sC_, i64_w, i32_w]
      rfl
    refine pure_ (i := 14) (N := some 41) (v := ?_) (a' := ?_) (tb_ 22774 21) rfl rfl (any_of HT_.out (by kernel_rfl)) (fun _ _ _ h => h) (Or.inl ⟨by rfl, ?_⟩) ?_ ?_
    rotate_left
    · intro w'
      go_simp
      with_reducible rfl
    rotate_left
    · simp only [Act.put, sA_, sB_, sC_, i64_w, i32_w]
      rfl
    refine take_ (i := 0) (N := some 27) (v := ?_) (a' := ?_) (tb_ 22775 21) rfl rfl (take_ofW HT_.out HW_.out (by kernel_rfl)) (fun _ _ _ h => h) (Or.inl ⟨by rfl, ?_⟩) hHeld ?_ ?_
    rotate_left
    · rintro w' ⟨s0, s1, s2, s3, s4, s5, s6, s7⟩
      go_simp
      with_reducible rfl
    rotate_left
    · simp only [Act.put, sA_, sB_, sC_, i64_w, i32_w]
      rfl
    refine take_ (i := 3) (N := some 30) (v := ?_) (a' := ?_) (tb_ 22783 21) rfl rfl (take_ofW HT_.out HW_.out (by kernel_rfl)) (fun _ _ _ h => h) (Or.inl ⟨by rfl, ?_⟩) hHeld ?_ ?_
    rotate_left
    · rintro w' ⟨s0, s1, s2, s3, s4, s5, s6, s7⟩
      go_simp
      with_reducible rfl
    rotate_left
    · simp only [Act.put, sA_, sB_, sC_, i64_w, i32_w]
      rfl
    refine take_ (i := 8) (N := some 35) (v := ?_) (a' := ?_) (tb_ 23039 21) rfl rfl (take_ofW HT_.out HW_.out (by kernel_rfl)) (fun _ _ _ h => h) (Or.inl ⟨by rfl, ?_⟩) hHeld ?_ ?_
    rotate_left
    · rintro w' ⟨s0, s1, s2, s3, s4, s5, s6, s7⟩
      go_simp
      with_reducible rfl
    rotate_left
    · simp only [Act.put, sA_, sB_, sC_, i64_w, i32_w]
      rfl
    refine take_ (i := 10) (N := some 37) (v := ?_) (a' := ?_) (tb_ 24063 21) rfl rfl (take_ofW HT_.out HW_.out (by kernel_rfl)) (fun _ _ _ h => h) (Or.inl ⟨by rfl, ?_⟩) hHeld ?_ ?_
    rotate_left
    · rintro w' ⟨s0, s1, s2, s3, s4, s5, s6, s7⟩
      go_simp
      with_reducible rfl
    rotate_left
    · simp only [Act.put, sA_, sB_, sC_, i64_w, i32_w]
      rfl
    refine take_ (i := 15) (N := some 42) (v := ?_) (a' := ?_) (tb_ 56831 21) rfl rfl (take_ofW HT_.out HW_.out (by kernel_rfl)) (fun _ _ _ h => h) (Or.inl ⟨by rfl, ?_⟩) hHeld ?_ ?_
    rotate_left
    · rintro w' ⟨s0, s1, s2, s3, s4, s5, s6, s7⟩
      go_simp
      with_reducible rfl
    rotate_left
    · simp only [Act.put, sA_, sB_, sC_, i64_w, i32_w]
      rfl
    refine one_ (i := 9) (N := some 36) (tb_ 57343 21) rfl rfl (one_of HT_.out (by kernel_rfl)) (by decide) (fun K hK => ?_)
    refine goes_ Try.func32 (by kernel_rfl) rfl #[.agg #[.slice A0_0 l0_0.length c0_0, .slice A0_1 l0_1.length c0_1], .int .i64 a1, .int .i64 a2, .int .u8 t476, .int .i64 a4_1] (by rfl) rfl rfl (by (try simp only [List.map_toArray, List.map_cons, List.map_nil]); first | done | rfl | (simp only [List.length_drop, List.length_take]; rfl)) ?_
    with_reducible refine (span_Cells.calls kj6 _ _ l0_0 _ _ l0_1 a1 a2 t476 a4_1 t478 _ ?side1 ?side2 ?side3 ?side4 A15.out).mono ?_
    (case side1 => repeat (first | exact (Kd.zS HR0_0.out HB.out) | (with_reducible refine Kd.zP ?_ _) | (with_reducible refine Kd.zQ ?_ _) | (with_reducible refine Kd.zR ?_)))
    (case side2 => exact HC0_0.out)
    (case side3 => repeat (first | exact (Kd.zS HR0_1.out HB.out) | (with_reducible refine Kd.zP ?_ _) | (with_reducible refine Kd.zQ ?_ _) | (with_reducible refine Kd.zR ?_)))
    (case side4 => exact HC0_1.out)
    rintro e w19 ⟨rfl, hb⟩
    refine ⟨_, rfl, ?_⟩
    replace BK474 := zC.mk (zK (by (with_reducible repeat (first | refine zB ?_ _ | refine zD ?_ | refine zA ?_ _)); exact BK474.out) hb)
    replace BK475 := zC.mk (zK (by (with_reducible repeat (first | refine zB ?_ _ | refine zD ?_ | refine zA ?_ _)); exact BK475.out) hb)
    replace HB := zC.mk (below_step (by repeat (first | (with_reducible first | exact HB.out | apply zJ | apply zG | apply zI | refine zE ?_ GE474.out | refine zE ?_ GE475.out) | exact HB.out)) hb)
    (try clear hb)
    (try clear hb2)
    (try clear hk)
    (try clear hi)
    refine hK.out _ _ ⟨(zH BK474.out 0).trans rfl, (zH BK474.out 1).trans rfl, (zH BK475.out 0).trans rfl, (zH BK475.out 1).trans rfl, (zH BK475.out 2).trans rfl, (zH BK475.out 3).trans rfl, (zH BK475.out 4).trans rfl, (zH BK475.out 5).trans rfl⟩ (fun hHeld => ?_)
    clear hK K; refine norm_ (a' := ?_) ?_ ?_
    rotate_left
    · show Act.put _ (some 36) _ = _
      simp only [Act.put, sA_, sB_, sC_, i64_w, i32_w]; rfl
    refine one_ (i := 13) (N := some 40) (tb_ 65535 21) rfl rfl (one_of HT_.out (by kernel_rfl)) (by decide) (fun K hK => ?_)
    refine goes_ Try.func33 (by kernel_rfl) rfl #[.agg #[.slice A0_0 l0_0.length c0_0, .slice A0_1 l0_1.length c0_1], .int .i64 a1, .int .i64 a2] (by rfl) rfl rfl (by (try simp only [List.map_toArray, List.map_cons, List.map_nil]); first | done | rfl | (simp only [List.length_drop, List.length_take]; rfl)) ?_
    with_reducible refine (span_Gaps.calls kj6 _ _ l0_0 _ _ l0_1 a1 a2 t479 _ ?side1 ?side2 ?side3 ?side4 A16.out).mono ?_
    (case side1 => repeat (first | exact (Kd.zS HR0_0.out HB.out) | (with_reducible refine Kd.zP ?_ _) | (with_reducible refine Kd.zQ ?_ _) | (with_reducible refine Kd.zR ?_)))
    (case side2 => exact HC0_0.out)
    (case side3 => repeat (first | exact (Kd.zS HR0_1.out HB.out) | (with_reducible refine Kd.zP ?_ _) | (with_reducible refine Kd.zQ ?_ _) | (with_reducible refine Kd.zR ?_)))
    (case side4 => exact HC0_1.out)
    rintro e w20 ⟨rfl, hb⟩
    refine ⟨_, rfl, ?_⟩
    replace BK474 := zC.mk (zK (by (with_reducible repeat (first | refine zB ?_ _ | refine zD ?_ | refine zA ?_ _)); exact BK474.out) hb)
    replace BK475 := zC.mk (zK (by (with_reducible repeat (first | refine zB ?_ _ | refine zD ?_ | refine zA ?_ _)); exact BK475.out) hb)
    replace HB := zC.mk (below_step (by repeat (first | (with_reducible first | exact HB.out | apply zJ | apply zG | apply zI | refine zE ?_ GE474.out | refine zE ?_ GE475.out) | exact HB.out)) hb)
    (try clear hb)
    (try clear hb2)
    (try clear hk)
    (try clear hi)
    refine hK.out _ _ ⟨(zH BK474.out 0).trans rfl, (zH BK474.out 1).trans rfl, (zH BK475.out 0).trans rfl, (zH BK475.out 1).trans rfl, (zH BK475.out 2).trans rfl, (zH BK475.out 3).trans rfl, (zH BK475.out 4).trans rfl, (zH BK475.out 5).trans rfl⟩ (fun hHeld => ?_)
    clear hK K; refine norm_ (a' := ?_) ?_ ?_
    rotate_left
    · show Act.put _ (some 40) _ = _
      simp only [Act.put, sA_, sB_, sC_, i64_w, i32_w]; rfl
    refine one_ (i := 16) (N := some 43) (tb_ 131071 21) rfl rfl (one_of HT_.out (by kernel_rfl)) (by decide) (fun K hK => ?_)
    refine goes_ Try.func31 (by kernel_rfl) rfl #[.agg #[.slice A0_0 l0_0.length c0_0, .slice A0_1 l0_1.length c0_1], .int .i64 a1, .int .u8 t476, .int .i64 t478, .int .i64 t479, .bool a3, .agg #[.int .i64 a4_0, .int .i64 a4_1, .int .u8 a4_2, .int .i64 a4_3, .int .i64 a4_4, .float .f64 a4_5]] (by rfl) rfl rfl (by (try simp only [List.map_toArray, List.map_cons, List.map_nil]); first | done | rfl | (simp only [List.length_drop, List.length_take]; rfl)) ?_
    with_reducible refine (best_price.calls kj6 _ _ l0_0 _ _ l0_1 a1 t476 t478 t479 a3 a4_0 a4_1 a4_2 a4_3 a4_4 a4_5 t480 t481 _ ?side1 ?side2 ?side3 ?side4 A17.out).mono ?_
    (case side1 => repeat (first | exact (Kd.zS HR0_0.out HB.out) | (with_reducible refine Kd.zP ?_ _) | (with_reducible refine Kd.zQ ?_ _) | (with_reducible refine Kd.zR ?_)))
    (case side2 => exact HC0_0.out)
    (case side3 => repeat (first | exact (Kd.zS HR0_1.out HB.out) | (with_reducible refine Kd.zP ?_ _) | (with_reducible refine Kd.zQ ?_ _) | (with_reducible refine Kd.zR ?_)))
    (case side4 => exact HC0_1.out)
    rintro e w21 ⟨rfl, hb⟩
    refine ⟨_, rfl, ?_⟩
    replace BK474 := zC.mk (zK (by (with_reducible repeat (first | refine zB ?_ _ | refine zD ?_ | refine zA ?_ _)); exact BK474.out) hb)
    replace BK475 := zC.mk (zK (by (with_reducible repeat (first | refine zB ?_ _ | refine zD ?_ | refine zA ?_ _)); exact BK475.out) hb)
    replace HB := zC.mk (below_step (by repeat (first | (with_reducible first | exact HB.out | apply zJ | apply zG | apply zI | refine zE ?_ GE474.out | refine zE ?_ GE475.out) | exact HB.out)) hb)
    (try clear hb)
    (try clear hb2)
    (try clear hk)
    (try clear hi)
    refine hK.out _ _ ⟨(zH BK474.out 0).trans rfl, (zH BK474.out 1).trans rfl, (zH BK475.out 0).trans rfl, (zH BK475.out 1).trans rfl, (zH BK475.out 2).trans rfl, (zH BK475.out 3).trans rfl, (zH BK475.out 4).trans rfl, (zH BK475.out 5).trans rfl⟩ (fun hHeld => ?_)
    clear hK K; refine norm_ (a' := ?_) ?_ ?_
    rotate_left
    · show Act.put _ (some 43) _ = _
      simp only [Act.put, sA_, sB_, sC_, i64_w, i32_w]; rfl
    refine pure_ (i := 17) (N := some 44) (v := ?_) (a' := ?_) (tf_ 18 21) rfl rfl (any_of HT_.out (by kernel_rfl)) (fun _ _ _ h => h) (Or.inl ⟨by rfl, ?_⟩) ?_ ?_
    rotate_left
    · intro w'
      go_simp
      with_reducible rfl
    rotate_left
    · simp only [Act.put, sA_, sB_, sC_, i64_w, i32_w]
      rfl
    refine pure_ (i := 18) (N := some 45) (v := ?_) (a' := ?_) (tf_ 19 21) rfl rfl (any_of HT_.out (by kernel_rfl)) (fun _ _ _ h => h) (Or.inl ⟨by rfl, ?_⟩) ?_ ?_
    rotate_left
    · intro w'
      go_simp
      with_reducible rfl
    rotate_left
    · simp only [Act.put, sA_, sB_, sC_, i64_w, i32_w]
      rfl
    refine pure_ (i := 19) (N := some 10) (v := ?_) (a' := ?_) (tf_ 20 21) rfl rfl (any_of HT_.out (by kernel_rfl)) (fun _ _ _ h => h) (Or.inl ⟨by rfl, ?_⟩) ?_ ?_
    rotate_left
    · intro w'
      go_simp
      with_reducible rfl
    rotate_left
    · simp only [Act.put, sA_, sB_, sC_, i64_w, i32_w]
      rfl
    refine pure_ (i := 20) (N := some 11) (v := ?_) (a' := ?_) (tb_ 2097151 21) rfl rfl (any_of HT_.out (by kernel_rfl)) (fun _ _ _ h => h) (Or.inl ⟨by rfl, ?_⟩) ?_ ?_
    rotate_left
    · intro w'
      go_simp
      with_reducible rfl
    rotate_left
    · simp only [Act.put, sA_, sB_, sC_, i64_w, i32_w]
      rfl
    refine done_ (done_of HT_.out (by kernel_rfl)) ?_
    try go_wp2
    go_ret2
    exact ⟨by first | rfl | (simp [errW_none, errW_some] <;> rfl) | (simp [*, errW_none, errW_some] <;> rfl), by repeat (first | (with_reducible first | exact HB.out | apply zJ | apply zG | apply zI | refine zE ?_ GE474.out | refine zE ?_ GE475.out) | exact HB.out)⟩
end Go.Proofs.Ytlgclhhkgohanaa.F
end
