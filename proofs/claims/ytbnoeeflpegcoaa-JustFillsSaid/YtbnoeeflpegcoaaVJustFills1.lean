/- Printed by a program: Lean functions that answer as the Go functions do, and the proofs of it. -/
import Derived.Test.YtbnoeeflpegcoaaVJustFills0
section
namespace Go.Proofs.Ytbnoeeflpegcoaa.F
open Go.RowKit Go.Proofs.YtbnoeeflpegcoaaW.PrintWords Go.Proofs.YtbnoeeflpegcoaaW.PrintLast Go.Proofs.YtbnoeeflpegcoaaW.PrintMore
attribute [local go_sem] max2_int min2_int max_two min_two max_three min_three max_four min_four   -- for this text's walks alone
set_option linter.unusedVariables false
set_option linter.unusedSimpArgs false
def span_Cells.f (k : Nat) (l0_0 : List (S41)) (l0_1 : List Int) (a1 : Int) (a2 : Int) (a3 : Int) (a4 : Int) : Option (Int) := (span_Trim.f k l0_0 l0_1 a1 a2).bind fun t187 => ((span_Columns.f k l0_0 l0_1 a1 t187 a4).bind fun t188 => (if 0 ≤ (wrap64 ((t188.length : Int) - 1)) then (if (wrap64 ((t188.length : Int) - 1)) < (t188.length : Int) then (if a3 = 3 then (some (wrap64 ((rd t188 (wrap64 ((t188.length : Int) - 1))) + 1))) else (some (rd t188 (wrap64 ((t188.length : Int) - 1))))) else (none)) else (none)))
theorem span_Cells.mono : ∀ a0 a1 a2 a3 a4 a5 k, LeO (span_Cells.f k a0 a1 a2 a3 a4 a5) (span_Cells.f (k + 1) a0 a1 a2 a3 a4 a5) := by
  intro a0 a1 a2 a3 a4 a5 k
  unfold span_Cells.f
  repeat' first
      | (with_reducible exact span_Columns.mono _ _ _ _ _ _)
      | (with_reducible exact span_Trim.mono _ _ _ _ _)
      | (with_reducible exact LeO.refl _)
      | (with_reducible exact LeO.none _)
      | (with_reducible refine LeO.ite ?_ ?_)
      | (with_reducible refine LeO.bind ?_ (fun _ => ?_))
      | exact span_Columns.mono _ _ _ _ _ _
      | exact span_Trim.mono _ _ _ _ _
      | exact LeO.none _
      | refine LeO.ite ?_ ?_
      | refine LeO.bind ?_ (fun _ => ?_)
def span_Cells.T1 : Bool × List (List Nat × List Nat) := (true, [([], []), ([], []), ([], []), ([], []), ([], []), ([2, 3, 4], [2, 3, 4]), ([], []), ([0, 1, 5, 6, 5], [0, 1, 5, 6]), ([7, 7, 0, 1, 2, 3, 4, 5, 6, 7], [7])])
def span_Cells.B1 : List Nat := [0, 0, 0, 0, 0, 28, 0, 127, 255]
theorem span_Cells.tab1 : rtab .any (opsOf Try.f25 1) = span_Cells.T1 := by kernel_rfl
theorem span_Cells.bits1 : waitsOk span_Cells.T1.2 span_Cells.B1 = true := by kernel_rfl
set_option maxHeartbeats 8000000 in
set_option maxRecDepth 100000 in
theorem span_Cells.calls (k : Nat) (A0_0 : Option Addr) (c0_0 : Nat) (l0_0 : List (S41)) (A0_1 : Option Addr) (c0_1 : Nat) (l0_1 : List Int) (a1 : Int) (a2 : Int) (a3 : Int) (a4 : Int) (r : Int) (w : World) (hr0_0 : Kd.C k41 w A0_0 l0_0.length l0_0) (hc0_0 : l0_0.length ≤ c0_0) (hr0_1 : Kd.C (Kd.int .u8) w A0_1 l0_1.length l0_1) (hc0_1 : l0_1.length ≤ c0_1) (h : span_Cells.f k l0_0 l0_1 a1 a2 a3 a4 = some r) :
    Calls Try.prog 25 #[.agg #[.slice A0_0 l0_0.length c0_0, .slice A0_1 l0_1.length c0_1], .int .i64 a1, .int .i64 a2, .int .u8 a3, .int .i64 a4] w fun e w' => e = .returned (.int .i64 r) ∧ Below w.heap.size w w' := by
  have hu35 := Try.underlying35; have HR0_0 := zA.mk hr0_0; have HC0_0 := zA.mk hc0_0; clear hr0_0 hc0_0; have HR0_1 := zA.mk hr0_1; have HC0_1 := zA.mk hc0_1; clear hr0_1 hc0_1; have HB := zA.mk (Below.refl w.heap.size w); have H : ((span_Trim.f k l0_0 l0_1 a1 a2).bind fun t187 => ((span_Columns.f k l0_0 l0_1 a1 t187 a4).bind fun t188 => (if 0 ≤ (wrap64 ((t188.length : Int) - 1)) then (if (wrap64 ((t188.length : Int) - 1)) < (t188.length : Int) then (if a3 = 3 then (some (wrap64 ((rd t188 (wrap64 ((t188.length : Int) - 1))) + 1))) else (some (rd t188 (wrap64 ((t188.length : Int) - 1))))) else (none)) else (none)))) = some r := h
  clear h; replace H := Option.bind_eq_some_iff.mp H; obtain ⟨t187, A60, H⟩ := H; replace H : ((span_Columns.f k l0_0 l0_1 a1 t187 a4).bind fun t188 => (if 0 ≤ (wrap64 ((t188.length : Int) - 1)) then (if (wrap64 ((t188.length : Int) - 1)) < (t188.length : Int) then (if a3 = 3 then (some (wrap64 ((rd t188 (wrap64 ((t188.length : Int) - 1))) + 1))) else (some (rd t188 (wrap64 ((t188.length : Int) - 1))))) else (none)) else (none))) = some r := H
  have A6 := zA.mk A60; clear A60; replace H := Option.bind_eq_some_iff.mp H; obtain ⟨t188, A70, H⟩ := H; replace H : (if 0 ≤ (wrap64 ((t188.length : Int) - 1)) then (if (wrap64 ((t188.length : Int) - 1)) < (t188.length : Int) then (if a3 = 3 then (some (wrap64 ((rd t188 (wrap64 ((t188.length : Int) - 1))) + 1))) else (some (rd t188 (wrap64 ((t188.length : Int) - 1))))) else (none)) else (none)) = some r := H; have A7 := zA.mk A70; clear A70; obtain ⟨ji8, hji8⟩ : ∃ j_ : Int, (wrap64 ((t188.length : Int) - 1)) = j_ := ⟨_, rfl⟩; replace H : (if 0 ≤ (ji8) then (if (ji8) < (t188.length : Int) then (if a3 = 3 then (some (wrap64 ((rd t188 (ji8)) + 1))) else (some (rd t188 (ji8)))) else (none)) else (none)) = some r := by first | (rw [hji8] at H; exact H) | (simp only [hji8] at H ⊢; exact H)
  (try rw [hji8] at A6)
  (try rw [hji8] at A7)
  have hji8w : (IntKind.i64.wrap ((t188.length : Int) - 1)) = ji8 := (zM _).trans hji8
  by_cases c9 : 0 ≤ (ji8)
  · rw [if_pos c9] at H
    have c9b0 : decide (0 ≤ (ji8)) = true := decide_eq_true c9
    clear c9; by_cases c10 : (ji8) < (t188.length : Int)
    · rw [if_pos c10] at H
      have c10b0 : decide ((ji8) < (t188.length : Int)) = true := decide_eq_true c10
      clear c10; by_cases c11 : a3 = 3
      · rw [if_pos c11] at H
        have c11b0 : (a3 == 3) = true := beq_iff_eq.mpr c11
        have c11b1 : (a3 != 3) = false := bne_eq_false_iff_eq.mpr c11
        clear c11; obtain rfl := Option.some.inj H
        go_enter Try.func25, Try.ntmps25
        try go_wp2_with (first | ((with_reducible refine gate_dst (N := 5) rfl ?_); refine box_event ?hg (N := 5) ?hd (cs := #[.slice A0_0 l0_0.length c0_0, .slice A0_1 l0_1.length c0_1]) (t := 35) ?hr ?_; (case hd => rfl); (case hg => rfl); (case hr => first | (go_simp; done) | (go_simp; rfl)); intro gb186 hg w12 hbox hb; have n0_ := zA.mk (zO (by repeat (first | (with_reducible first | exact HB.out | apply zI | apply zF | apply zH) | exact HB.out)) hb); have n1_ := zA.mk (hbox); have n2_ := zA.mk ((by rw [hg]; exact (zK (by repeat (first | (with_reducible first | exact HB.out | apply zI | apply zF | apply zH) | exact HB.out))) : w.heap.size ≤ gb186)); have n3_ := zA.mk ((by rw [hg]; exact (zK (by repeat (first | (with_reducible first | exact HB.out | apply zI | apply zF | apply zH) | exact HB.out))) : w.heap.size ≤ gb186)); clear HB; have HB := n0_; have BK186 := n1_; have GW186 := n2_; have GE186 := n3_; clear n0_ n1_ n2_ n3_; clear hb hbox hg))
        have n0_ := zA.mk (zD BK186.out); have n1_ := zA.mk (zH HB.out); clear BK186; clear HB; have BK186 := n0_; have HB := n1_; clear n0_ n1_; refine start_ (n := 9) (S := fun w' => w'.cell? ⟨gb186, 0, none⟩ = some (.slice A0_0 l0_0.length c0_0) ∧ w'.cell? ⟨gb186, 1, none⟩ = some (.slice A0_1 l0_1.length c0_1)) (ds := []) #[false, false, false, false, false, false, false, false, false] (by kernel_rfl) rfl rfl ⟨(zG BK186.out 0).trans rfl, (zG BK186.out 1).trans rfl⟩ (fun hHeld => ?_); refine with_tabW span_Cells.tab1 span_Cells.bits1 (fun HT_ HW_ => ?_)
        generalize w12.drew = w13 at BK186 HB hHeld ⊢
        refine pure_ (i := 1) (N := some 14) (v := ?_) (a' := ?_) #[false, true, false, false, false, false, false, false, false] rfl rfl (any_of HT_.out (by kernel_rfl)) (fun _ _ _ h => h) (Or.inl ⟨by rfl, ?_⟩) ?_ ?_
        rotate_left
        · intro w'
          go_simp
          with_reducible rfl
        rotate_left
        · simp only [Act.put, List.setIfInBounds_toArray, List.set_cons_zero, List.set_cons_succ, zM, zN]
          rfl
        refine pure_ (i := 3) (N := some 16) (v := ?_) (a' := ?_) #[false, true, false, true, false, false, false, false, false] rfl rfl (any_of HT_.out (by kernel_rfl)) (fun _ _ _ h => h) (Or.inl ⟨by rfl, ?_⟩) ?_ ?_
        rotate_left
        · intro w'
          go_simp
          with_reducible rfl
        rotate_left
        · simp only [Act.put, List.setIfInBounds_toArray, List.set_cons_zero, List.set_cons_succ, zM, zN]
          rfl
        refine pure_ (i := 4) (N := some 17) (v := ?_) (a' := ?_) #[false, true, false, true, true, false, false, false, false] rfl rfl (any_of HT_.out (by kernel_rfl)) (fun _ _ _ h => h) (Or.inl ⟨by rfl, ?_⟩) ?_ ?_
        rotate_left
        · intro w'
          go_simp
          with_reducible rfl
        rotate_left
        · simp only [Act.put, List.setIfInBounds_toArray, List.set_cons_zero, List.set_cons_succ, zM, zN]
          rfl
        refine pure_ (i := 6) (N := some 19) (v := ?_) (a' := ?_) #[false, true, false, true, true, false, true, false, false] rfl rfl (any_of HT_.out (by kernel_rfl)) (fun _ _ _ h => h) (Or.inl ⟨by rfl, ?_⟩) ?_ ?_
        rotate_left
        · intro w'
          go_simp
          with_reducible rfl
        rotate_left
        · simp only [Act.put, List.setIfInBounds_toArray, List.set_cons_zero, List.set_cons_succ, zM, zN]
          rfl
        refine take_ (i := 0) (N := some 13) (v := ?_) (a' := ?_) #[true, true, false, true, true, false, true, false, false] rfl rfl (take_ofW HT_.out HW_.out (by kernel_rfl)) (fun _ _ _ h => h) (Or.inl ⟨by rfl, ?_⟩) hHeld ?_ ?_
        rotate_left
        · rintro w' ⟨s0, s1⟩
          go_simp
          with_reducible rfl
        rotate_left
        · simp only [Act.put, List.setIfInBounds_toArray, List.set_cons_zero, List.set_cons_succ, zM, zN]
          rfl
        refine take_ (i := 2) (N := some 15) (v := ?_) (a' := ?_) #[true, true, true, true, true, false, true, false, false] rfl rfl (take_ofW HT_.out HW_.out (by kernel_rfl)) (fun _ _ _ h => h) (Or.inl ⟨by rfl, ?_⟩) hHeld ?_ ?_
        rotate_left
        · rintro w' ⟨s0, s1⟩
          go_simp
          with_reducible rfl
        rotate_left
        · simp only [Act.put, List.setIfInBounds_toArray, List.set_cons_zero, List.set_cons_succ, zM, zN]
          rfl
        refine one_ (i := 5) (N := some 18) #[true, true, true, true, true, true, true, false, false] rfl rfl (one_of HT_.out (by kernel_rfl)) (by decide) (fun K hK => ?_)
        refine goes_ Try.func26 (by kernel_rfl) rfl #[.agg #[.slice A0_0 l0_0.length c0_0, .slice A0_1 l0_1.length c0_1], .int .i64 a1, .int .i64 a2] (by rfl) rfl rfl (by (try simp only [List.map_toArray, List.map_cons, List.map_nil]); first | done | rfl | (simp only [List.length_drop, List.length_take]; rfl)) ?_
        with_reducible refine (span_Trim.calls k _ _ l0_0 _ _ l0_1 a1 a2 t187 _ ?side1 ?side2 ?side3 ?side4 A6.out).mono ?_
        (case side1 => repeat (first | exact (Kd.C_below HR0_0.out HB.out) | (with_reducible refine Kd.C_alloc ?_ _) | (with_reducible refine Kd.C_drewN ?_ _) | (with_reducible refine Kd.C_drew ?_)))
        (case side2 => exact HC0_0.out)
        (case side3 => repeat (first | exact (Kd.C_below HR0_1.out HB.out) | (with_reducible refine Kd.C_alloc ?_ _) | (with_reducible refine Kd.C_drewN ?_ _) | (with_reducible refine Kd.C_drew ?_)))
        (case side4 => exact HC0_1.out)
        rintro e w14 ⟨rfl, hb⟩
        refine ⟨_, rfl, ?_⟩
        have n0_ := zA.mk (zL (g := gb186) (o := .cells #[.slice A0_0 l0_0.length c0_0, .slice A0_1 l0_1.length c0_1] 35 (0, 0)) (by (with_reducible repeat (first | refine zC ?_ _ | refine zD ?_ | refine zB ?_ _)); exact BK186.out) hb)
        have n1_ := zA.mk (zO (by repeat (first | (with_reducible first | exact HB.out | apply zI | apply zF | apply zH | refine zE ?_ GE186.out) | exact HB.out)) hb)
        clear BK186 HB; have BK186 := n0_; have HB := n1_; clear n0_ n1_; (try clear hb)
        (try clear hb2)
        (try clear hk)
        (try clear hi)
        refine hK.out _ _ ⟨(zG BK186.out 0).trans rfl, (zG BK186.out 1).trans rfl⟩ (fun hHeld => ?_)
        clear hK K; refine norm_ (a' := ?_) ?_ ?_
        rotate_left
        · show Act.put _ (some 18) _ = _
          simp only [Act.put, List.setIfInBounds_toArray, List.set_cons_zero, List.set_cons_succ, zM, zN]; rfl
        refine one_ (i := 7) (N := some 20) #[true, true, true, true, true, true, true, true, false] rfl rfl (one_of HT_.out (by kernel_rfl)) (by decide) (fun K hK => ?_)
        refine goes_ Try.func23 (by kernel_rfl) rfl #[.agg #[.slice A0_0 l0_0.length c0_0, .slice A0_1 l0_1.length c0_1], .int .i64 a1, .int .i64 t187, .int .i64 a4] (by rfl) rfl rfl (by (try simp only [List.map_toArray, List.map_cons, List.map_nil]); first | done | rfl | (simp only [List.length_drop, List.length_take]; rfl)) ?_
        with_reducible refine (span_Columns.calls k _ _ l0_0 _ _ l0_1 a1 t187 a4 t188 _ ?side1 ?side2 ?side3 ?side4 A7.out).mono ?_
        (case side1 => repeat (first | exact (Kd.C_below HR0_0.out HB.out) | (with_reducible refine Kd.C_alloc ?_ _) | (with_reducible refine Kd.C_drewN ?_ _) | (with_reducible refine Kd.C_drew ?_)))
        (case side2 => exact HC0_0.out)
        (case side3 => repeat (first | exact (Kd.C_below HR0_1.out HB.out) | (with_reducible refine Kd.C_alloc ?_ _) | (with_reducible refine Kd.C_drewN ?_ _) | (with_reducible refine Kd.C_drew ?_)))
        (case side4 => exact HC0_1.out)
        rintro e w15 ⟨v189, rfl, ho0, hb⟩
        refine ⟨_, rfl, ?_⟩
        have n0_ := zA.mk (Kd.R_lower ho0 (zK (by repeat (first | (with_reducible first | exact HB.out | apply zI | apply zF | apply zH | refine zE ?_ GE186.out) | exact HB.out))))
        have n1_ := zA.mk (zL (g := gb186) (o := .cells #[.slice A0_0 l0_0.length c0_0, .slice A0_1 l0_1.length c0_1] 35 (0, 0)) (by (with_reducible repeat (first | refine zC ?_ _ | refine zD ?_ | refine zB ?_ _)); exact BK186.out) hb)
        have n2_ := zA.mk (zO (by repeat (first | (with_reducible first | exact HB.out | apply zI | apply zF | apply zH | refine zE ?_ GE186.out) | exact HB.out)) hb)
        clear BK186 HB; have HO190 := n0_; have BK186 := n1_; have HB := n2_; clear n0_ n1_ n2_; (try clear hb)
        (try clear hb2)
        (try clear hk)
        (try clear hi)
        (try clear ho0)
        refine hK.out _ _ ⟨(zG BK186.out 0).trans rfl, (zG BK186.out 1).trans rfl⟩ (fun hHeld => ?_)
        clear hK K; refine norm_ (a' := ?_) ?_ ?_
        rotate_left
        · show Act.put _ (some 20) _ = _
          simp only [Act.put, List.setIfInBounds_toArray, List.set_cons_zero, List.set_cons_succ, zM, zN]; rfl
        refine pure_ (i := 8) (N := some 11) (v := ?_) (a' := ?_) #[true, true, true, true, true, true, true, true, true] rfl rfl (any_of HT_.out (by kernel_rfl)) (fun _ _ _ h => h) (Or.inl ⟨by rfl, ?_⟩) ?_ ?_
        rotate_left
        · intro w'
          go_simp
          with_reducible rfl
        rotate_left
        · simp only [Act.put, List.setIfInBounds_toArray, List.set_cons_zero, List.set_cons_succ, zM, zN]
          rfl
        refine done_ (done_of HT_.out (by kernel_rfl)) ?_
        obtain ⟨Ao16, co16, eo16⟩ := Kd.R_slice HO190.out; subst eo16; have p191 : 0 ≤ ((ji8) : Int) := of_decide_eq_true (by first | (with_reducible assumption) | assumption)
        have q191 : (ji8) < (t188.length : Int) := of_decide_eq_true (by first | (with_reducible assumption) | assumption)
        obtain ⟨ad191, e191, hx191_0⟩ := Kd.at_int (Kd.R_reads' HO190.out).2.2 (ji8) p191 q191; cases e191
        replace p191 := eq_true p191; replace q191 := eq_true q191; try go_wp2
        go_ret
        exact ⟨by first | rfl | (simp [errW_none, errW_some] <;> rfl) | (simp only [← hji8]; first | rfl | (simp [errW_none, errW_some] <;> rfl)) | (simp [*, errW_none, errW_some] <;> rfl), by repeat (first | (with_reducible first | exact HB.out | apply zI | apply zF | apply zH | refine zE ?_ GE186.out) | exact HB.out)⟩
      · rw [if_neg c11] at H
        have c11b0 : (a3 == 3) = false := beq_eq_false_iff_ne.mpr c11
        have c11b1 : (a3 != 3) = true := bne_iff_ne.mpr c11
        obtain rfl := Option.some.inj H
        go_enter Try.func25, Try.ntmps25
        try go_wp2_with (first | ((with_reducible refine gate_dst (N := 5) rfl ?_); refine box_event ?hg (N := 5) ?hd (cs := #[.slice A0_0 l0_0.length c0_0, .slice A0_1 l0_1.length c0_1]) (t := 35) ?hr ?_; (case hd => rfl); (case hg => rfl); (case hr => first | (go_simp; done) | (go_simp; rfl)); intro gb186 hg w17 hbox hb; have n0_ := zA.mk (zO (by repeat (first | (with_reducible first | exact HB.out | apply zI | apply zF | apply zH) | exact HB.out)) hb); have n1_ := zA.mk (hbox); have n2_ := zA.mk ((by rw [hg]; exact (zK (by repeat (first | (with_reducible first | exact HB.out | apply zI | apply zF | apply zH) | exact HB.out))) : w.heap.size ≤ gb186)); have n3_ := zA.mk ((by rw [hg]; exact (zK (by repeat (first | (with_reducible first | exact HB.out | apply zI | apply zF | apply zH) | exact HB.out))) : w.heap.size ≤ gb186)); clear HB; have HB := n0_; have BK186 := n1_; have GW186 := n2_; have GE186 := n3_; clear n0_ n1_ n2_ n3_; clear hb hbox hg))
        have n0_ := zA.mk (zD BK186.out); have n1_ := zA.mk (zH HB.out); clear BK186; clear HB; have BK186 := n0_; have HB := n1_; clear n0_ n1_; refine start_ (n := 9) (S := fun w' => w'.cell? ⟨gb186, 0, none⟩ = some (.slice A0_0 l0_0.length c0_0) ∧ w'.cell? ⟨gb186, 1, none⟩ = some (.slice A0_1 l0_1.length c0_1)) (ds := []) #[false, false, false, false, false, false, false, false, false] (by kernel_rfl) rfl rfl ⟨(zG BK186.out 0).trans rfl, (zG BK186.out 1).trans rfl⟩ (fun hHeld => ?_); refine with_tabW span_Cells.tab1 span_Cells.bits1 (fun HT_ HW_ => ?_)
        generalize w17.drew = w18 at BK186 HB hHeld ⊢
        refine pure_ (i := 1) (N := some 14) (v := ?_) (a' := ?_) #[false, true, false, false, false, false, false, false, false] rfl rfl (any_of HT_.out (by kernel_rfl)) (fun _ _ _ h => h) (Or.inl ⟨by rfl, ?_⟩) ?_ ?_
        rotate_left
        · intro w'
          go_simp
          with_reducible rfl
        rotate_left
        · simp only [Act.put, List.setIfInBounds_toArray, List.set_cons_zero, List.set_cons_succ, zM, zN]
          rfl
        refine pure_ (i := 3) (N := some 16) (v := ?_) (a' := ?_) #[false, true, false, true, false, false, false, false, false] rfl rfl (any_of HT_.out (by kernel_rfl)) (fun _ _ _ h => h) (Or.inl ⟨by rfl, ?_⟩) ?_ ?_
        rotate_left
        · intro w'
          go_simp
          with_reducible rfl
        rotate_left
        · simp only [Act.put, List.setIfInBounds_toArray, List.set_cons_zero, List.set_cons_succ, zM, zN]
          rfl
        refine pure_ (i := 4) (N := some 17) (v := ?_) (a' := ?_) #[false, true, false, true, true, false, false, false, false] rfl rfl (any_of HT_.out (by kernel_rfl)) (fun _ _ _ h => h) (Or.inl ⟨by rfl, ?_⟩) ?_ ?_
        rotate_left
        · intro w'
          go_simp
          with_reducible rfl
        rotate_left
        · simp only [Act.put, List.setIfInBounds_toArray, List.set_cons_zero, List.set_cons_succ, zM, zN]
          rfl
        refine pure_ (i := 6) (N := some 19) (v := ?_) (a' := ?_) #[false, true, false, true, true, false, true, false, false] rfl rfl (any_of HT_.out (by kernel_rfl)) (fun _ _ _ h => h) (Or.inl ⟨by rfl, ?_⟩) ?_ ?_
        rotate_left
        · intro w'
          go_simp
          with_reducible rfl
        rotate_left
        · simp only [Act.put, List.setIfInBounds_toArray, List.set_cons_zero, List.set_cons_succ, zM, zN]
          rfl
        refine take_ (i := 0) (N := some 13) (v := ?_) (a' := ?_) #[true, true, false, true, true, false, true, false, false] rfl rfl (take_ofW HT_.out HW_.out (by kernel_rfl)) (fun _ _ _ h => h) (Or.inl ⟨by rfl, ?_⟩) hHeld ?_ ?_
        rotate_left
        · rintro w' ⟨s0, s1⟩
          go_simp
          with_reducible rfl
        rotate_left
        · simp only [Act.put, List.setIfInBounds_toArray, List.set_cons_zero, List.set_cons_succ, zM, zN]
          rfl
        refine take_ (i := 2) (N := some 15) (v := ?_) (a' := ?_) #[true, true, true, true, true, false, true, false, false] rfl rfl (take_ofW HT_.out HW_.out (by kernel_rfl)) (fun _ _ _ h => h) (Or.inl ⟨by rfl, ?_⟩) hHeld ?_ ?_
        rotate_left
        · rintro w' ⟨s0, s1⟩
          go_simp
          with_reducible rfl
        rotate_left
        · simp only [Act.put, List.setIfInBounds_toArray, List.set_cons_zero, List.set_cons_succ, zM, zN]
          rfl
        refine one_ (i := 5) (N := some 18) #[true, true, true, true, true, true, true, false, false] rfl rfl (one_of HT_.out (by kernel_rfl)) (by decide) (fun K hK => ?_)
        refine goes_ Try.func26 (by kernel_rfl) rfl #[.agg #[.slice A0_0 l0_0.length c0_0, .slice A0_1 l0_1.length c0_1], .int .i64 a1, .int .i64 a2] (by rfl) rfl rfl (by (try simp only [List.map_toArray, List.map_cons, List.map_nil]); first | done | rfl | (simp only [List.length_drop, List.length_take]; rfl)) ?_
        with_reducible refine (span_Trim.calls k _ _ l0_0 _ _ l0_1 a1 a2 t187 _ ?side1 ?side2 ?side3 ?side4 A6.out).mono ?_
        (case side1 => repeat (first | exact (Kd.C_below HR0_0.out HB.out) | (with_reducible refine Kd.C_alloc ?_ _) | (with_reducible refine Kd.C_drewN ?_ _) | (with_reducible refine Kd.C_drew ?_)))
        (case side2 => exact HC0_0.out)
        (case side3 => repeat (first | exact (Kd.C_below HR0_1.out HB.out) | (with_reducible refine Kd.C_alloc ?_ _) | (with_reducible refine Kd.C_drewN ?_ _) | (with_reducible refine Kd.C_drew ?_)))
        (case side4 => exact HC0_1.out)
        rintro e w19 ⟨rfl, hb⟩
        refine ⟨_, rfl, ?_⟩
        have n0_ := zA.mk (zL (g := gb186) (o := .cells #[.slice A0_0 l0_0.length c0_0, .slice A0_1 l0_1.length c0_1] 35 (0, 0)) (by (with_reducible repeat (first | refine zC ?_ _ | refine zD ?_ | refine zB ?_ _)); exact BK186.out) hb)
        have n1_ := zA.mk (zO (by repeat (first | (with_reducible first | exact HB.out | apply zI | apply zF | apply zH | refine zE ?_ GE186.out) | exact HB.out)) hb)
        clear BK186 HB; have BK186 := n0_; have HB := n1_; clear n0_ n1_; (try clear hb)
        (try clear hb2)
        (try clear hk)
        (try clear hi)
        refine hK.out _ _ ⟨(zG BK186.out 0).trans rfl, (zG BK186.out 1).trans rfl⟩ (fun hHeld => ?_)
        clear hK K; refine norm_ (a' := ?_) ?_ ?_
        rotate_left
        · show Act.put _ (some 18) _ = _
          simp only [Act.put, List.setIfInBounds_toArray, List.set_cons_zero, List.set_cons_succ, zM, zN]; rfl
        refine one_ (i := 7) (N := some 20) #[true, true, true, true, true, true, true, true, false] rfl rfl (one_of HT_.out (by kernel_rfl)) (by decide) (fun K hK => ?_)
        refine goes_ Try.func23 (by kernel_rfl) rfl #[.agg #[.slice A0_0 l0_0.length c0_0, .slice A0_1 l0_1.length c0_1], .int .i64 a1, .int .i64 t187, .int .i64 a4] (by rfl) rfl rfl (by (try simp only [List.map_toArray, List.map_cons, List.map_nil]); first | done | rfl | (simp only [List.length_drop, List.length_take]; rfl)) ?_
        with_reducible refine (span_Columns.calls k _ _ l0_0 _ _ l0_1 a1 t187 a4 t188 _ ?side1 ?side2 ?side3 ?side4 A7.out).mono ?_
        (case side1 => repeat (first | exact (Kd.C_below HR0_0.out HB.out) | (with_reducible refine Kd.C_alloc ?_ _) | (with_reducible refine Kd.C_drewN ?_ _) | (with_reducible refine Kd.C_drew ?_)))
        (case side2 => exact HC0_0.out)
        (case side3 => repeat (first | exact (Kd.C_below HR0_1.out HB.out) | (with_reducible refine Kd.C_alloc ?_ _) | (with_reducible refine Kd.C_drewN ?_ _) | (with_reducible refine Kd.C_drew ?_)))
        (case side4 => exact HC0_1.out)
        rintro e w20 ⟨v189, rfl, ho0, hb⟩
        refine ⟨_, rfl, ?_⟩
        have n0_ := zA.mk (Kd.R_lower ho0 (zK (by repeat (first | (with_reducible first | exact HB.out | apply zI | apply zF | apply zH | refine zE ?_ GE186.out) | exact HB.out))))
        have n1_ := zA.mk (zL (g := gb186) (o := .cells #[.slice A0_0 l0_0.length c0_0, .slice A0_1 l0_1.length c0_1] 35 (0, 0)) (by (with_reducible repeat (first | refine zC ?_ _ | refine zD ?_ | refine zB ?_ _)); exact BK186.out) hb)
        have n2_ := zA.mk (zO (by repeat (first | (with_reducible first | exact HB.out | apply zI | apply zF | apply zH | refine zE ?_ GE186.out) | exact HB.out)) hb)
        clear BK186 HB; have HO190 := n0_; have BK186 := n1_; have HB := n2_; clear n0_ n1_ n2_; (try clear hb)
        (try clear hb2)
        (try clear hk)
        (try clear hi)
        (try clear ho0)
        refine hK.out _ _ ⟨(zG BK186.out 0).trans rfl, (zG BK186.out 1).trans rfl⟩ (fun hHeld => ?_)
        clear hK K; refine norm_ (a' := ?_) ?_ ?_
        rotate_left
        · show Act.put _ (some 20) _ = _
          simp only [Act.put, List.setIfInBounds_toArray, List.set_cons_zero, List.set_cons_succ, zM, zN]; rfl
        refine pure_ (i := 8) (N := some 11) (v := ?_) (a' := ?_) #[true, true, true, true, true, true, true, true, true] rfl rfl (any_of HT_.out (by kernel_rfl)) (fun _ _ _ h => h) (Or.inl ⟨by rfl, ?_⟩) ?_ ?_
        rotate_left
        · intro w'
          go_simp
          with_reducible rfl
        rotate_left
        · simp only [Act.put, List.setIfInBounds_toArray, List.set_cons_zero, List.set_cons_succ, zM, zN]
          rfl
        refine done_ (done_of HT_.out (by kernel_rfl)) ?_
        obtain ⟨Ao21, co21, eo21⟩ := Kd.R_slice HO190.out; subst eo21; have p191 : 0 ≤ ((ji8) : Int) := of_decide_eq_true (by first | (with_reducible assumption) | assumption)
        have q191 : (ji8) < (t188.length : Int) := of_decide_eq_true (by first | (with_reducible assumption) | assumption)
        obtain ⟨ad191, e191, hx191_0⟩ := Kd.at_int (Kd.R_reads' HO190.out).2.2 (ji8) p191 q191; cases e191
        replace p191 := eq_true p191; replace q191 := eq_true q191; try go_wp2
        go_ret
        exact ⟨by first | rfl | (simp [errW_none, errW_some] <;> rfl) | (simp only [← hji8]; first | rfl | (simp [errW_none, errW_some] <;> rfl)) | (simp [*, errW_none, errW_some] <;> rfl), by repeat (first | (with_reducible first | exact HB.out | apply zI | apply zF | apply zH | refine zE ?_ GE186.out) | exact HB.out)⟩
    · rw [if_neg c10] at H
      exact absurd H (by simp)
  · rw [if_neg c9] at H
    exact absurd H (by simp)
end Go.Proofs.Ytbnoeeflpegcoaa.F
end
section
namespace Go.Proofs.Ytbnoeeflpegcoaa.F
open Go.RowKit Go.Proofs.YtbnoeeflpegcoaaW.PrintWords Go.Proofs.YtbnoeeflpegcoaaW.PrintLast Go.Proofs.YtbnoeeflpegcoaaW.PrintMore
attribute [local go_sem] max2_int min2_int max_two min_two max_three min_three max_four min_four   -- for this text's walks alone
set_option linter.unusedVariables false
set_option linter.unusedSimpArgs false
def stanzaref13_Line.f (k : Nat) (l0_0 : List (S41)) (l0_1 : List Int) (a1 : Int) (a2 : Int) (a3 : Int) (a4 : Int) : Option (Int × Int × Int × Int) := (stanzaref13_Cells.f k l0_0 l0_1 a1 a2 a3 a4).bind fun t337 => (some (a1, a2, t337, a3))
theorem stanzaref13_Line.mono : ∀ a0 a1 a2 a3 a4 a5 k, LeO (stanzaref13_Line.f k a0 a1 a2 a3 a4 a5) (stanzaref13_Line.f (k + 1) a0 a1 a2 a3 a4 a5) := by
  intro a0 a1 a2 a3 a4 a5 k
  unfold stanzaref13_Line.f
  repeat' first
      | (with_reducible exact stanzaref13_Cells.mono _ _ _ _ _ _ _)
      | (with_reducible exact LeO.refl _)
      | (with_reducible exact LeO.none _)
      | (with_reducible refine LeO.ite ?_ ?_)
      | (with_reducible refine LeO.bind ?_ (fun _ => ?_))
      | exact stanzaref13_Cells.mono _ _ _ _ _ _ _
      | exact LeO.none _
      | refine LeO.ite ?_ ?_
      | refine LeO.bind ?_ (fun _ => ?_)
set_option maxHeartbeats 8000000 in
set_option maxRecDepth 100000 in
theorem stanzaref13_Line.calls (k : Nat) (A0_0 : Option Addr) (c0_0 : Nat) (l0_0 : List (S41)) (A0_1 : Option Addr) (c0_1 : Nat) (l0_1 : List Int) (a1 : Int) (a2 : Int) (a3 : Int) (a4 : Int) (r1 : Int) (r2 : Int) (r3 : Int) (r4 : Int) (w : World) (hr0_0 : Kd.C k41 w A0_0 l0_0.length l0_0) (hc0_0 : l0_0.length ≤ c0_0) (hr0_1 : Kd.C (Kd.int .u8) w A0_1 l0_1.length l0_1) (hc0_1 : l0_1.length ≤ c0_1) (h : stanzaref13_Line.f k l0_0 l0_1 a1 a2 a3 a4 = some (r1, r2, r3, r4)) :
    Calls Try.prog 35 #[.agg #[.slice A0_0 l0_0.length c0_0, .slice A0_1 l0_1.length c0_1], .int .i64 a1, .int .i64 a2, .int .u8 a3, .int .i64 a4] w fun e w' => e = .returned (.agg #[.int .i64 r1, .int .i64 r2, .int .i64 r3, .int .u8 r4]) ∧ Below w.heap.size w w' := by
  have hu35 := Try.underlying35; have hu63 := Try.underlying63; have HR0_0 := zA.mk hr0_0; have HC0_0 := zA.mk hc0_0; clear hr0_0 hc0_0; have HR0_1 := zA.mk hr0_1; have HC0_1 := zA.mk hc0_1; clear hr0_1 hc0_1; have HB := zA.mk (Below.refl w.heap.size w); have H : ((stanzaref13_Cells.f k l0_0 l0_1 a1 a2 a3 a4).bind fun t337 => (some (a1, a2, t337, a3))) = some (r1, r2, r3, r4) := h
  clear h; replace H := Option.bind_eq_some_iff.mp H; obtain ⟨t337, A60, H⟩ := H; replace H : (some (a1, a2, t337, a3)) = some (r1, r2, r3, r4) := H; have A6 := zA.mk A60; clear A60; simp only [Option.some.injEq, Prod.mk.injEq] at H; obtain ⟨rfl, rfl, rfl, rfl⟩ := H; go_enter Try.func35, Try.ntmps35
  go_wp2_with (first | ((with_reducible refine gate_dst (N := 5) rfl ?_); refine box_event ?hg (N := 5) ?hd (cs := #[.slice A0_0 l0_0.length c0_0, .slice A0_1 l0_1.length c0_1]) (t := 35) ?hr ?_; (case hd => rfl); (case hg => rfl); (case hr => first | (go_simp; done) | (go_simp; rfl)); intro gb335 hg w7 hbox hb; have n0_ := zA.mk (zO (by repeat (first | (with_reducible first | exact HB.out | apply zI | apply zF | apply zH) | exact HB.out)) hb); have n1_ := zA.mk (hbox); have n2_ := zA.mk ((by rw [hg]; exact (zK (by repeat (first | (with_reducible first | exact HB.out | apply zI | apply zF | apply zH) | exact HB.out))) : w.heap.size ≤ gb335)); have n3_ := zA.mk ((by rw [hg]; exact (zK (by repeat (first | (with_reducible first | exact HB.out | apply zI | apply zF | apply zH) | exact HB.out))) : w.heap.size ≤ gb335)); clear HB; have HB := n0_; have BK335 := n1_; have GW335 := n2_; have GE335 := n3_; clear n0_ n1_ n2_ n3_; clear hb hbox hg) | ((with_reducible refine gate_dst (N := 10) rfl ?_); refine box_event ?hg (N := 10) ?hd (cs := #[.int .i64 0, .int .i64 0, .int .i64 0, .int .u8 0]) (t := 63) ?hr ?_; (case hd => rfl); (case hg => rfl); (case hr => first | (go_simp; done) | (go_simp; rfl)); intro gb336 hg w8 hbox hb; have n0_ := zA.mk (zL (g := gb335) (o := .cells #[.slice A0_0 l0_0.length c0_0, .slice A0_1 l0_1.length c0_1] 35 (0, 0)) (by (with_reducible repeat (first | refine zC ?_ _ | refine zD ?_ | refine zB ?_ _)); exact BK335.out) hb); have n1_ := zA.mk (zO (by repeat (first | (with_reducible first | exact HB.out | apply zI | apply zF | apply zH | refine zE ?_ GE335.out) | exact HB.out)) hb); have n2_ := zA.mk (hbox); have n3_ := zA.mk ((by rw [hg]; exact (zK (by repeat (first | (with_reducible first | exact HB.out | apply zI | apply zF | apply zH | refine zE ?_ GE335.out) | exact HB.out))) : w.heap.size ≤ gb336)); have n4_ := zA.mk ((by rw [hg]; exact (zK (by repeat (first | (with_reducible first | exact HB.out | apply zI | apply zF | apply zH | refine zE ?_ GE335.out) | exact HB.out))) : w.heap.size ≤ gb336)); have n5_ := zA.mk ((by rw [hg]; exact Nat.ne_of_lt (blk_lt (g := gb335) (o := .cells #[.slice A0_0 l0_0.length c0_0, .slice A0_1 l0_1.length c0_1] 35 (0, 0)) (by (with_reducible repeat (first | refine zC ?_ _ | refine zD ?_ | refine zB ?_ _)); exact BK335.out)) : gb335 ≠ gb336)); have n6_ := zA.mk ((by rw [hg]; exact Nat.ne_of_gt (blk_lt (g := gb335) (o := .cells #[.slice A0_0 l0_0.length c0_0, .slice A0_1 l0_1.length c0_1] 35 (0, 0)) (by (with_reducible repeat (first | refine zC ?_ _ | refine zD ?_ | refine zB ?_ _)); exact BK335.out)) : gb336 ≠ gb335)); clear BK335; clear HB; have BK335 := n0_; have HB := n1_; have BK336 := n2_; have GW336 := n3_; have GE336 := n4_; have NB335_336 := n5_; have NB336_335 := n6_; clear n0_ n1_ n2_ n3_ n4_ n5_ n6_; clear hb hbox hg; have hnb9 := NB335_336.out; have hnc9 := NB336_335.out; have hcz10_0 : w8.cell? ⟨gb335, 0, none⟩ = some (.slice A0_0 l0_0.length c0_0) := (zG BK335.out 0).trans rfl; have hcz10_1 : w8.cell? ⟨gb335, 1, none⟩ = some (.slice A0_1 l0_1.length c0_1) := (zG BK335.out 1).trans rfl; have hfz10_0 := zJ BK335.out 0; have hfz10_1 := zJ BK335.out 1) | ((with_reducible refine gate_callee (f := 32) rfl ?_); refine goesL_ (some 18) rfl rfl Try.func32 (by kernel_rfl) rfl #[.agg #[.slice A0_0 l0_0.length c0_0, .slice A0_1 l0_1.length c0_1], .int .i64 a1, .int .i64 a2, .int .u8 a3, .int .i64 a4] rfl (by (try simp only [List.map_toArray, List.map_cons, List.map_nil]); first | done | rfl | (simp only [List.length_drop, List.length_take]; rfl)) ?_; (with_reducible refine (stanzaref13_Cells.calls k _ _ l0_0 _ _ l0_1 a1 a2 a3 a4 t337 _ ?side1 ?side2 ?side3 ?side4 A6.out).mono ?_); (case side1 => repeat (first | exact (Kd.C_below HR0_0.out HB.out) | (with_reducible refine Kd.C_alloc ?_ _) | (with_reducible refine Kd.C_drewN ?_ _) | (with_reducible refine Kd.C_drew ?_))); (case side2 => exact HC0_0.out); (case side3 => repeat (first | exact (Kd.C_below HR0_1.out HB.out) | (with_reducible refine Kd.C_alloc ?_ _) | (with_reducible refine Kd.C_drewN ?_ _) | (with_reducible refine Kd.C_drew ?_))); (case side4 => exact HC0_1.out); rintro e w11 ⟨rfl, hb⟩; refine ⟨_, rfl, ?_⟩; have n0_ := zA.mk (zL (g := gb335) (o := .cells #[.slice A0_0 l0_0.length c0_0, .slice A0_1 l0_1.length c0_1] 35 (0, 0)) (by (with_reducible repeat (first | refine zC ?_ _ | refine zD ?_ | refine zB ?_ _)); exact BK335.out) hb); have n1_ := zA.mk (zL (g := gb336) (o := .cells #[.int .i64 0, .int .i64 0, .int .i64 0, .int .u8 0] 63 (0, 0)) (by (with_reducible repeat (first | refine zC ?_ _ | refine zD ?_ | refine zB ?_ _)); exact BK336.out) hb); have n2_ := zA.mk (zO (by repeat (first | (with_reducible first | exact HB.out | apply zI | apply zF | apply zH | refine zE ?_ GE335.out | refine zE ?_ GE336.out) | exact HB.out)) hb); clear BK335; clear BK336; clear HB; have BK335 := n0_; have BK336 := n1_; have HB := n2_; clear n0_ n1_ n2_; (try clear hb); (try clear hb2); (try clear hk); (try clear hi); have hcz12_0 : w11.cell? ⟨gb336, 0, none⟩ = some (.int .i64 0) := (zG BK336.out 0).trans rfl; have hcz12_1 : w11.cell? ⟨gb336, 1, none⟩ = some (.int .i64 0) := (zG BK336.out 1).trans rfl; have hcz12_2 : w11.cell? ⟨gb336, 2, none⟩ = some (.int .i64 0) := (zG BK336.out 2).trans rfl; have hcz12_3 : w11.cell? ⟨gb336, 3, none⟩ = some (.int .u8 0) := (zG BK336.out 3).trans rfl; have hfz12_0 := zJ BK336.out 0; have hfz12_1 := zJ BK336.out 1; have hfz12_2 := zJ BK336.out 2; have hfz12_3 := zJ BK336.out 3) | ((with_reducible refine gate_store (t := 63) (p := 10) rfl ?_); refine store_event (t := 63) (p := 10) (v := ?vo_w13) (w1 := ((((w11.setCell ⟨gb336, 0, none⟩ (.int .i64 a1)).setCell ⟨gb336, 1, none⟩ (.int .i64 a2)).setCell ⟨gb336, 2, none⟩ (.int .i64 t337)).setCell ⟨gb336, 3, none⟩ (.int .u8 a3))) ?hg ?ho ?hn ?hr ?_; (case ho => rfl); (case hg => rfl); (case hn => rfl); (case hr => first | (go_simp; done) | (go_simp; rfl)); intro w13 hw; have n0_ : zA (w13.heap[gb335]? = some (.cells #[.slice A0_0 l0_0.length c0_0, .slice A0_1 l0_1.length c0_1] 35 (0, 0))) := ⟨(by rw [hw]; exact (by (with_reducible repeat (first | refine zC ?_ _ | refine zD ?_ | refine zB ?_ _)); refine blk_far ?_ NB335_336.out _; (with_reducible repeat (first | refine zC ?_ _ | refine zD ?_ | refine zB ?_ _)); refine blk_far ?_ NB335_336.out _; (with_reducible repeat (first | refine zC ?_ _ | refine zD ?_ | refine zB ?_ _)); refine blk_far ?_ NB335_336.out _; (with_reducible repeat (first | refine zC ?_ _ | refine zD ?_ | refine zB ?_ _)); refine blk_far ?_ NB335_336.out _; (with_reducible repeat (first | refine zC ?_ _ | refine zD ?_ | refine zB ?_ _)); exact BK335.out))⟩; have n1_ : zA (w13.heap[gb336]? = some (.cells #[.int .i64 a1, .int .i64 a2, .int .i64 t337, .int .u8 a3] 63 (0, 0))) := ⟨(by rw [hw]; exact (by (with_reducible repeat (first | refine zC ?_ _ | refine zD ?_ | refine zB ?_ _)); refine blk_put (cs := #[.int .i64 a1, .int .i64 a2, .int .i64 t337, .int .u8 0]) ?_ 3 _ rfl; (with_reducible repeat (first | refine zC ?_ _ | refine zD ?_ | refine zB ?_ _)); refine blk_put (cs := #[.int .i64 a1, .int .i64 a2, .int .i64 0, .int .u8 0]) ?_ 2 _ rfl; (with_reducible repeat (first | refine zC ?_ _ | refine zD ?_ | refine zB ?_ _)); refine blk_put (cs := #[.int .i64 a1, .int .i64 0, .int .i64 0, .int .u8 0]) ?_ 1 _ rfl; (with_reducible repeat (first | refine zC ?_ _ | refine zD ?_ | refine zB ?_ _)); refine blk_put (cs := #[.int .i64 0, .int .i64 0, .int .i64 0, .int .u8 0]) ?_ 0 _ rfl; (with_reducible repeat (first | refine zC ?_ _ | refine zD ?_ | refine zB ?_ _)); exact BK336.out))⟩; have n2_ : zA (Below w.heap.size w w13) := ⟨(by rw [hw]; exact (by repeat (first | (with_reducible first | exact HB.out | apply zI | apply zF | apply zH | refine zE ?_ GE335.out | refine zE ?_ GE336.out) | exact HB.out)))⟩; clear hw; clear BK335; clear BK336; clear HB; have BK335 := n0_; have BK336 := n1_; have HB := n2_; clear n0_ n1_ n2_))
  refine bodyPost_ret (results_cell_row rfl _ _ gb336 63 #[.int .i64 a1, .int .i64 a2, .int .i64 t337, .int .u8 a3] (0, 0) _ rfl (by (with_reducible repeat (first | refine zC ?_ _ | refine zD ?_ | refine zB ?_ _)); exact BK336.out) Try.underlying63 rfl (by kernel_rfl)) rfl ?_
  exact ⟨by first | rfl | (simp [errW_none, errW_some] <;> rfl) | (simp [*, errW_none, errW_some] <;> rfl), by repeat (first | (with_reducible first | exact HB.out | apply zI | apply zF | apply zH | refine zE ?_ GE335.out | refine zE ?_ GE336.out) | exact HB.out)⟩
end Go.Proofs.Ytbnoeeflpegcoaa.F
end
section
namespace Go.Proofs.Ytbnoeeflpegcoaa.F
open Go.RowKit Go.Proofs.YtbnoeeflpegcoaaW.PrintWords Go.Proofs.YtbnoeeflpegcoaaW.PrintLast Go.Proofs.YtbnoeeflpegcoaaW.PrintMore
attribute [local go_sem] max2_int min2_int max_two min_two max_three min_three max_four min_four   -- for this text's walks alone
set_option linter.unusedVariables false
set_option linter.unusedSimpArgs false
mutual
def stanzaref13_First.l0 : Nat → Int → Int → List (S63) → List (S41) → List Int → Int → Int → Int → Int → Int → Nat → Option ((List (S63)))
  | 0, _, _, _, _, _, _, _, _, _, _, _ => none
  | k + 1, x1, x2, x9, x374000, x374001, x375000, x375001, x375002, x375003, x375004, x375005 => if x1 < x2 then (stanzaref13_First.l1 k x1 x2 x9 (-1) (-1) (wrap64 (x1 + 1)) x374000 x374001 x375000 x375001 x375002 x375003 x375004 x375005) else (some x9)
def stanzaref13_First.l1 : Nat → Int → Int → List (S63) → Int → Int → Int → List (S41) → List Int → Int → Int → Int → Int → Int → Nat → Option ((List (S63)))
  | 0, _, _, _, _, _, _, _, _, _, _, _, _, _, _ => none
  | k + 1, x1, x2, x9, x10, x11, x12, x374000, x374001, x375000, x375001, x375002, x375003, x375004, x375005 => if x12 ≤ x2 then ((stanzaref13_Cells.f k x374000 x374001 x1 x12 0 x375001).bind fun t375 => (if t375 ≤ x375000 then (if 0 ≤ x12 then (if x12 < (x374001.length : Int) then (if (rd x374001 x12) = 0 then (stanzaref13_First.l1 k x1 x2 x9 x10 x12 (wrap64 (x12 + 1)) x374000 x374001 x375000 x375001 x375002 x375003 x375004 x375005) else ((stanzaref13_Cells.f k x374000 x374001 x1 x12 (rd x374001 x12) x375001).bind fun t378 => (if t378 ≤ x375000 then (stanzaref13_First.l1 k x1 x2 x9 x12 x12 (wrap64 (x12 + 1)) x374000 x374001 x375000 x375001 x375002 x375003 x375004 x375005) else (stanzaref13_First.l1 k x1 x2 x9 x10 x12 (wrap64 (x12 + 1)) x374000 x374001 x375000 x375001 x375002 x375003 x375004 x375005)))) else (none)) else (none)) else (stanzaref13_First.l1 k x1 x2 x9 x10 x11 (wrap64 (x12 + 1)) x374000 x374001 x375000 x375001 x375002 x375003 x375004 x375005))) else (if x10 ≥ 0 then (if 0 ≤ x10 then (if x10 < (x374001.length : Int) then ((stanzaref13_Line.f k x374000 x374001 x1 x10 (rd x374001 x10) x375001).bind fun bt380 => (if x9.length < 4398046511104 then (stanzaref13_First.l0 k x10 x2 (x9 ++ [(⟨bt380.1, bt380.2.1, bt380.2.2.1, bt380.2.2.2⟩ : S63)]) x374000 x374001 x375000 x375001 x375002 x375003 x375004 x375005) else (none))) else (none)) else (none)) else (if x11 < 0 then (if 0 ≤ (wrap64 (x1 + 1)) then (if (wrap64 (x1 + 1)) < (x374001.length : Int) then (if (rd x374001 (wrap64 (x1 + 1))) = 2 then ((stanzaref13_Line.f k x374000 x374001 x1 (wrap64 (x1 + 1)) (rd x374001 (wrap64 (x1 + 1))) x375001).bind fun bt389 => (if x9.length < 4398046511104 then (stanzaref13_First.l0 k (wrap64 (x1 + 1)) x2 (x9 ++ [(⟨bt389.1, bt389.2.1, bt389.2.2.1, bt389.2.2.2⟩ : S63)]) x374000 x374001 x375000 x375001 x375002 x375003 x375004 x375005) else (none))) else (if (rd x374001 (wrap64 (x1 + 1))) = 1 then ((stanzaref13_Line.f k x374000 x374001 x1 (wrap64 (x1 + 1)) (rd x374001 (wrap64 (x1 + 1))) x375001).bind fun bt398 => (if x9.length < 4398046511104 then (stanzaref13_First.l0 k (wrap64 (x1 + 1)) x2 (x9 ++ [(⟨bt398.1, bt398.2.1, bt398.2.2.1, bt398.2.2.2⟩ : S63)]) x374000 x374001 x375000 x375001 x375002 x375003 x375004 x375005) else (none))) else ((stanzaref13_Line.f k x374000 x374001 x1 (wrap64 (x1 + 1)) 4 x375001).bind fun bt405 => (if x9.length < 4398046511104 then (stanzaref13_First.l0 k (wrap64 (x1 + 1)) x2 (x9 ++ [(⟨bt405.1, bt405.2.1, bt405.2.2.1, bt405.2.2.2⟩ : S63)]) x374000 x374001 x375000 x375001 x375002 x375003 x375004 x375005) else (none))))) else (none)) else (none)) else (if 0 ≤ x11 then (if x11 < (x374001.length : Int) then (if (rd x374001 x11) = 2 then ((stanzaref13_Line.f k x374000 x374001 x1 x11 (rd x374001 x11) x375001).bind fun bt414 => (if x9.length < 4398046511104 then (stanzaref13_First.l0 k x11 x2 (x9 ++ [(⟨bt414.1, bt414.2.1, bt414.2.2.1, bt414.2.2.2⟩ : S63)]) x374000 x374001 x375000 x375001 x375002 x375003 x375004 x375005) else (none))) else (if (rd x374001 x11) = 1 then ((stanzaref13_Line.f k x374000 x374001 x1 x11 (rd x374001 x11) x375001).bind fun bt423 => (if x9.length < 4398046511104 then (stanzaref13_First.l0 k x11 x2 (x9 ++ [(⟨bt423.1, bt423.2.1, bt423.2.2.1, bt423.2.2.2⟩ : S63)]) x374000 x374001 x375000 x375001 x375002 x375003 x375004 x375005) else (none))) else ((stanzaref13_Line.f k x374000 x374001 x1 x11 4 x375001).bind fun bt430 => (if x9.length < 4398046511104 then (stanzaref13_First.l0 k x11 x2 (x9 ++ [(⟨bt430.1, bt430.2.1, bt430.2.2.1, bt430.2.2.2⟩ : S63)]) x374000 x374001 x375000 x375001 x375002 x375003 x375004 x375005) else (none))))) else (none)) else (none))))
end
def stanzaref13_First.f (k : Nat) (l0_0 : List (S41)) (l0_1 : List Int) (a1 : Int) (a2 : Int) (a3_0 : Int) (a3_1 : Int) (a3_2 : Int) (a3_3 : Int) (a3_4 : Int) (a3_5 : Nat) : Option ((List (S63))) := stanzaref13_First.l0 k a1 a2 ([] : List (S63)) l0_0 l0_1 a3_0 a3_1 a3_2 a3_3 a3_4 a3_5
theorem stanzaref13_First.mono_l : ∀ k, (∀ y0 y1 y2 y3 y4 y5 y6 y7 y8 y9 y10, LeO (stanzaref13_First.l0 k y0 y1 y2 y3 y4 y5 y6 y7 y8 y9 y10) (stanzaref13_First.l0 (k + 1) y0 y1 y2 y3 y4 y5 y6 y7 y8 y9 y10)) ∧ (∀ y0 y1 y2 y3 y4 y5 y6 y7 y8 y9 y10 y11 y12 y13, LeO (stanzaref13_First.l1 k y0 y1 y2 y3 y4 y5 y6 y7 y8 y9 y10 y11 y12 y13) (stanzaref13_First.l1 (k + 1) y0 y1 y2 y3 y4 y5 y6 y7 y8 y9 y10 y11 y12 y13))
  | 0 => ⟨fun _ _ _ _ _ _ _ _ _ _ _ r h => by simp [stanzaref13_First.l0] at h, fun _ _ _ _ _ _ _ _ _ _ _ _ _ _ r h => by simp [stanzaref13_First.l1] at h⟩
  | k + 1 => by
    obtain ⟨ih0, ih1⟩ := stanzaref13_First.mono_l k; refine ⟨?_, ?_⟩
    · intro y0 y1 y2 y3 y4 y5 y6 y7 y8 y9 y10
      unfold stanzaref13_First.l0
      repeat' first
      | (with_reducible exact ih0 _ _ _ _ _ _ _ _ _ _ _)
      | (with_reducible exact ih1 _ _ _ _ _ _ _ _ _ _ _ _ _ _)
      | (with_reducible exact stanzaref13_Cells.mono _ _ _ _ _ _ _)
      | (with_reducible exact stanzaref13_Line.mono _ _ _ _ _ _ _)
      | (with_reducible exact LeO.refl _)
      | (with_reducible exact LeO.none _)
      | (with_reducible refine LeO.ite ?_ ?_)
      | (with_reducible refine LeO.bind ?_ (fun _ => ?_))
      | exact ih0 _ _ _ _ _ _ _ _ _ _ _
      | exact ih1 _ _ _ _ _ _ _ _ _ _ _ _ _ _
      | exact stanzaref13_Cells.mono _ _ _ _ _ _ _
      | exact stanzaref13_Line.mono _ _ _ _ _ _ _
      | exact LeO.none _
      | refine LeO.ite ?_ ?_
      | refine LeO.bind ?_ (fun _ => ?_)
    · intro y0 y1 y2 y3 y4 y5 y6 y7 y8 y9 y10 y11 y12 y13
      unfold stanzaref13_First.l1
      repeat' first
      | (with_reducible exact ih0 _ _ _ _ _ _ _ _ _ _ _)
      | (with_reducible exact ih1 _ _ _ _ _ _ _ _ _ _ _ _ _ _)
      | (with_reducible exact stanzaref13_Cells.mono _ _ _ _ _ _ _)
      | (with_reducible exact stanzaref13_Line.mono _ _ _ _ _ _ _)
      | (with_reducible exact LeO.refl _)
      | (with_reducible exact LeO.none _)
      | (with_reducible refine LeO.ite ?_ ?_)
      | (with_reducible refine LeO.bind ?_ (fun _ => ?_))
      | exact ih0 _ _ _ _ _ _ _ _ _ _ _
      | exact ih1 _ _ _ _ _ _ _ _ _ _ _ _ _ _
      | exact stanzaref13_Cells.mono _ _ _ _ _ _ _
      | exact stanzaref13_Line.mono _ _ _ _ _ _ _
      | exact LeO.none _
      | refine LeO.ite ?_ ?_
      | refine LeO.bind ?_ (fun _ => ?_)
theorem stanzaref13_First.mono : ∀ a0 a1 a2 a3 a4 a5 a6 a7 a8 a9 k, LeO (stanzaref13_First.f k a0 a1 a2 a3 a4 a5 a6 a7 a8 a9) (stanzaref13_First.f (k + 1) a0 a1 a2 a3 a4 a5 a6 a7 a8 a9) := by
  intro a0 a1 a2 a3 a4 a5 a6 a7 a8 a9 k
  obtain ⟨ih0, ih1⟩ := stanzaref13_First.mono_l k; unfold stanzaref13_First.f
  repeat' first
      | (with_reducible exact ih0 _ _ _ _ _ _ _ _ _ _ _)
      | (with_reducible exact ih1 _ _ _ _ _ _ _ _ _ _ _ _ _ _)
      | (with_reducible exact stanzaref13_Cells.mono _ _ _ _ _ _ _)
      | (with_reducible exact stanzaref13_Line.mono _ _ _ _ _ _ _)
      | (with_reducible exact LeO.refl _)
      | (with_reducible exact LeO.none _)
      | (with_reducible refine LeO.ite ?_ ?_)
      | (with_reducible refine LeO.bind ?_ (fun _ => ?_))
      | exact ih0 _ _ _ _ _ _ _ _ _ _ _
      | exact ih1 _ _ _ _ _ _ _ _ _ _ _ _ _ _
      | exact stanzaref13_Cells.mono _ _ _ _ _ _ _
      | exact stanzaref13_Line.mono _ _ _ _ _ _ _
      | exact LeO.none _
      | refine LeO.ite ?_ ?_
      | refine LeO.bind ?_ (fun _ => ?_)
def stanzaref13_First.T7 : Bool × List (List Nat × List Nat) := (true, [([], []), ([], []), ([], []), ([], []), ([3], [3]), ([0, 1, 2, 4], [0, 1, 2, 4]), ([], []), ([6], [6]), ([5, 7], [5, 7])])
def stanzaref13_First.B7 : List Nat := [0, 0, 0, 0, 8, 31, 0, 64, 255]
theorem stanzaref13_First.tab7 : rtab .any (opsOf Try.f45 7) = stanzaref13_First.T7 := by kernel_rfl
theorem stanzaref13_First.bits7 : waitsOk stanzaref13_First.T7.2 stanzaref13_First.B7 = true := by kernel_rfl
def stanzaref13_First.T9 : Bool × List (List Nat × List Nat) := (true, [([], []), ([0], [0]), ([], []), ([1, 2], [1, 2]), ([3], [3]), ([4], [4]), ([5], [5]), ([6], [6]), ([6], [6]), ([6], [6]), ([6], [6]), ([10, 6], [6, 10]), ([6], [6]), ([11, 12, 6], [6, 11, 12]), ([13, 6], [6, 13]), ([6], [6]), ([15, 6], [6, 15]), ([7, 8, 9, 14, 16, 6, 6], [6, 7, 8, 9, 14, 16]), ([6], [6]), ([18, 6], [6, 18]), ([17, 19, 6], [6, 17, 19]), ([6, 20], [6, 20])])
def stanzaref13_First.B9 : List Nat := [0, 1, 0, 7, 15, 31, 63, 127, 127, 127, 127, 1151, 127, 7295, 15487, 127, 32895, 131071, 127, 262271, 1048575, 2097151]
theorem stanzaref13_First.tab9 : rtab .any (opsOf Try.f45 9) = stanzaref13_First.T9 := by kernel_rfl
theorem stanzaref13_First.bits9 : waitsOk stanzaref13_First.T9.2 stanzaref13_First.B9 = true := by kernel_rfl
set_option maxHeartbeats 8000000 in
set_option maxRecDepth 100000 in
theorem stanzaref13_First.calls (k : Nat) (A0_0 : Option Addr) (c0_0 : Nat) (l0_0 : List (S41)) (A0_1 : Option Addr) (c0_1 : Nat) (l0_1 : List Int) (a1 : Int) (a2 : Int) (a3_0 : Int) (a3_1 : Int) (a3_2 : Int) (a3_3 : Int) (a3_4 : Int) (a3_5 : Nat) (r : List (S63)) (w : World) (hr0_0 : Kd.C k41 w A0_0 l0_0.length l0_0) (hc0_0 : l0_0.length ≤ c0_0) (hr0_1 : Kd.C (Kd.int .u8) w A0_1 l0_1.length l0_1) (hc0_1 : l0_1.length ≤ c0_1) (h : stanzaref13_First.f k l0_0 l0_1 a1 a2 a3_0 a3_1 a3_2 a3_3 a3_4 a3_5 = some r) :
    Calls Try.prog 45 #[.agg #[.slice A0_0 l0_0.length c0_0, .slice A0_1 l0_1.length c0_1], .int .i64 a1, .int .i64 a2, .agg #[.int .i64 a3_0, .int .i64 a3_1, .int .u8 a3_2, .int .i64 a3_3, .int .i64 a3_4, .float .f64 a3_5]] w fun e w' => ∃ v0_ : Value, e = .returned (v0_) ∧ Kd.R k63 63 w' w.heap.size (fun _ => True) v0_ r ∧ Below w.heap.size w w' := by
  have hu35 := Try.underlying35; have hu58 := Try.underlying58; have HR0_0 := zA.mk hr0_0; have HC0_0 := zA.mk hc0_0; clear hr0_0 hc0_0; have HR0_1 := zA.mk hr0_1; have HC0_1 := zA.mk hc0_1; clear hr0_1 hc0_1; have HB := zA.mk (Below.refl w.heap.size w); have H : (stanzaref13_First.l0 k a1 a2 ([] : List (S63)) l0_0 l0_1 a3_0 a3_1 a3_2 a3_3 a3_4 a3_5) = some r := h
  clear h; have H' := zA.mk H
  clear H; go_enter Try.func45, Try.ntmps45
  go_wp2_with (first | ((with_reducible refine gate_dst (N := 4) rfl ?_); refine box_event ?hg (N := 4) ?hd (cs := #[.slice A0_0 l0_0.length c0_0, .slice A0_1 l0_1.length c0_1]) (t := 35) ?hr ?_; (case hd => rfl); (case hg => rfl); (case hr => first | (go_simp; done) | (go_simp; rfl)); intro gb373 hg w5 hbox hb; have n0_ := zA.mk (zO (by repeat (first | (with_reducible first | exact HB.out | apply zI | apply zF | apply zH) | exact HB.out)) hb); have n1_ := zA.mk (hbox); have n2_ := zA.mk ((by rw [hg]; exact (zK (by repeat (first | (with_reducible first | exact HB.out | apply zI | apply zF | apply zH) | exact HB.out))) : w.heap.size ≤ gb373)); have n3_ := zA.mk ((by rw [hg]; exact (zK (by repeat (first | (with_reducible first | exact HB.out | apply zI | apply zF | apply zH) | exact HB.out))) : w.heap.size ≤ gb373)); clear HB; have HB := n0_; have BK373 := n1_; have GW373 := n2_; have GE373 := n3_; clear n0_ n1_ n2_ n3_; clear hb hbox hg) | ((with_reducible refine gate_dst (N := 7) rfl ?_); refine box_event ?hg (N := 7) ?hd (cs := #[.int .i64 a3_0, .int .i64 a3_1, .int .u8 a3_2, .int .i64 a3_3, .int .i64 a3_4, .float .f64 a3_5]) (t := 58) ?hr ?_; (case hd => rfl); (case hg => rfl); (case hr => first | (go_simp; done) | (go_simp; rfl)); intro gb374 hg w6 hbox hb; have n0_ := zA.mk (zL (g := gb373) (o := .cells #[.slice A0_0 l0_0.length c0_0, .slice A0_1 l0_1.length c0_1] 35 (0, 0)) (by (with_reducible repeat (first | refine zC ?_ _ | refine zD ?_ | refine zB ?_ _)); exact BK373.out) hb); have n1_ := zA.mk (zO (by repeat (first | (with_reducible first | exact HB.out | apply zI | apply zF | apply zH | refine zE ?_ GE373.out) | exact HB.out)) hb); have n2_ := zA.mk (hbox); have n3_ := zA.mk ((by rw [hg]; exact (zK (by repeat (first | (with_reducible first | exact HB.out | apply zI | apply zF | apply zH | refine zE ?_ GE373.out) | exact HB.out))) : w.heap.size ≤ gb374)); have n4_ := zA.mk ((by rw [hg]; exact (zK (by repeat (first | (with_reducible first | exact HB.out | apply zI | apply zF | apply zH | refine zE ?_ GE373.out) | exact HB.out))) : w.heap.size ≤ gb374)); have n5_ := zA.mk ((by rw [hg]; exact Nat.ne_of_lt (blk_lt (g := gb373) (o := .cells #[.slice A0_0 l0_0.length c0_0, .slice A0_1 l0_1.length c0_1] 35 (0, 0)) (by (with_reducible repeat (first | refine zC ?_ _ | refine zD ?_ | refine zB ?_ _)); exact BK373.out)) : gb373 ≠ gb374)); have n6_ := zA.mk ((by rw [hg]; exact Nat.ne_of_gt (blk_lt (g := gb373) (o := .cells #[.slice A0_0 l0_0.length c0_0, .slice A0_1 l0_1.length c0_1] 35 (0, 0)) (by (with_reducible repeat (first | refine zC ?_ _ | refine zD ?_ | refine zB ?_ _)); exact BK373.out)) : gb374 ≠ gb373)); clear BK373; clear HB; have BK373 := n0_; have HB := n1_; have BK374 := n2_; have GW374 := n3_; have GE374 := n4_; have NB373_374 := n5_; have NB374_373 := n6_; clear n0_ n1_ n2_ n3_ n4_ n5_ n6_; clear hb hbox hg))
  go_loopg [1, 9] k (fun kq v1 v9 w' => ∃ (x1_1 : Int) (x9_1 : List (S63)), v1 = .int .i64 x1_1 ∧ zA (stanzaref13_First.l0 kq x1_1 a2 x9_1 l0_0 l0_1 a3_0 a3_1 a3_2 a3_3 a3_4 a3_5 = some r) ∧ zA (kq ≤ k) ∧ zA (Kd.R k63 63 w' w.heap.size (fun _ => True) v9 x9_1) ∧ zA (w'.heap[gb373]? = some (.cells #[(.slice A0_0 l0_0.length c0_0), (.slice A0_1 l0_1.length c0_1)] 35 (0, 0))) ∧ zA (w'.heap[gb374]? = some (.cells #[.int .i64 a3_0, .int .i64 a3_1, .int .u8 a3_2, .int .i64 a3_3, .int .i64 a3_4, .float .f64 a3_5] 58 (0, 0))) ∧ zA (Below w.heap.size w w'))
  case atStart => exact ⟨(a1), (([] : List (S63))), (by first | rfl | (simp; done) | (simp [*]; done)), H', ⟨Nat.le_refl _⟩, ⟨by first | exact Kd.R_nil _ _ _ _ _ | exact Kd.N_nil _ _ _ _ _ | exact Kd.V_nil _ _ _ _ _ | exact Kd.Q_nil _ _ _ _ _ | exact Kd.S_nil _ _ _ _ _⟩, ⟨by (with_reducible repeat (first | refine zC ?_ _ | refine zD ?_ | refine zB ?_ _)); exact BK373.out⟩, ⟨by (with_reducible repeat (first | refine zC ?_ _ | refine zD ?_ | refine zB ?_ _)); exact BK374.out⟩, ⟨by repeat (first | (with_reducible first | exact HB.out | apply zI | apply zF | apply zH | refine zE ?_ GE373.out | refine zE ?_ GE374.out) | exact HB.out)⟩⟩
  case round =>
    clear H'; try clear p2
    try clear c4
    obtain ⟨x1_1, x9_1, rfl, HA, HK1, HO_9, BK373, BK374, HB⟩ := hrel; cases gk with
    | zero => exact absurd HA.out (by simp [stanzaref13_First.l0])
    | succ k1 =>
      have H := HA.out; clear HA; simp only [stanzaref13_First.l0] at H; by_cases c7 : x1_1 < a2
      · rw [if_pos c7] at H
        have c7b0 : decide (x1_1 < a2) = true := decide_eq_true c7
        clear c7; have H' := zA.mk H
        clear H; go_wp2
        go_loopg [10, 11, 12] k1 (fun kq v10 v11 v12 w' => ∃ (x10_2 : Int) (x11_2 : Int) (x12_2 : Int), v10 = .int .i64 x10_2 ∧ v11 = .int .i64 x11_2 ∧ v12 = .int .i64 x12_2 ∧ zA (stanzaref13_First.l1 kq x1_1 a2 x9_1 x10_2 x11_2 x12_2 l0_0 l0_1 a3_0 a3_1 a3_2 a3_3 a3_4 a3_5 = some r) ∧ zA (kq ≤ k1) ∧ zA (Kd.R k63 63 w' w.heap.size (fun _ => True) u9 x9_1) ∧ zA (w'.heap[gb373]? = some (.cells #[(.slice A0_0 l0_0.length c0_0), (.slice A0_1 l0_1.length c0_1)] 35 (0, 0))) ∧ zA (w'.heap[gb374]? = some (.cells #[.int .i64 a3_0, .int .i64 a3_1, .int .u8 a3_2, .int .i64 a3_3, .int .i64 a3_4, .float .f64 a3_5] 58 (0, 0))) ∧ zA (Below w.heap.size w w'))
        case atStart => exact ⟨((-1)), ((-1)), (wrap64 (x1_1 + 1)), (by first | rfl | (simp; done) | (simp [*]; done)), (by first | rfl | (simp; done) | (simp [*]; done)), (by first | rfl | (simp; done) | (simp [*]; done)), H', ⟨Nat.le_refl _⟩, ⟨by (with_reducible repeat (first | apply Kd.R_alloc | apply Kd.R_drewN | apply Kd.R_drew)); exact HO_9.out⟩, ⟨by (with_reducible repeat (first | refine zC ?_ _ | refine zD ?_ | refine zB ?_ _)); exact BK373.out⟩, ⟨by (with_reducible repeat (first | refine zC ?_ _ | refine zD ?_ | refine zB ?_ _)); exact BK374.out⟩, ⟨by repeat (first | (with_reducible first | exact HB.out | apply zI | apply zF | apply zH | refine zE ?_ GE373.out | refine zE ?_ GE374.out) | exact HB.out)⟩⟩
        case round =>
          clear H'; try clear p2
          try clear c4
          try clear p6
          try clear c7
          try clear c7b0
          try clear p2
          obtain ⟨x10_2, x11_2, x12_2, rfl, rfl, rfl, HA, HK2, HO_9, BK373, BK374, HB⟩ := hrel; cases gk with
          | zero => exact absurd HA.out (by simp [stanzaref13_First.l1])
          | succ k2 =>
            have H := HA.out; clear HA; simp only [stanzaref13_First.l1] at H; by_cases c8 : x12_2 ≤ a2
            · rw [if_pos c8] at H
              have c8b0 : decide (x12_2 ≤ a2) = true := decide_eq_true c8
              clear c8; replace H := Option.bind_eq_some_iff.mp H; obtain ⟨t375, A90, H⟩ := H; replace H : (if t375 ≤ a3_0 then (if 0 ≤ x12_2 then (if x12_2 < (l0_1.length : Int) then (if (rd l0_1 x12_2) = 0 then (stanzaref13_First.l1 k2 x1_1 a2 x9_1 x10_2 x12_2 (wrap64 (x12_2 + 1)) l0_0 l0_1 a3_0 a3_1 a3_2 a3_3 a3_4 a3_5) else ((stanzaref13_Cells.f k2 l0_0 l0_1 x1_1 x12_2 (rd l0_1 x12_2) a3_1).bind fun t378 => (if t378 ≤ a3_0 then (stanzaref13_First.l1 k2 x1_1 a2 x9_1 x12_2 x12_2 (wrap64 (x12_2 + 1)) l0_0 l0_1 a3_0 a3_1 a3_2 a3_3 a3_4 a3_5) else (stanzaref13_First.l1 k2 x1_1 a2 x9_1 x10_2 x12_2 (wrap64 (x12_2 + 1)) l0_0 l0_1 a3_0 a3_1 a3_2 a3_3 a3_4 a3_5)))) else (none)) else (none)) else (stanzaref13_First.l1 k2 x1_1 a2 x9_1 x10_2 x11_2 (wrap64 (x12_2 + 1)) l0_0 l0_1 a3_0 a3_1 a3_2 a3_3 a3_4 a3_5)) = some r := H
              have A9 := zA.mk A90; clear A90; by_cases c10 : t375 ≤ a3_0
              · rw [if_pos c10] at H
                have c10b0 : decide (t375 ≤ a3_0) = true := decide_eq_true c10
                clear c10; by_cases c11 : 0 ≤ x12_2
                · rw [if_pos c11] at H
                  have c11b0 : decide (0 ≤ x12_2) = true := decide_eq_true c11
                  clear c11; by_cases c12 : x12_2 < (l0_1.length : Int)
                  · rw [if_pos c12] at H
                    have c12b0 : decide (x12_2 < (l0_1.length : Int)) = true := decide_eq_true c12
                    clear c12; by_cases c13 : (rd l0_1 x12_2) = 0
                    · rw [if_pos c13] at H
                      have c13b0 : ((rd l0_1 x12_2) == 0) = true := beq_iff_eq.mpr c13
                      have c13b1 : ((rd l0_1 x12_2) != 0) = false := bne_eq_false_iff_eq.mpr c13
                      clear c13; have H' := zA.mk H
                      clear H; try go_wp2
                      have n0_ := zA.mk (Kd.R_drew HO_9.out); have n1_ := zA.mk (zD BK373.out); have n2_ := zA.mk (zD BK374.out); have n3_ := zA.mk (zH HB.out); clear HO_9; clear BK373; clear BK374; clear HB; have HO_9 := n0_; have BK373 := n1_; have BK374 := n2_; have HB := n3_; clear n0_ n1_ n2_ n3_; refine start_ (n := 9) (S := fun w' => w'.cell? ⟨gb373, 0, none⟩ = some (.slice A0_0 l0_0.length c0_0) ∧ w'.cell? ⟨gb373, 1, none⟩ = some (.slice A0_1 l0_1.length c0_1) ∧ w'.cell? ⟨gb374, 0, none⟩ = some (.int .i64 a3_0) ∧ w'.cell? ⟨gb374, 1, none⟩ = some (.int .i64 a3_1) ∧ w'.cell? ⟨gb374, 2, none⟩ = some (.int .u8 a3_2) ∧ w'.cell? ⟨gb374, 3, none⟩ = some (.int .i64 a3_3) ∧ w'.cell? ⟨gb374, 4, none⟩ = some (.int .i64 a3_4) ∧ w'.cell? ⟨gb374, 5, none⟩ = some (.float .f64 a3_5)) (ds := []) #[false, false, false, false, false, false, false, false, false] (by kernel_rfl) rfl rfl ⟨(zG BK373.out 0).trans rfl, (zG BK373.out 1).trans rfl, (zG BK374.out 0).trans rfl, (zG BK374.out 1).trans rfl, (zG BK374.out 2).trans rfl, (zG BK374.out 3).trans rfl, (zG BK374.out 4).trans rfl, (zG BK374.out 5).trans rfl⟩ (fun hHeld => ?_); refine with_tabW stanzaref13_First.tab7 stanzaref13_First.bits7 (fun HT_ HW_ => ?_)
                      generalize wr.drew = w14 at HO_9 BK373 BK374 HB hHeld ⊢
                      refine pure_ (i := 1) (N := some 25) (v := ?_) (a' := ?_) #[false, true, false, false, false, false, false, false, false] rfl rfl (any_of HT_.out (by kernel_rfl)) (fun _ _ _ h => h) (Or.inl ⟨by rfl, ?_⟩) ?_ ?_
                      rotate_left
                      · intro w'
                        go_simp
                        with_reducible rfl
                      rotate_left
                      · simp only [Act.put, List.setIfInBounds_toArray, List.set_cons_zero, List.set_cons_succ, zM, zN]
                        rfl
                      refine pure_ (i := 2) (N := some 26) (v := ?_) (a' := ?_) #[false, true, true, false, false, false, false, false, false] rfl rfl (any_of HT_.out (by kernel_rfl)) (fun _ _ _ h => h) (Or.inl ⟨by rfl, ?_⟩) ?_ ?_
                      rotate_left
                      · intro w'
                        go_simp
                        with_reducible rfl
                      rotate_left
                      · simp only [Act.put, List.setIfInBounds_toArray, List.set_cons_zero, List.set_cons_succ, zM, zN]
                        rfl
                      refine pure_ (i := 3) (N := some 27) (v := ?_) (a' := ?_) #[false, true, true, true, false, false, false, false, false] rfl rfl (any_of HT_.out (by kernel_rfl)) (fun _ _ _ h => h) (Or.inl ⟨by rfl, ?_⟩) ?_ ?_
                      rotate_left
                      · intro w'
                        go_simp
                        with_reducible rfl
                      rotate_left
                      · simp only [Act.put, List.setIfInBounds_toArray, List.set_cons_zero, List.set_cons_succ, zM, zN]
                        rfl
                      refine pure_ (i := 6) (N := some 30) (v := ?_) (a' := ?_) #[false, true, true, true, false, false, true, false, false] rfl rfl (any_of HT_.out (by kernel_rfl)) (fun _ _ _ h => h) (Or.inl ⟨by rfl, ?_⟩) ?_ ?_
                      rotate_left
                      · intro w'
                        go_simp
                        with_reducible rfl
                      rotate_left
                      · simp only [Act.put, List.setIfInBounds_toArray, List.set_cons_zero, List.set_cons_succ, zM, zN]
                        rfl
                      refine take_ (i := 0) (N := some 24) (v := ?_) (a' := ?_) #[true, true, true, true, false, false, true, false, false] rfl rfl (take_ofW HT_.out HW_.out (by kernel_rfl)) (fun _ _ _ h => h) (Or.inl ⟨by rfl, ?_⟩) hHeld ?_ ?_
                      rotate_left
                      · rintro w' ⟨s0, s1, s2, s3, s4, s5, s6, s7⟩
                        go_simp
                        with_reducible rfl
                      rotate_left
                      · simp only [Act.put, List.setIfInBounds_toArray, List.set_cons_zero, List.set_cons_succ, zM, zN]
                        rfl
                      refine take_ (i := 4) (N := some 28) (v := ?_) (a' := ?_) #[true, true, true, true, true, false, true, false, false] rfl rfl (take_ofW HT_.out HW_.out (by kernel_rfl)) (fun _ _ _ h => h) (Or.inl ⟨by rfl, ?_⟩) hHeld ?_ ?_
                      rotate_left
                      · rintro w' ⟨s0, s1, s2, s3, s4, s5, s6, s7⟩
                        go_simp
                        with_reducible rfl
                      rotate_left
                      · simp only [Act.put, List.setIfInBounds_toArray, List.set_cons_zero, List.set_cons_succ, zM, zN]
                        rfl
                      refine take_ (i := 7) (N := some 31) (v := ?_) (a' := ?_) #[true, true, true, true, true, false, true, true, false] rfl rfl (take_ofW HT_.out HW_.out (by kernel_rfl)) (fun _ _ _ h => h) (Or.inl ⟨by rfl, ?_⟩) hHeld ?_ ?_
                      rotate_left
                      · rintro w' ⟨s0, s1, s2, s3, s4, s5, s6, s7⟩
                        go_simp
                        with_reducible rfl
                      rotate_left
                      · simp only [Act.put, List.setIfInBounds_toArray, List.set_cons_zero, List.set_cons_succ, zM, zN]
                        rfl
                      refine one_ (i := 5) (N := some 29) #[true, true, true, true, true, true, true, true, false] rfl rfl (one_of HT_.out (by kernel_rfl)) (by decide) (fun K hK => ?_)
                      refine goes_ Try.func32 (by kernel_rfl) rfl #[.agg #[.slice A0_0 l0_0.length c0_0, .slice A0_1 l0_1.length c0_1], .int .i64 x1_1, .int .i64 x12_2, .int .u8 0, .int .i64 a3_1] (by rfl) rfl rfl (by (try simp only [List.map_toArray, List.map_cons, List.map_nil]); first | done | rfl | (simp only [List.length_drop, List.length_take]; rfl)) ?_
                      with_reducible refine (stanzaref13_Cells.calls k2 _ _ l0_0 _ _ l0_1 x1_1 x12_2 0 a3_1 t375 _ ?side1 ?side2 ?side3 ?side4 A9.out).mono ?_
                      (case side1 => repeat (first | exact (Kd.C_below HR0_0.out HB.out) | (with_reducible refine Kd.C_alloc ?_ _) | (with_reducible refine Kd.C_drewN ?_ _) | (with_reducible refine Kd.C_drew ?_)))
                      (case side2 => exact HC0_0.out)
                      (case side3 => repeat (first | exact (Kd.C_below HR0_1.out HB.out) | (with_reducible refine Kd.C_alloc ?_ _) | (with_reducible refine Kd.C_drewN ?_ _) | (with_reducible refine Kd.C_drew ?_)))
                      (case side4 => exact HC0_1.out)
                      rintro e w15 ⟨rfl, hb⟩
                      refine ⟨_, rfl, ?_⟩
                      have n0_ := zA.mk (Kd.R_below (by (with_reducible repeat (first | apply Kd.R_alloc | apply Kd.R_drewN | apply Kd.R_drew)); exact HO_9.out) hb)
                      have n1_ := zA.mk (zL (g := gb373) (o := .cells #[.slice A0_0 l0_0.length c0_0, .slice A0_1 l0_1.length c0_1] 35 (0, 0)) (by (with_reducible repeat (first | refine zC ?_ _ | refine zD ?_ | refine zB ?_ _)); exact BK373.out) hb)
                      have n2_ := zA.mk (zL (g := gb374) (o := .cells #[.int .i64 a3_0, .int .i64 a3_1, .int .u8 a3_2, .int .i64 a3_3, .int .i64 a3_4, .float .f64 a3_5] 58 (0, 0)) (by (with_reducible repeat (first | refine zC ?_ _ | refine zD ?_ | refine zB ?_ _)); exact BK374.out) hb)
                      have n3_ := zA.mk (zO (by repeat (first | (with_reducible first | exact HB.out | apply zI | apply zF | apply zH | refine zE ?_ GE373.out | refine zE ?_ GE374.out) | exact HB.out)) hb)
                      clear HO_9 BK373 BK374 HB; have HO_9 := n0_; have BK373 := n1_; have BK374 := n2_; have HB := n3_; clear n0_ n1_ n2_ n3_; (try clear hb)
                      (try clear hb2)
                      (try clear hk)
                      (try clear hi)
                      refine hK.out _ _ ⟨(zG BK373.out 0).trans rfl, (zG BK373.out 1).trans rfl, (zG BK374.out 0).trans rfl, (zG BK374.out 1).trans rfl, (zG BK374.out 2).trans rfl, (zG BK374.out 3).trans rfl, (zG BK374.out 4).trans rfl, (zG BK374.out 5).trans rfl⟩ (fun hHeld => ?_)
                      clear hK K; refine norm_ (a' := ?_) ?_ ?_
                      rotate_left
                      · show Act.put _ (some 29) _ = _
                        simp only [Act.put, List.setIfInBounds_toArray, List.set_cons_zero, List.set_cons_succ, zM, zN]; rfl
                      refine pure_ (i := 8) (N := some 32) (v := ?_) (a' := ?_) #[true, true, true, true, true, true, true, true, true] rfl rfl (any_of HT_.out (by kernel_rfl)) (fun _ _ _ h => h) (Or.inl ⟨by rfl, ?_⟩) ?_ ?_
                      rotate_left
                      · intro w'
                        go_simp
                        with_reducible rfl
                      rotate_left
                      · simp only [Act.put, List.setIfInBounds_toArray, List.set_cons_zero, List.set_cons_succ, zM, zN]
                        rfl
                      refine done_ (done_of HT_.out (by kernel_rfl)) ?_
                      try go_wp2
                      have n0_ := zA.mk (Kd.R_drew HO_9.out); have n1_ := zA.mk (zD BK373.out); have n2_ := zA.mk (zD BK374.out); have n3_ := zA.mk (zH HB.out); clear HO_9; clear BK373; clear BK374; clear HB; have HO_9 := n0_; have BK373 := n1_; have BK374 := n2_; have HB := n3_; clear n0_ n1_ n2_ n3_; have p376 : 0 ≤ (x12_2 : Int) := of_decide_eq_true (by first | (with_reducible assumption) | assumption)
                      have q376 : x12_2 < (l0_1.length : Int) := of_decide_eq_true (by first | (with_reducible assumption) | assumption)
                      obtain ⟨ad376, e376, hx376_0⟩ := Kd.at_int HR0_1.out x12_2 p376 q376; have hw376_0 := hx376_0; cases e376
                      replace hx376_0 := (HB.out.cell (World.block_lt_of_cell? w _ hx376_0)).trans hx376_0; replace p376 := eq_true p376; replace q376 := eq_true q376; refine start_ (n := 22) (S := fun w' => w'.cell? ⟨gb373, 0, none⟩ = some (.slice A0_0 l0_0.length c0_0) ∧ w'.cell? ⟨gb373, 1, none⟩ = some (.slice (some ad376) l0_1.length c0_1) ∧ w'.cell? (ad376.add (x12_2).toNat) = some (.int .u8 (rd l0_1 x12_2))) (ds := []) #[false, false, false, false, false, false, false, false, false, false, false, false, false, false, false, false, false, false, false, false, false, false] (by kernel_rfl) rfl rfl ⟨(zG BK373.out 0).trans rfl, (zG BK373.out 1).trans rfl, ((HB.out.cell (World.block_lt_of_cell? w _ hw376_0)).trans hw376_0)⟩ (fun hHeld => ?_); refine with_tabW stanzaref13_First.tab9 stanzaref13_First.bits9 (fun HT_ HW_ => ?_)
                      generalize w15.drew = w16 at HO_9 BK373 BK374 HB hx376_0 hHeld ⊢
                      refine pure_ (i := 0) (N := some 34) (v := ?_) (a' := ?_) #[true, false, false, false, false, false, false, false, false, false, false, false, false, false, false, false, false, false, false, false, false, false] rfl rfl (any_of HT_.out (by kernel_rfl)) (fun _ _ _ h => h) (Or.inl ⟨by rfl, ?_⟩) ?_ ?_
                      rotate_left
                      · intro w'
                        go_simp
                        with_reducible rfl
                      rotate_left
                      · simp only [Act.put, List.setIfInBounds_toArray, List.set_cons_zero, List.set_cons_succ, zM, zN]
                        rfl
                      refine pure_ (i := 2) (N := some 36) (v := ?_) (a' := ?_) #[true, false, true, false, false, false, false, false, false, false, false, false, false, false, false, false, false, false, false, false, false, false] rfl rfl (any_of HT_.out (by kernel_rfl)) (fun _ _ _ h => h) (Or.inl ⟨by rfl, ?_⟩) ?_ ?_
                      rotate_left
                      · intro w'
                        go_simp
                        with_reducible rfl
                      rotate_left
                      · simp only [Act.put, List.setIfInBounds_toArray, List.set_cons_zero, List.set_cons_succ, zM, zN]
                        rfl
                      refine take_ (i := 1) (N := some 35) (v := ?_) (a' := ?_) #[true, true, true, false, false, false, false, false, false, false, false, false, false, false, false, false, false, false, false, false, false, false] rfl rfl (take_ofW HT_.out HW_.out (by kernel_rfl)) (fun _ _ _ h => h) (Or.inl ⟨by rfl, ?_⟩) hHeld ?_ ?_
                      rotate_left
                      · rintro w' ⟨s0, s1, s2⟩
                        go_simp
                        with_reducible rfl
                      rotate_left
                      · simp only [Act.put, List.setIfInBounds_toArray, List.set_cons_zero, List.set_cons_succ, zM, zN]
                        rfl
                      refine pure_ (i := 3) (N := some 37) (v := ?_) (a' := ?_) #[true, true, true, true, false, false, false, false, false, false, false, false, false, false, false, false, false, false, false, false, false, false] rfl rfl (any_of HT_.out (by kernel_rfl)) (fun _ _ _ h => h) (Or.inl ⟨by rfl, ?_⟩) ?_ ?_
                      rotate_left
                      · intro w'
                        go_simp
                        with_reducible rfl
                      rotate_left
                      · simp only [Act.put, List.setIfInBounds_toArray, List.set_cons_zero, List.set_cons_succ, zM, zN]
                        rfl
                      refine take_ (i := 4) (N := some 38) (v := ?_) (a' := ?_) #[true, true, true, true, true, false, false, false, false, false, false, false, false, false, false, false, false, false, false, false, false, false] rfl rfl (take_ofW HT_.out HW_.out (by kernel_rfl)) (fun _ _ _ h => h) (Or.inl ⟨by rfl, ?_⟩) hHeld ?_ ?_
                      rotate_left
                      · rintro w' ⟨s0, s1, s2⟩
                        go_simp
                        with_reducible rfl
                      rotate_left
                      · simp only [Act.put, List.setIfInBounds_toArray, List.set_cons_zero, List.set_cons_succ, zM, zN]
                        rfl
                      refine pure_ (i := 5) (N := some 39) (v := ?_) (a' := ?_) #[true, true, true, true, true, true, false, false, false, false, false, false, false, false, false, false, false, false, false, false, false, false] rfl rfl (any_of HT_.out (by kernel_rfl)) (fun _ _ _ h => h) (Or.inl ⟨by rfl, ?_⟩) ?_ ?_
                      rotate_left
                      · intro w'
                        go_simp
                        with_reducible rfl
                      rotate_left
                      · simp only [Act.put, List.setIfInBounds_toArray, List.set_cons_zero, List.set_cons_succ, zM, zN]
                        rfl
                      refine pure_ (i := 6) (N := some 40) (v := ?_) (a' := ?_) #[true, true, true, true, true, true, true, false, false, false, false, false, false, false, false, false, false, false, false, false, false, false] rfl rfl (any_of HT_.out (by kernel_rfl)) (fun _ _ _ h => h) (Or.inl ⟨by rfl, ?_⟩) ?_ ?_
                      rotate_left
                      · intro w'
                        go_simp
                        with_reducible rfl
                      rotate_left
                      · simp only [Act.put, List.setIfInBounds_toArray, List.set_cons_zero, List.set_cons_succ, zM, zN]
                        rfl
                      refine pure_ (i := 7) (N := some 41) (v := undef) (a' := ?_) #[true, true, true, true, true, true, true, true, false, false, false, false, false, false, false, false, false, false, false, false, false, false] rfl rfl (any_of HT_.out (by kernel_rfl)) (fun _ _ _ h => h) (Or.inr ⟨by rfl, rfl⟩) ?_ ?_
                      rotate_left
                      · simp only [Act.put, List.setIfInBounds_toArray, List.set_cons_zero, List.set_cons_succ, zM, zN]
                        rfl
                      refine pure_ (i := 8) (N := some 42) (v := undef) (a' := ?_) #[true, true, true, true, true, true, true, true, true, false, false, false, false, false, false, false, false, false, false, false, false, false] rfl rfl (any_of HT_.out (by kernel_rfl)) (fun _ _ _ h => h) (Or.inr ⟨by rfl, rfl⟩) ?_ ?_
                      rotate_left
                      · simp only [Act.put, List.setIfInBounds_toArray, List.set_cons_zero, List.set_cons_succ, zM, zN]
                        rfl
                      refine pure_ (i := 9) (N := some 43) (v := undef) (a' := ?_) #[true, true, true, true, true, true, true, true, true, true, false, false, false, false, false, false, false, false, false, false, false, false] rfl rfl (any_of HT_.out (by kernel_rfl)) (fun _ _ _ h => h) (Or.inr ⟨by rfl, rfl⟩) ?_ ?_
                      rotate_left
                      · simp only [Act.put, List.setIfInBounds_toArray, List.set_cons_zero, List.set_cons_succ, zM, zN]
                        rfl
                      refine pure_ (i := 10) (N := some 44) (v := undef) (a' := ?_) #[true, true, true, true, true, true, true, true, true, true, true, false, false, false, false, false, false, false, false, false, false, false] rfl rfl (any_of HT_.out (by kernel_rfl)) (fun _ _ _ h => h) (Or.inr ⟨by rfl, rfl⟩) ?_ ?_
                      rotate_left
                      · simp only [Act.put, List.setIfInBounds_toArray, List.set_cons_zero, List.set_cons_succ, zM, zN]
                        rfl
                      refine pure_ (i := 11) (N := some 45) (v := undef) (a' := ?_) #[true, true, true, true, true, true, true, true, true, true, true, true, false, false, false, false, false, false, false, false, false, false] rfl rfl (any_of HT_.out (by kernel_rfl)) (fun _ _ _ h => h) (Or.inr ⟨by rfl, rfl⟩) ?_ ?_
                      rotate_left
                      · simp only [Act.put, List.setIfInBounds_toArray, List.set_cons_zero, List.set_cons_succ, zM, zN]
                        rfl
                      refine pure_ (i := 12) (N := some 46) (v := undef) (a' := ?_) #[true, true, true, true, true, true, true, true, true, true, true, true, true, false, false, false, false, false, false, false, false, false] rfl rfl (any_of HT_.out (by kernel_rfl)) (fun _ _ _ h => h) (Or.inr ⟨by rfl, rfl⟩) ?_ ?_
                      rotate_left
                      · simp only [Act.put, List.setIfInBounds_toArray, List.set_cons_zero, List.set_cons_succ, zM, zN]
                        rfl
                      refine pure_ (i := 13) (N := some 47) (v := undef) (a' := ?_) #[true, true, true, true, true, true, true, true, true, true, true, true, true, true, false, false, false, false, false, false, false, false] rfl rfl (any_of HT_.out (by kernel_rfl)) (fun _ _ _ h => h) (Or.inr ⟨by rfl, rfl⟩) ?_ ?_
                      rotate_left
                      · simp only [Act.put, List.setIfInBounds_toArray, List.set_cons_zero, List.set_cons_succ, zM, zN]
                        rfl
                      refine pure_ (i := 14) (N := some 48) (v := undef) (a' := ?_) #[true, true, true, true, true, true, true, true, true, true, true, true, true, true, true, false, false, false, false, false, false, false] rfl rfl (any_of HT_.out (by kernel_rfl)) (fun _ _ _ h => h) (Or.inr ⟨by rfl, rfl⟩) ?_ ?_
                      rotate_left
                      · simp only [Act.put, List.setIfInBounds_toArray, List.set_cons_zero, List.set_cons_succ, zM, zN]
                        rfl
                      refine pure_ (i := 15) (N := some 49) (v := undef) (a' := ?_) #[true, true, true, true, true, true, true, true, true, true, true, true, true, true, true, true, false, false, false, false, false, false] rfl rfl (any_of HT_.out (by kernel_rfl)) (fun _ _ _ h => h) (Or.inr ⟨by rfl, rfl⟩) ?_ ?_
                      rotate_left
                      · simp only [Act.put, List.setIfInBounds_toArray, List.set_cons_zero, List.set_cons_succ, zM, zN]
                        rfl
                      refine pure_ (i := 16) (N := some 50) (v := undef) (a' := ?_) #[true, true, true, true, true, true, true, true, true, true, true, true, true, true, true, true, true, false, false, false, false, false] rfl rfl (any_of HT_.out (by kernel_rfl)) (fun _ _ _ h => h) (Or.inr ⟨by rfl, rfl⟩) ?_ ?_
                      rotate_left
                      · simp only [Act.put, List.setIfInBounds_toArray, List.set_cons_zero, List.set_cons_succ, zM, zN]
                        rfl
                      refine pure_ (i := 17) (N := some 51) (v := undef) (a' := ?_) #[true, true, true, true, true, true, true, true, true, true, true, true, true, true, true, true, true, true, false, false, false, false] rfl rfl (any_of HT_.out (by kernel_rfl)) (fun _ _ _ h => h) (Or.inr ⟨by rfl, rfl⟩) ?_ ?_
                      rotate_left
                      · simp only [Act.put, List.setIfInBounds_toArray, List.set_cons_zero, List.set_cons_succ, zM, zN]
                        rfl
                      refine pure_ (i := 18) (N := some 52) (v := undef) (a' := ?_) #[true, true, true, true, true, true, true, true, true, true, true, true, true, true, true, true, true, true, true, false, false, false] rfl rfl (any_of HT_.out (by kernel_rfl)) (fun _ _ _ h => h) (Or.inr ⟨by rfl, rfl⟩) ?_ ?_
                      rotate_left
                      · simp only [Act.put, List.setIfInBounds_toArray, List.set_cons_zero, List.set_cons_succ, zM, zN]
                        rfl
                      refine pure_ (i := 19) (N := some 53) (v := undef) (a' := ?_) #[true, true, true, true, true, true, true, true, true, true, true, true, true, true, true, true, true, true, true, true, false, false] rfl rfl (any_of HT_.out (by kernel_rfl)) (fun _ _ _ h => h) (Or.inr ⟨by rfl, rfl⟩) ?_ ?_
                      rotate_left
                      · simp only [Act.put, List.setIfInBounds_toArray, List.set_cons_zero, List.set_cons_succ, zM, zN]
                        rfl
                      refine pure_ (i := 20) (N := some 54) (v := undef) (a' := ?_) #[true, true, true, true, true, true, true, true, true, true, true, true, true, true, true, true, true, true, true, true, true, false] rfl rfl (any_of HT_.out (by kernel_rfl)) (fun _ _ _ h => h) (Or.inr ⟨by rfl, rfl⟩) ?_ ?_
                      rotate_left
                      · simp only [Act.put, List.setIfInBounds_toArray, List.set_cons_zero, List.set_cons_succ, zM, zN]
                        rfl
                      refine pure_ (i := 21) (N := some 55) (v := ?_) (a' := ?_) #[true, true, true, true, true, true, true, true, true, true, true, true, true, true, true, true, true, true, true, true, true, true] rfl rfl (any_of HT_.out (by kernel_rfl)) (fun _ _ _ h => h) (Or.inl ⟨by rfl, ?_⟩) ?_ ?_
                      rotate_left
                      · intro w'
                        go_simp
                        with_reducible rfl
                      rotate_left
                      · simp only [Act.put, List.setIfInBounds_toArray, List.set_cons_zero, List.set_cons_succ, zM, zN]
                        rfl
                      refine done_ (done_of HT_.out (by kernel_rfl)) ?_
                      try go_wp2
                      go_roundg k2
                      case measure => have := HK1.out; have := HK2.out; omega
                      case rel => exact ⟨(x10_2), (x12_2), (wrap64 (x12_2 + 1)), (by first | rfl | (simp; done) | (simp [*]; done)), (by first | rfl | (simp; done) | (simp [*]; done)), (by first | rfl | (simp; done) | (simp [*]; done)), H', ⟨by have := HK1.out; have := HK2.out; omega⟩, ⟨by (with_reducible repeat (first | apply Kd.R_alloc | apply Kd.R_drewN | apply Kd.R_drew)); exact HO_9.out⟩, ⟨by (with_reducible repeat (first | refine zC ?_ _ | refine zD ?_ | refine zB ?_ _)); exact BK373.out⟩, ⟨by (with_reducible repeat (first | refine zC ?_ _ | refine zD ?_ | refine zB ?_ _)); exact BK374.out⟩, ⟨by repeat (first | (with_reducible first | exact HB.out | apply zI | apply zF | apply zH | refine zE ?_ GE373.out | refine zE ?_ GE374.out) | exact HB.out)⟩⟩
                    · rw [if_neg c13] at H
                      have c13b0 : ((rd l0_1 x12_2) == 0) = false := beq_eq_false_iff_ne.mpr c13
                      have c13b1 : ((rd l0_1 x12_2) != 0) = true := bne_iff_ne.mpr c13
                      replace H := Option.bind_eq_some_iff.mp H; obtain ⟨t378, A170, H⟩ := H; replace H : (if t378 ≤ a3_0 then (stanzaref13_First.l1 k2 x1_1 a2 x9_1 x12_2 x12_2 (wrap64 (x12_2 + 1)) l0_0 l0_1 a3_0 a3_1 a3_2 a3_3 a3_4 a3_5) else (stanzaref13_First.l1 k2 x1_1 a2 x9_1 x10_2 x12_2 (wrap64 (x12_2 + 1)) l0_0 l0_1 a3_0 a3_1 a3_2 a3_3 a3_4 a3_5)) = some r := H; have A17 := zA.mk A170; clear A170; by_cases c18 : t378 ≤ a3_0
                      · rw [if_pos c18] at H
                        have c18b0 : decide (t378 ≤ a3_0) = true := decide_eq_true c18
                        clear c18; have H' := zA.mk H
                        clear H; try go_wp2
                        have n0_ := zA.mk (Kd.R_drew HO_9.out); have n1_ := zA.mk (zD BK373.out); have n2_ := zA.mk (zD BK374.out); have n3_ := zA.mk (zH HB.out); clear HO_9; clear BK373; clear BK374; clear HB; have HO_9 := n0_; have BK373 := n1_; have BK374 := n2_; have HB := n3_; clear n0_ n1_ n2_ n3_; refine start_ (n := 9) (S := fun w' => w'.cell? ⟨gb373, 0, none⟩ = some (.slice A0_0 l0_0.length c0_0) ∧ w'.cell? ⟨gb373, 1, none⟩ = some (.slice A0_1 l0_1.length c0_1) ∧ w'.cell? ⟨gb374, 0, none⟩ = some (.int .i64 a3_0) ∧ w'.cell? ⟨gb374, 1, none⟩ = some (.int .i64 a3_1) ∧ w'.cell? ⟨gb374, 2, none⟩ = some (.int .u8 a3_2) ∧ w'.cell? ⟨gb374, 3, none⟩ = some (.int .i64 a3_3) ∧ w'.cell? ⟨gb374, 4, none⟩ = some (.int .i64 a3_4) ∧ w'.cell? ⟨gb374, 5, none⟩ = some (.float .f64 a3_5)) (ds := []) #[false, false, false, false, false, false, false, false, false] (by kernel_rfl) rfl rfl ⟨(zG BK373.out 0).trans rfl, (zG BK373.out 1).trans rfl, (zG BK374.out 0).trans rfl, (zG BK374.out 1).trans rfl, (zG BK374.out 2).trans rfl, (zG BK374.out 3).trans rfl, (zG BK374.out 4).trans rfl, (zG BK374.out 5).trans rfl⟩ (fun hHeld => ?_); refine with_tabW stanzaref13_First.tab7 stanzaref13_First.bits7 (fun HT_ HW_ => ?_)
                        generalize wr.drew = w19 at HO_9 BK373 BK374 HB hHeld ⊢
                        refine pure_ (i := 1) (N := some 25) (v := ?_) (a' := ?_) #[false, true, false, false, false, false, false, false, false] rfl rfl (any_of HT_.out (by kernel_rfl)) (fun _ _ _ h => h) (Or.inl ⟨by rfl, ?_⟩) ?_ ?_
                        rotate_left
                        · intro w'
                          go_simp
                          with_reducible rfl
                        rotate_left
                        · simp only [Act.put, List.setIfInBounds_toArray, List.set_cons_zero, List.set_cons_succ, zM, zN]
                          rfl
                        refine pure_ (i := 2) (N := some 26) (v := ?_) (a' := ?_) #[false, true, true, false, false, false, false, false, false] rfl rfl (any_of HT_.out (by kernel_rfl)) (fun _ _ _ h => h) (Or.inl ⟨by rfl, ?_⟩) ?_ ?_
                        rotate_left
                        · intro w'
                          go_simp
                          with_reducible rfl
                        rotate_left
                        · simp only [Act.put, List.setIfInBounds_toArray, List.set_cons_zero, List.set_cons_succ, zM, zN]
                          rfl
                        refine pure_ (i := 3) (N := some 27) (v := ?_) (a' := ?_) #[false, true, true, true, false, false, false, false, false] rfl rfl (any_of HT_.out (by kernel_rfl)) (fun _ _ _ h => h) (Or.inl ⟨by rfl, ?_⟩) ?_ ?_
                        rotate_left
                        · intro w'
                          go_simp
                          with_reducible rfl
                        rotate_left
                        · simp only [Act.put, List.setIfInBounds_toArray, List.set_cons_zero, List.set_cons_succ, zM, zN]
                          rfl
                        refine pure_ (i := 6) (N := some 30) (v := ?_) (a' := ?_) #[false, true, true, true, false, false, true, false, false] rfl rfl (any_of HT_.out (by kernel_rfl)) (fun _ _ _ h => h) (Or.inl ⟨by rfl, ?_⟩) ?_ ?_
                        rotate_left
                        · intro w'
                          go_simp
                          with_reducible rfl
                        rotate_left
                        · simp only [Act.put, List.setIfInBounds_toArray, List.set_cons_zero, List.set_cons_succ, zM, zN]
                          rfl
                        refine take_ (i := 0) (N := some 24) (v := ?_) (a' := ?_) #[true, true, true, true, false, false, true, false, false] rfl rfl (take_ofW HT_.out HW_.out (by kernel_rfl)) (fun _ _ _ h => h) (Or.inl ⟨by rfl, ?_⟩) hHeld ?_ ?_
                        rotate_left
                        · rintro w' ⟨s0, s1, s2, s3, s4, s5, s6, s7⟩
                          go_simp
                          with_reducible rfl
                        rotate_left
                        · simp only [Act.put, List.setIfInBounds_toArray, List.set_cons_zero, List.set_cons_succ, zM, zN]
                          rfl
                        refine take_ (i := 4) (N := some 28) (v := ?_) (a' := ?_) #[true, true, true, true, true, false, true, false, false] rfl rfl (take_ofW HT_.out HW_.out (by kernel_rfl)) (fun _ _ _ h => h) (Or.inl ⟨by rfl, ?_⟩) hHeld ?_ ?_
                        rotate_left
                        · rintro w' ⟨s0, s1, s2, s3, s4, s5, s6, s7⟩
                          go_simp
                          with_reducible rfl
                        rotate_left
                        · simp only [Act.put, List.setIfInBounds_toArray, List.set_cons_zero, List.set_cons_succ, zM, zN]
                          rfl
                        refine take_ (i := 7) (N := some 31) (v := ?_) (a' := ?_) #[true, true, true, true, true, false, true, true, false] rfl rfl (take_ofW HT_.out HW_.out (by kernel_rfl)) (fun _ _ _ h => h) (Or.inl ⟨by rfl, ?_⟩) hHeld ?_ ?_
                        rotate_left
                        · rintro w' ⟨s0, s1, s2, s3, s4, s5, s6, s7⟩
                          go_simp
                          with_reducible rfl
                        rotate_left
                        · simp only [Act.put, List.setIfInBounds_toArray, List.set_cons_zero, List.set_cons_succ, zM, zN]
                          rfl
                        refine one_ (i := 5) (N := some 29) #[true, true, true, true, true, true, true, true, false] rfl rfl (one_of HT_.out (by kernel_rfl)) (by decide) (fun K hK => ?_)
                        refine goes_ Try.func32 (by kernel_rfl) rfl #[.agg #[.slice A0_0 l0_0.length c0_0, .slice A0_1 l0_1.length c0_1], .int .i64 x1_1, .int .i64 x12_2, .int .u8 0, .int .i64 a3_1] (by rfl) rfl rfl (by (try simp only [List.map_toArray, List.map_cons, List.map_nil]); first | done | rfl | (simp only [List.length_drop, List.length_take]; rfl)) ?_
                        with_reducible refine (stanzaref13_Cells.calls k2 _ _ l0_0 _ _ l0_1 x1_1 x12_2 0 a3_1 t375 _ ?side1 ?side2 ?side3 ?side4 A9.out).mono ?_
                        (case side1 => repeat (first | exact (Kd.C_below HR0_0.out HB.out) | (with_reducible refine Kd.C_alloc ?_ _) | (with_reducible refine Kd.C_drewN ?_ _) | (with_reducible refine Kd.C_drew ?_)))
                        (case side2 => exact HC0_0.out)
                        (case side3 => repeat (first | exact (Kd.C_below HR0_1.out HB.out) | (with_reducible refine Kd.C_alloc ?_ _) | (with_reducible refine Kd.C_drewN ?_ _) | (with_reducible refine Kd.C_drew ?_)))
                        (case side4 => exact HC0_1.out)
                        rintro e w20 ⟨rfl, hb⟩
                        refine ⟨_, rfl, ?_⟩
                        have n0_ := zA.mk (Kd.R_below (by (with_reducible repeat (first | apply Kd.R_alloc | apply Kd.R_drewN | apply Kd.R_drew)); exact HO_9.out) hb)
                        have n1_ := zA.mk (zL (g := gb373) (o := .cells #[.slice A0_0 l0_0.length c0_0, .slice A0_1 l0_1.length c0_1] 35 (0, 0)) (by (with_reducible repeat (first | refine zC ?_ _ | refine zD ?_ | refine zB ?_ _)); exact BK373.out) hb)
                        have n2_ := zA.mk (zL (g := gb374) (o := .cells #[.int .i64 a3_0, .int .i64 a3_1, .int .u8 a3_2, .int .i64 a3_3, .int .i64 a3_4, .float .f64 a3_5] 58 (0, 0)) (by (with_reducible repeat (first | refine zC ?_ _ | refine zD ?_ | refine zB ?_ _)); exact BK374.out) hb)
                        have n3_ := zA.mk (zO (by repeat (first | (with_reducible first | exact HB.out | apply zI | apply zF | apply zH | refine zE ?_ GE373.out | refine zE ?_ GE374.out) | exact HB.out)) hb)
                        clear HO_9 BK373 BK374 HB; have HO_9 := n0_; have BK373 := n1_; have BK374 := n2_; have HB := n3_; clear n0_ n1_ n2_ n3_; (try clear hb)
                        (try clear hb2)
                        (try clear hk)
                        (try clear hi)
                        refine hK.out _ _ ⟨(zG BK373.out 0).trans rfl, (zG BK373.out 1).trans rfl, (zG BK374.out 0).trans rfl, (zG BK374.out 1).trans rfl, (zG BK374.out 2).trans rfl, (zG BK374.out 3).trans rfl, (zG BK374.out 4).trans rfl, (zG BK374.out 5).trans rfl⟩ (fun hHeld => ?_)
                        clear hK K; refine norm_ (a' := ?_) ?_ ?_
                        rotate_left
                        · show Act.put _ (some 29) _ = _
                          simp only [Act.put, List.setIfInBounds_toArray, List.set_cons_zero, List.set_cons_succ, zM, zN]; rfl
                        refine pure_ (i := 8) (N := some 32) (v := ?_) (a' := ?_) #[true, true, true, true, true, true, true, true, true] rfl rfl (any_of HT_.out (by kernel_rfl)) (fun _ _ _ h => h) (Or.inl ⟨by rfl, ?_⟩) ?_ ?_
                        rotate_left
                        · intro w'
                          go_simp
                          with_reducible rfl
                        rotate_left
                        · simp only [Act.put, List.setIfInBounds_toArray, List.set_cons_zero, List.set_cons_succ, zM, zN]
                          rfl
                        refine done_ (done_of HT_.out (by kernel_rfl)) ?_
                        try go_wp2
                        have n0_ := zA.mk (Kd.R_drew HO_9.out); have n1_ := zA.mk (zD BK373.out); have n2_ := zA.mk (zD BK374.out); have n3_ := zA.mk (zH HB.out); clear HO_9; clear BK373; clear BK374; clear HB; have HO_9 := n0_; have BK373 := n1_; have BK374 := n2_; have HB := n3_; clear n0_ n1_ n2_ n3_; have p376 : 0 ≤ (x12_2 : Int) := of_decide_eq_true (by first | (with_reducible assumption) | assumption)
                        have q376 : x12_2 < (l0_1.length : Int) := of_decide_eq_true (by first | (with_reducible assumption) | assumption)
                        obtain ⟨ad376, e376, hx376_0⟩ := Kd.at_int HR0_1.out x12_2 p376 q376; have hw376_0 := hx376_0; cases e376
                        replace hx376_0 := (HB.out.cell (World.block_lt_of_cell? w _ hx376_0)).trans hx376_0; replace p376 := eq_true p376; replace q376 := eq_true q376; have p377 : 0 ≤ (x12_2 : Int) := of_decide_eq_true (by first | (with_reducible assumption) | assumption)
                        have q377 : x12_2 < (l0_1.length : Int) := of_decide_eq_true (by first | (with_reducible assumption) | assumption)
                        obtain ⟨ad377, e377, hx377_0⟩ := Kd.at_int HR0_1.out x12_2 p377 q377; have hw377_0 := hx377_0; obtain rfl : ad376 = ad377 := (by injection e377)
                        replace hx377_0 := (HB.out.cell (World.block_lt_of_cell? w _ hx377_0)).trans hx377_0; replace p377 := eq_true p377; replace q377 := eq_true q377; refine start_ (n := 22) (S := fun w' => w'.cell? ⟨gb373, 0, none⟩ = some (.slice A0_0 l0_0.length c0_0) ∧ w'.cell? ⟨gb373, 1, none⟩ = some (.slice (some ad376) l0_1.length c0_1) ∧ w'.cell? ⟨gb374, 0, none⟩ = some (.int .i64 a3_0) ∧ w'.cell? ⟨gb374, 1, none⟩ = some (.int .i64 a3_1) ∧ w'.cell? ⟨gb374, 2, none⟩ = some (.int .u8 a3_2) ∧ w'.cell? ⟨gb374, 3, none⟩ = some (.int .i64 a3_3) ∧ w'.cell? ⟨gb374, 4, none⟩ = some (.int .i64 a3_4) ∧ w'.cell? ⟨gb374, 5, none⟩ = some (.float .f64 a3_5) ∧ w'.cell? (ad376.add (x12_2).toNat) = some (.int .u8 (rd l0_1 x12_2)) ∧ w'.cell? (ad376.add (x12_2).toNat) = some (.int .u8 (rd l0_1 x12_2))) (ds := []) #[false, false, false, false, false, false, false, false, false, false, false, false, false, false, false, false, false, false, false, false, false, false] (by kernel_rfl) rfl rfl ⟨(zG BK373.out 0).trans rfl, (zG BK373.out 1).trans rfl, (zG BK374.out 0).trans rfl, (zG BK374.out 1).trans rfl, (zG BK374.out 2).trans rfl, (zG BK374.out 3).trans rfl, (zG BK374.out 4).trans rfl, (zG BK374.out 5).trans rfl, ((HB.out.cell (World.block_lt_of_cell? w _ hw376_0)).trans hw376_0), ((HB.out.cell (World.block_lt_of_cell? w _ hw377_0)).trans hw377_0)⟩ (fun hHeld => ?_); refine with_tabW stanzaref13_First.tab9 stanzaref13_First.bits9 (fun HT_ HW_ => ?_)
                        generalize w20.drew = w21 at HO_9 BK373 BK374 HB hx376_0 hx377_0 hHeld ⊢
                        refine pure_ (i := 0) (N := some 34) (v := ?_) (a' := ?_) #[true, false, false, false, false, false, false, false, false, false, false, false, false, false, false, false, false, false, false, false, false, false] rfl rfl (any_of HT_.out (by kernel_rfl)) (fun _ _ _ h => h) (Or.inl ⟨by rfl, ?_⟩) ?_ ?_
                        rotate_left
                        · intro w'
                          go_simp
                          with_reducible rfl
                        rotate_left
                        · simp only [Act.put, List.setIfInBounds_toArray, List.set_cons_zero, List.set_cons_succ, zM, zN]
                          rfl
                        refine pure_ (i := 2) (N := some 36) (v := ?_) (a' := ?_) #[true, false, true, false, false, false, false, false, false, false, false, false, false, false, false, false, false, false, false, false, false, false] rfl rfl (any_of HT_.out (by kernel_rfl)) (fun _ _ _ h => h) (Or.inl ⟨by rfl, ?_⟩) ?_ ?_
                        rotate_left
                        · intro w'
                          go_simp
                          with_reducible rfl
                        rotate_left
                        · simp only [Act.put, List.setIfInBounds_toArray, List.set_cons_zero, List.set_cons_succ, zM, zN]
                          rfl
                        refine take_ (i := 1) (N := some 35) (v := ?_) (a' := ?_) #[true, true, true, false, false, false, false, false, false, false, false, false, false, false, false, false, false, false, false, false, false, false] rfl rfl (take_ofW HT_.out HW_.out (by kernel_rfl)) (fun _ _ _ h => h) (Or.inl ⟨by rfl, ?_⟩) hHeld ?_ ?_
                        rotate_left
                        · rintro w' ⟨s0, s1, s2, s3, s4, s5, s6, s7, s8, s9⟩
                          go_simp
                          with_reducible rfl
                        rotate_left
                        · simp only [Act.put, List.setIfInBounds_toArray, List.set_cons_zero, List.set_cons_succ, zM, zN]
                          rfl
                        refine pure_ (i := 3) (N := some 37) (v := ?_) (a' := ?_) #[true, true, true, true, false, false, false, false, false, false, false, false, false, false, false, false, false, false, false, false, false, false] rfl rfl (any_of HT_.out (by kernel_rfl)) (fun _ _ _ h => h) (Or.inl ⟨by rfl, ?_⟩) ?_ ?_
                        rotate_left
                        · intro w'
                          go_simp
                          with_reducible rfl
                        rotate_left
                        · simp only [Act.put, List.setIfInBounds_toArray, List.set_cons_zero, List.set_cons_succ, zM, zN]
                          rfl
                        refine take_ (i := 4) (N := some 38) (v := ?_) (a' := ?_) #[true, true, true, true, true, false, false, false, false, false, false, false, false, false, false, false, false, false, false, false, false, false] rfl rfl (take_ofW HT_.out HW_.out (by kernel_rfl)) (fun _ _ _ h => h) (Or.inl ⟨by rfl, ?_⟩) hHeld ?_ ?_
                        rotate_left
                        · rintro w' ⟨s0, s1, s2, s3, s4, s5, s6, s7, s8, s9⟩
                          go_simp
                          with_reducible rfl
                        rotate_left
                        · simp only [Act.put, List.setIfInBounds_toArray, List.set_cons_zero, List.set_cons_succ, zM, zN]
                          rfl
                        refine pure_ (i := 5) (N := some 39) (v := ?_) (a' := ?_) #[true, true, true, true, true, true, false, false, false, false, false, false, false, false, false, false, false, false, false, false, false, false] rfl rfl (any_of HT_.out (by kernel_rfl)) (fun _ _ _ h => h) (Or.inl ⟨by rfl, ?_⟩) ?_ ?_
                        rotate_left
                        · intro w'
                          go_simp
                          with_reducible rfl
                        rotate_left
                        · simp only [Act.put, List.setIfInBounds_toArray, List.set_cons_zero, List.set_cons_succ, zM, zN]
                          rfl
                        refine pure_ (i := 6) (N := some 40) (v := ?_) (a' := ?_) #[true, true, true, true, true, true, true, false, false, false, false, false, false, false, false, false, false, false, false, false, false, false] rfl rfl (any_of HT_.out (by kernel_rfl)) (fun _ _ _ h => h) (Or.inl ⟨by rfl, ?_⟩) ?_ ?_
                        rotate_left
                        · intro w'
                          go_simp
                          with_reducible rfl
                        rotate_left
                        · simp only [Act.put, List.setIfInBounds_toArray, List.set_cons_zero, List.set_cons_succ, zM, zN]
                          rfl
                        refine pure_ (i := 8) (N := some 42) (v := ?_) (a' := ?_) #[true, true, true, true, true, true, true, false, true, false, false, false, false, false, false, false, false, false, false, false, false, false] rfl rfl (any_of HT_.out (by kernel_rfl)) (fun _ _ _ h => h) (Or.inl ⟨by rfl, ?_⟩) ?_ ?_
                        rotate_left
                        · intro w'
                          go_simp
                          with_reducible rfl
                        rotate_left
                        · simp only [Act.put, List.setIfInBounds_toArray, List.set_cons_zero, List.set_cons_succ, zM, zN]
                          rfl
                        refine pure_ (i := 9) (N := some 43) (v := ?_) (a' := ?_) #[true, true, true, true, true, true, true, false, true, true, false, false, false, false, false, false, false, false, false, false, false, false] rfl rfl (any_of HT_.out (by kernel_rfl)) (fun _ _ _ h => h) (Or.inl ⟨by rfl, ?_⟩) ?_ ?_
                        rotate_left
                        · intro w'
                          go_simp
                          with_reducible rfl
                        rotate_left
                        · simp only [Act.put, List.setIfInBounds_toArray, List.set_cons_zero, List.set_cons_succ, zM, zN]
                          rfl
                        refine pure_ (i := 10) (N := some 44) (v := ?_) (a' := ?_) #[true, true, true, true, true, true, true, false, true, true, true, false, false, false, false, false, false, false, false, false, false, false] rfl rfl (any_of HT_.out (by kernel_rfl)) (fun _ _ _ h => h) (Or.inl ⟨by rfl, ?_⟩) ?_ ?_
                        rotate_left
                        · intro w'
                          go_simp
                          with_reducible rfl
                        rotate_left
                        · simp only [Act.put, List.setIfInBounds_toArray, List.set_cons_zero, List.set_cons_succ, zM, zN]
                          rfl
                        refine pure_ (i := 12) (N := some 46) (v := ?_) (a' := ?_) #[true, true, true, true, true, true, true, false, true, true, true, false, true, false, false, false, false, false, false, false, false, false] rfl rfl (any_of HT_.out (by kernel_rfl)) (fun _ _ _ h => h) (Or.inl ⟨by rfl, ?_⟩) ?_ ?_
                        rotate_left
                        · intro w'
                          go_simp
                          with_reducible rfl
                        rotate_left
                        · simp only [Act.put, List.setIfInBounds_toArray, List.set_cons_zero, List.set_cons_succ, zM, zN]
                          rfl
                        refine pure_ (i := 15) (N := some 49) (v := ?_) (a' := ?_) #[true, true, true, true, true, true, true, false, true, true, true, false, true, false, false, true, false, false, false, false, false, false] rfl rfl (any_of HT_.out (by kernel_rfl)) (fun _ _ _ h => h) (Or.inl ⟨by rfl, ?_⟩) ?_ ?_
                        rotate_left
                        · intro w'
                          go_simp
                          with_reducible rfl
                        rotate_left
                        · simp only [Act.put, List.setIfInBounds_toArray, List.set_cons_zero, List.set_cons_succ, zM, zN]
                          rfl
                        refine pure_ (i := 18) (N := some 52) (v := ?_) (a' := ?_) #[true, true, true, true, true, true, true, false, true, true, true, false, true, false, false, true, false, false, true, false, false, false] rfl rfl (any_of HT_.out (by kernel_rfl)) (fun _ _ _ h => h) (Or.inl ⟨by rfl, ?_⟩) ?_ ?_
                        rotate_left
                        · intro w'
                          go_simp
                          with_reducible rfl
                        rotate_left
                        · simp only [Act.put, List.setIfInBounds_toArray, List.set_cons_zero, List.set_cons_succ, zM, zN]
                          rfl
                        refine take_ (i := 7) (N := some 41) (v := ?_) (a' := ?_) #[true, true, true, true, true, true, true, true, true, true, true, false, true, false, false, true, false, false, true, false, false, false] rfl rfl (take_ofW HT_.out HW_.out (by kernel_rfl)) (fun _ _ _ h => h) (Or.inl ⟨by rfl, ?_⟩) hHeld ?_ ?_
                        rotate_left
                        · rintro w' ⟨s0, s1, s2, s3, s4, s5, s6, s7, s8, s9⟩
                          go_simp
                          with_reducible rfl
                        rotate_left
                        · simp only [Act.put, List.setIfInBounds_toArray, List.set_cons_zero, List.set_cons_succ, zM, zN]
                          rfl
                        refine take_ (i := 11) (N := some 45) (v := ?_) (a' := ?_) #[true, true, true, true, true, true, true, true, true, true, true, true, true, false, false, true, false, false, true, false, false, false] rfl rfl (take_ofW HT_.out HW_.out (by kernel_rfl)) (fun _ _ _ h => h) (Or.inl ⟨by rfl, ?_⟩) hHeld ?_ ?_
                        rotate_left
                        · rintro w' ⟨s0, s1, s2, s3, s4, s5, s6, s7, s8, s9⟩
                          go_simp
                          with_reducible rfl
                        rotate_left
                        · simp only [Act.put, List.setIfInBounds_toArray, List.set_cons_zero, List.set_cons_succ, zM, zN]
                          rfl
                        refine pure_ (i := 13) (N := some 47) (v := ?_) (a' := ?_) #[true, true, true, true, true, true, true, true, true, true, true, true, true, true, false, true, false, false, true, false, false, false] rfl rfl (any_of HT_.out (by kernel_rfl)) (fun _ _ _ h => h) (Or.inl ⟨by rfl, ?_⟩) ?_ ?_
                        rotate_left
                        · intro w'
                          go_simp
                          with_reducible rfl
                        rotate_left
                        · simp only [Act.put, List.setIfInBounds_toArray, List.set_cons_zero, List.set_cons_succ, zM, zN]
                          rfl
                        refine take_ (i := 14) (N := some 48) (v := ?_) (a' := ?_) #[true, true, true, true, true, true, true, true, true, true, true, true, true, true, true, true, false, false, true, false, false, false] rfl rfl (take_ofW HT_.out HW_.out (by kernel_rfl)) (fun _ _ _ h => h) (Or.inl ⟨by rfl, ?_⟩) hHeld ?_ ?_
                        rotate_left
                        · rintro w' ⟨s0, s1, s2, s3, s4, s5, s6, s7, s8, s9⟩
                          go_simp
                          with_reducible rfl
                        rotate_left
                        · simp only [Act.put, List.setIfInBounds_toArray, List.set_cons_zero, List.set_cons_succ, zM, zN]
                          rfl
                        refine take_ (i := 16) (N := some 50) (v := ?_) (a' := ?_) #[true, true, true, true, true, true, true, true, true, true, true, true, true, true, true, true, true, false, true, false, false, false] rfl rfl (take_ofW HT_.out HW_.out (by kernel_rfl)) (fun _ _ _ h => h) (Or.inl ⟨by rfl, ?_⟩) hHeld ?_ ?_
                        rotate_left
                        · rintro w' ⟨s0, s1, s2, s3, s4, s5, s6, s7, s8, s9⟩
                          go_simp
                          with_reducible rfl
                        rotate_left
                        · simp only [Act.put, List.setIfInBounds_toArray, List.set_cons_zero, List.set_cons_succ, zM, zN]
                          rfl
                        refine take_ (i := 19) (N := some 53) (v := ?_) (a' := ?_) #[true, true, true, true, true, true, true, true, true, true, true, true, true, true, true, true, true, false, true, true, false, false] rfl rfl (take_ofW HT_.out HW_.out (by kernel_rfl)) (fun _ _ _ h => h) (Or.inl ⟨by rfl, ?_⟩) hHeld ?_ ?_
                        rotate_left
                        · rintro w' ⟨s0, s1, s2, s3, s4, s5, s6, s7, s8, s9⟩
                          go_simp
                          with_reducible rfl
                        rotate_left
                        · simp only [Act.put, List.setIfInBounds_toArray, List.set_cons_zero, List.set_cons_succ, zM, zN]
                          rfl
                        refine one_ (i := 17) (N := some 51) #[true, true, true, true, true, true, true, true, true, true, true, true, true, true, true, true, true, true, true, true, false, false] rfl rfl (one_of HT_.out (by kernel_rfl)) (by decide) (fun K hK => ?_)
                        refine goes_ Try.func32 (by kernel_rfl) rfl #[.agg #[.slice A0_0 l0_0.length c0_0, .slice (some ad376) l0_1.length c0_1], .int .i64 x1_1, .int .i64 x12_2, .int .u8 (rd l0_1 x12_2), .int .i64 a3_1] (by rfl) rfl rfl (by (try simp only [List.map_toArray, List.map_cons, List.map_nil]); first | done | rfl | (simp only [List.length_drop, List.length_take]; rfl)) ?_
                        with_reducible refine (stanzaref13_Cells.calls k2 _ _ l0_0 _ _ l0_1 x1_1 x12_2 (rd l0_1 x12_2) a3_1 t378 _ ?side1 ?side2 ?side3 ?side4 A17.out).mono ?_
                        (case side1 => repeat (first | exact (Kd.C_below HR0_0.out HB.out) | (with_reducible refine Kd.C_alloc ?_ _) | (with_reducible refine Kd.C_drewN ?_ _) | (with_reducible refine Kd.C_drew ?_)))
                        (case side2 => exact HC0_0.out)
                        (case side3 => repeat (first | exact (Kd.C_below HR0_1.out HB.out) | (with_reducible refine Kd.C_alloc ?_ _) | (with_reducible refine Kd.C_drewN ?_ _) | (with_reducible refine Kd.C_drew ?_)))
                        (case side4 => exact HC0_1.out)
                        rintro e w22 ⟨rfl, hb⟩
                        refine ⟨_, rfl, ?_⟩
                        have n0_ := zA.mk (Kd.R_below (by (with_reducible repeat (first | apply Kd.R_alloc | apply Kd.R_drewN | apply Kd.R_drew)); exact HO_9.out) hb)
                        have n1_ := zA.mk (zL (g := gb373) (o := .cells #[.slice A0_0 l0_0.length c0_0, .slice (some ad376) l0_1.length c0_1] 35 (0, 0)) (by (with_reducible repeat (first | refine zC ?_ _ | refine zD ?_ | refine zB ?_ _)); exact BK373.out) hb)
                        have n2_ := zA.mk (zL (g := gb374) (o := .cells #[.int .i64 a3_0, .int .i64 a3_1, .int .u8 a3_2, .int .i64 a3_3, .int .i64 a3_4, .float .f64 a3_5] 58 (0, 0)) (by (with_reducible repeat (first | refine zC ?_ _ | refine zD ?_ | refine zB ?_ _)); exact BK374.out) hb)
                        have n3_ := zA.mk (zO (by repeat (first | (with_reducible first | exact HB.out | apply zI | apply zF | apply zH | refine zE ?_ GE373.out | refine zE ?_ GE374.out) | exact HB.out)) hb)
                        clear HO_9 BK373 BK374 HB; have HO_9 := n0_; have BK373 := n1_; have BK374 := n2_; have HB := n3_; clear n0_ n1_ n2_ n3_; (try clear hb)
                        (try clear hb2)
                        (try clear hk)
                        (try clear hi)
                        refine hK.out _ _ ⟨(zG BK373.out 0).trans rfl, (zG BK373.out 1).trans rfl, (zG BK374.out 0).trans rfl, (zG BK374.out 1).trans rfl, (zG BK374.out 2).trans rfl, (zG BK374.out 3).trans rfl, (zG BK374.out 4).trans rfl, (zG BK374.out 5).trans rfl, ((HB.out.cell (World.block_lt_of_cell? w _ hw376_0)).trans hw376_0), ((HB.out.cell (World.block_lt_of_cell? w _ hw377_0)).trans hw377_0)⟩ (fun hHeld => ?_)
                        clear hK K; refine norm_ (a' := ?_) ?_ ?_
                        rotate_left
                        · show Act.put _ (some 51) _ = _
                          simp only [Act.put, List.setIfInBounds_toArray, List.set_cons_zero, List.set_cons_succ, zM, zN]; rfl
                        refine pure_ (i := 20) (N := some 54) (v := ?_) (a' := ?_) #[true, true, true, true, true, true, true, true, true, true, true, true, true, true, true, true, true, true, true, true, true, false] rfl rfl (any_of HT_.out (by kernel_rfl)) (fun _ _ _ h => h) (Or.inl ⟨by rfl, ?_⟩) ?_ ?_
                        rotate_left
                        · intro w'
                          go_simp
                          with_reducible rfl
                        rotate_left
                        · simp only [Act.put, List.setIfInBounds_toArray, List.set_cons_zero, List.set_cons_succ, zM, zN]
                          rfl
                        refine pure_ (i := 21) (N := some 55) (v := ?_) (a' := ?_) #[true, true, true, true, true, true, true, true, true, true, true, true, true, true, true, true, true, true, true, true, true, true] rfl rfl (any_of HT_.out (by kernel_rfl)) (fun _ _ _ h => h) (Or.inl ⟨by rfl, ?_⟩) ?_ ?_
                        rotate_left
                        · intro w'
                          go_simp
                          with_reducible rfl
                        rotate_left
                        · simp only [Act.put, List.setIfInBounds_toArray, List.set_cons_zero, List.set_cons_succ, zM, zN]
                          rfl
                        refine done_ (done_of HT_.out (by kernel_rfl)) ?_
                        try go_wp2
                        go_roundg k2
                        case measure => have := HK1.out; have := HK2.out; omega
                        case rel => exact ⟨(x12_2), (x12_2), (wrap64 (x12_2 + 1)), (by first | rfl | (simp; done) | (simp [*]; done)), (by first | rfl | (simp; done) | (simp [*]; done)), (by first | rfl | (simp; done) | (simp [*]; done)), H', ⟨by have := HK1.out; have := HK2.out; omega⟩, ⟨by (with_reducible repeat (first | apply Kd.R_alloc | apply Kd.R_drewN | apply Kd.R_drew)); exact HO_9.out⟩, ⟨by (with_reducible repeat (first | refine zC ?_ _ | refine zD ?_ | refine zB ?_ _)); exact BK373.out⟩, ⟨by (with_reducible repeat (first | refine zC ?_ _ | refine zD ?_ | refine zB ?_ _)); exact BK374.out⟩, ⟨by repeat (first | (with_reducible first | exact HB.out | apply zI | apply zF | apply zH | refine zE ?_ GE373.out | refine zE ?_ GE374.out) | exact HB.out)⟩⟩
                      · rw [if_neg c18] at H
                        have c18b0 : decide (t378 ≤ a3_0) = false := decide_eq_false c18
                        clear c18; have H' := zA.mk H
                        clear H; try go_wp2
                        have n0_ := zA.mk (Kd.R_drew HO_9.out); have n1_ := zA.mk (zD BK373.out); have n2_ := zA.mk (zD BK374.out); have n3_ := zA.mk (zH HB.out); clear HO_9; clear BK373; clear BK374; clear HB; have HO_9 := n0_; have BK373 := n1_; have BK374 := n2_; have HB := n3_; clear n0_ n1_ n2_ n3_; refine start_ (n := 9) (S := fun w' => w'.cell? ⟨gb373, 0, none⟩ = some (.slice A0_0 l0_0.length c0_0) ∧ w'.cell? ⟨gb373, 1, none⟩ = some (.slice A0_1 l0_1.length c0_1) ∧ w'.cell? ⟨gb374, 0, none⟩ = some (.int .i64 a3_0) ∧ w'.cell? ⟨gb374, 1, none⟩ = some (.int .i64 a3_1) ∧ w'.cell? ⟨gb374, 2, none⟩ = some (.int .u8 a3_2) ∧ w'.cell? ⟨gb374, 3, none⟩ = some (.int .i64 a3_3) ∧ w'.cell? ⟨gb374, 4, none⟩ = some (.int .i64 a3_4) ∧ w'.cell? ⟨gb374, 5, none⟩ = some (.float .f64 a3_5)) (ds := []) #[false, false, false, false, false, false, false, false, false] (by kernel_rfl) rfl rfl ⟨(zG BK373.out 0).trans rfl, (zG BK373.out 1).trans rfl, (zG BK374.out 0).trans rfl, (zG BK374.out 1).trans rfl, (zG BK374.out 2).trans rfl, (zG BK374.out 3).trans rfl, (zG BK374.out 4).trans rfl, (zG BK374.out 5).trans rfl⟩ (fun hHeld => ?_); refine with_tabW stanzaref13_First.tab7 stanzaref13_First.bits7 (fun HT_ HW_ => ?_)
                        generalize wr.drew = w23 at HO_9 BK373 BK374 HB hHeld ⊢
                        refine pure_ (i := 1) (N := some 25) (v := ?_) (a' := ?_) #[false, true, false, false, false, false, false, false, false] rfl rfl (any_of HT_.out (by kernel_rfl)) (fun _ _ _ h => h) (Or.inl ⟨by rfl, ?_⟩) ?_ ?_
                        rotate_left
                        · intro w'
                          go_simp
                          with_reducible rfl
                        rotate_left
                        · simp only [Act.put, List.setIfInBounds_toArray, List.set_cons_zero, List.set_cons_succ, zM, zN]
                          rfl
                        refine pure_ (i := 2) (N := some 26) (v := ?_) (a' := ?_) #[false, true, true, false, false, false, false, false, false] rfl rfl (any_of HT_.out (by kernel_rfl)) (fun _ _ _ h => h) (Or.inl ⟨by rfl, ?_⟩) ?_ ?_
                        rotate_left
                        · intro w'
                          go_simp
                          with_reducible rfl
                        rotate_left
                        · simp only [Act.put, List.setIfInBounds_toArray, List.set_cons_zero, List.set_cons_succ, zM, zN]
                          rfl
                        refine pure_ (i := 3) (N := some 27) (v := ?_) (a' := ?_) #[false, true, true, true, false, false, false, false, false] rfl rfl (any_of HT_.out (by kernel_rfl)) (fun _ _ _ h => h) (Or.inl ⟨by rfl, ?_⟩) ?_ ?_
                        rotate_left
                        · intro w'
                          go_simp
                          with_reducible rfl
                        rotate_left
                        · simp only [Act.put, List.setIfInBounds_toArray, List.set_cons_zero, List.set_cons_succ, zM, zN]
                          rfl
                        refine pure_ (i := 6) (N := some 30) (v := ?_) (a' := ?_) #[false, true, true, true, false, false, true, false, false] rfl rfl (any_of HT_.out (by kernel_rfl)) (fun _ _ _ h => h) (Or.inl ⟨by rfl, ?_⟩) ?_ ?_
                        rotate_left
                        · intro w'
                          go_simp
                          with_reducible rfl
                        rotate_left
                        · simp only [Act.put, List.setIfInBounds_toArray, List.set_cons_zero, List.set_cons_succ, zM, zN]
                          rfl
                        refine take_ (i := 0) (N := some 24) (v := ?_) (a' := ?_) #[true, true, true, true, false, false, true, false, false] rfl rfl (take_ofW HT_.out HW_.out (by kernel_rfl)) (fun _ _ _ h => h) (Or.inl ⟨by rfl, ?_⟩) hHeld ?_ ?_
                        rotate_left
                        · rintro w' ⟨s0, s1, s2, s3, s4, s5, s6, s7⟩
                          go_simp
                          with_reducible rfl
                        rotate_left
                        · simp only [Act.put, List.setIfInBounds_toArray, List.set_cons_zero, List.set_cons_succ, zM, zN]
                          rfl
                        refine take_ (i := 4) (N := some 28) (v := ?_) (a' := ?_) #[true, true, true, true, true, false, true, false, false] rfl rfl (take_ofW HT_.out HW_.out (by kernel_rfl)) (fun _ _ _ h => h) (Or.inl ⟨by rfl, ?_⟩) hHeld ?_ ?_
                        rotate_left
                        · rintro w' ⟨s0, s1, s2, s3, s4, s5, s6, s7⟩
                          go_simp
                          with_reducible rfl
                        rotate_left
                        · simp only [Act.put, List.setIfInBounds_toArray, List.set_cons_zero, List.set_cons_succ, zM, zN]
                          rfl
                        refine take_ (i := 7) (N := some 31) (v := ?_) (a' := ?_) #[true, true, true, true, true, false, true, true, false] rfl rfl (take_ofW HT_.out HW_.out (by kernel_rfl)) (fun _ _ _ h => h) (Or.inl ⟨by rfl, ?_⟩) hHeld ?_ ?_
                        rotate_left
                        · rintro w' ⟨s0, s1, s2, s3, s4, s5, s6, s7⟩
                          go_simp
                          with_reducible rfl
                        rotate_left
                        · simp only [Act.put, List.setIfInBounds_toArray, List.set_cons_zero, List.set_cons_succ, zM, zN]
                          rfl
                        refine one_ (i := 5) (N := some 29) #[true, true, true, true, true, true, true, true, false] rfl rfl (one_of HT_.out (by kernel_rfl)) (by decide) (fun K hK => ?_)
                        refine goes_ Try.func32 (by kernel_rfl) rfl #[.agg #[.slice A0_0 l0_0.length c0_0, .slice A0_1 l0_1.length c0_1], .int .i64 x1_1, .int .i64 x12_2, .int .u8 0, .int .i64 a3_1] (by rfl) rfl rfl (by (try simp only [List.map_toArray, List.map_cons, List.map_nil]); first | done | rfl | (simp only [List.length_drop, List.length_take]; rfl)) ?_
                        with_reducible refine (stanzaref13_Cells.calls k2 _ _ l0_0 _ _ l0_1 x1_1 x12_2 0 a3_1 t375 _ ?side1 ?side2 ?side3 ?side4 A9.out).mono ?_
                        (case side1 => repeat (first | exact (Kd.C_below HR0_0.out HB.out) | (with_reducible refine Kd.C_alloc ?_ _) | (with_reducible refine Kd.C_drewN ?_ _) | (with_reducible refine Kd.C_drew ?_)))
                        (case side2 => exact HC0_0.out)
                        (case side3 => repeat (first | exact (Kd.C_below HR0_1.out HB.out) | (with_reducible refine Kd.C_alloc ?_ _) | (with_reducible refine Kd.C_drewN ?_ _) | (with_reducible refine Kd.C_drew ?_)))
                        (case side4 => exact HC0_1.out)
                        rintro e w24 ⟨rfl, hb⟩
                        refine ⟨_, rfl, ?_⟩
                        have n0_ := zA.mk (Kd.R_below (by (with_reducible repeat (first | apply Kd.R_alloc | apply Kd.R_drewN | apply Kd.R_drew)); exact HO_9.out) hb)
                        have n1_ := zA.mk (zL (g := gb373) (o := .cells #[.slice A0_0 l0_0.length c0_0, .slice A0_1 l0_1.length c0_1] 35 (0, 0)) (by (with_reducible repeat (first | refine zC ?_ _ | refine zD ?_ | refine zB ?_ _)); exact BK373.out) hb)
                        have n2_ := zA.mk (zL (g := gb374) (o := .cells #[.int .i64 a3_0, .int .i64 a3_1, .int .u8 a3_2, .int .i64 a3_3, .int .i64 a3_4, .float .f64 a3_5] 58 (0, 0)) (by (with_reducible repeat (first | refine zC ?_ _ | refine zD ?_ | refine zB ?_ _)); exact BK374.out) hb)
                        have n3_ := zA.mk (zO (by repeat (first | (with_reducible first | exact HB.out | apply zI | apply zF | apply zH | refine zE ?_ GE373.out | refine zE ?_ GE374.out) | exact HB.out)) hb)
                        clear HO_9 BK373 BK374 HB; have HO_9 := n0_; have BK373 := n1_; have BK374 := n2_; have HB := n3_; clear n0_ n1_ n2_ n3_; (try clear hb)
                        (try clear hb2)
                        (try clear hk)
                        (try clear hi)
                        refine hK.out _ _ ⟨(zG BK373.out 0).trans rfl, (zG BK373.out 1).trans rfl, (zG BK374.out 0).trans rfl, (zG BK374.out 1).trans rfl, (zG BK374.out 2).trans rfl, (zG BK374.out 3).trans rfl, (zG BK374.out 4).trans rfl, (zG BK374.out 5).trans rfl⟩ (fun hHeld => ?_)
                        clear hK K; refine norm_ (a' := ?_) ?_ ?_
                        rotate_left
                        · show Act.put _ (some 29) _ = _
                          simp only [Act.put, List.setIfInBounds_toArray, List.set_cons_zero, List.set_cons_succ, zM, zN]; rfl
                        refine pure_ (i := 8) (N := some 32) (v := ?_) (a' := ?_) #[true, true, true, true, true, true, true, true, true] rfl rfl (any_of HT_.out (by kernel_rfl)) (fun _ _ _ h => h) (Or.inl ⟨by rfl, ?_⟩) ?_ ?_
                        rotate_left
                        · intro w'
                          go_simp
                          with_reducible rfl
                        rotate_left
                        · simp only [Act.put, List.setIfInBounds_toArray, List.set_cons_zero, List.set_cons_succ, zM, zN]
                          rfl
                        refine done_ (done_of HT_.out (by kernel_rfl)) ?_
                        try go_wp2
                        have n0_ := zA.mk (Kd.R_drew HO_9.out); have n1_ := zA.mk (zD BK373.out); have n2_ := zA.mk (zD BK374.out); have n3_ := zA.mk (zH HB.out); clear HO_9; clear BK373; clear BK374; clear HB; have HO_9 := n0_; have BK373 := n1_; have BK374 := n2_; have HB := n3_; clear n0_ n1_ n2_ n3_; have p376 : 0 ≤ (x12_2 : Int) := of_decide_eq_true (by first | (with_reducible assumption) | assumption)
                        have q376 : x12_2 < (l0_1.length : Int) := of_decide_eq_true (by first | (with_reducible assumption) | assumption)
                        obtain ⟨ad376, e376, hx376_0⟩ := Kd.at_int HR0_1.out x12_2 p376 q376; have hw376_0 := hx376_0; cases e376
                        replace hx376_0 := (HB.out.cell (World.block_lt_of_cell? w _ hx376_0)).trans hx376_0; replace p376 := eq_true p376; replace q376 := eq_true q376; have p377 : 0 ≤ (x12_2 : Int) := of_decide_eq_true (by first | (with_reducible assumption) | assumption)
                        have q377 : x12_2 < (l0_1.length : Int) := of_decide_eq_true (by first | (with_reducible assumption) | assumption)
                        obtain ⟨ad377, e377, hx377_0⟩ := Kd.at_int HR0_1.out x12_2 p377 q377; have hw377_0 := hx377_0; obtain rfl : ad376 = ad377 := (by injection e377)
                        replace hx377_0 := (HB.out.cell (World.block_lt_of_cell? w _ hx377_0)).trans hx377_0; replace p377 := eq_true p377; replace q377 := eq_true q377; refine start_ (n := 22) (S := fun w' => w'.cell? ⟨gb373, 0, none⟩ = some (.slice A0_0 l0_0.length c0_0) ∧ w'.cell? ⟨gb373, 1, none⟩ = some (.slice (some ad376) l0_1.length c0_1) ∧ w'.cell? ⟨gb374, 0, none⟩ = some (.int .i64 a3_0) ∧ w'.cell? ⟨gb374, 1, none⟩ = some (.int .i64 a3_1) ∧ w'.cell? ⟨gb374, 2, none⟩ = some (.int .u8 a3_2) ∧ w'.cell? ⟨gb374, 3, none⟩ = some (.int .i64 a3_3) ∧ w'.cell? ⟨gb374, 4, none⟩ = some (.int .i64 a3_4) ∧ w'.cell? ⟨gb374, 5, none⟩ = some (.float .f64 a3_5) ∧ w'.cell? (ad376.add (x12_2).toNat) = some (.int .u8 (rd l0_1 x12_2)) ∧ w'.cell? (ad376.add (x12_2).toNat) = some (.int .u8 (rd l0_1 x12_2))) (ds := []) #[false, false, false, false, false, false, false, false, false, false, false, false, false, false, false, false, false, false, false, false, false, false] (by kernel_rfl) rfl rfl ⟨(zG BK373.out 0).trans rfl, (zG BK373.out 1).trans rfl, (zG BK374.out 0).trans rfl, (zG BK374.out 1).trans rfl, (zG BK374.out 2).trans rfl, (zG BK374.out 3).trans rfl, (zG BK374.out 4).trans rfl, (zG BK374.out 5).trans rfl, ((HB.out.cell (World.block_lt_of_cell? w _ hw376_0)).trans hw376_0), ((HB.out.cell (World.block_lt_of_cell? w _ hw377_0)).trans hw377_0)⟩ (fun hHeld => ?_); refine with_tabW stanzaref13_First.tab9 stanzaref13_First.bits9 (fun HT_ HW_ => ?_)
                        generalize w24.drew = w25 at HO_9 BK373 BK374 HB hx376_0 hx377_0 hHeld ⊢
                        refine pure_ (i := 0) (N := some 34) (v := ?_) (a' := ?_) #[true, false, false, false, false, false, false, false, false, false, false, false, false, false, false, false, false, false, false, false, false, false] rfl rfl (any_of HT_.out (by kernel_rfl)) (fun _ _ _ h => h) (Or.inl ⟨by rfl, ?_⟩) ?_ ?_
                        rotate_left
                        · intro w'
                          go_simp
                          with_reducible rfl
                        rotate_left
                        · simp only [Act.put, List.setIfInBounds_toArray, List.set_cons_zero, List.set_cons_succ, zM, zN]
                          rfl
                        refine pure_ (i := 2) (N := some 36) (v := ?_) (a' := ?_) #[true, false, true, false, false, false, false, false, false, false, false, false, false, false, false, false, false, false, false, false, false, false] rfl rfl (any_of HT_.out (by kernel_rfl)) (fun _ _ _ h => h) (Or.inl ⟨by rfl, ?_⟩) ?_ ?_
                        rotate_left
                        · intro w'
                          go_simp
                          with_reducible rfl
                        rotate_left
                        · simp only [Act.put, List.setIfInBounds_toArray, List.set_cons_zero, List.set_cons_succ, zM, zN]
                          rfl
                        refine take_ (i := 1) (N := some 35) (v := ?_) (a' := ?_) #[true, true, true, false, false, false, false, false, false, false, false, false, false, false, false, false, false, false, false, false, false, false] rfl rfl (take_ofW HT_.out HW_.out (by kernel_rfl)) (fun _ _ _ h => h) (Or.inl ⟨by rfl, ?_⟩) hHeld ?_ ?_
                        rotate_left
                        · rintro w' ⟨s0, s1, s2, s3, s4, s5, s6, s7, s8, s9⟩
                          go_simp
                          with_reducible rfl
                        rotate_left
                        · simp only [Act.put, List.setIfInBounds_toArray, List.set_cons_zero, List.set_cons_succ, zM, zN]
                          rfl
                        refine pure_ (i := 3) (N := some 37) (v := ?_) (a' := ?_) #[true, true, true, true, false, false, false, false, false, false, false, false, false, false, false, false, false, false, false, false, false, false] rfl rfl (any_of HT_.out (by kernel_rfl)) (fun _ _ _ h => h) (Or.inl ⟨by rfl, ?_⟩) ?_ ?_
                        rotate_left
                        · intro w'
                          go_simp
                          with_reducible rfl
                        rotate_left
                        · simp only [Act.put, List.setIfInBounds_toArray, List.set_cons_zero, List.set_cons_succ, zM, zN]
                          rfl
                        refine take_ (i := 4) (N := some 38) (v := ?_) (a' := ?_) #[true, true, true, true, true, false, false, false, false, false, false, false, false, false, false, false, false, false, false, false, false, false] rfl rfl (take_ofW HT_.out HW_.out (by kernel_rfl)) (fun _ _ _ h => h) (Or.inl ⟨by rfl, ?_⟩) hHeld ?_ ?_
                        rotate_left
                        · rintro w' ⟨s0, s1, s2, s3, s4, s5, s6, s7, s8, s9⟩
                          go_simp
                          with_reducible rfl
                        rotate_left
                        · simp only [Act.put, List.setIfInBounds_toArray, List.set_cons_zero, List.set_cons_succ, zM, zN]
                          rfl
                        refine pure_ (i := 5) (N := some 39) (v := ?_) (a' := ?_) #[true, true, true, true, true, true, false, false, false, false, false, false, false, false, false, false, false, false, false, false, false, false] rfl rfl (any_of HT_.out (by kernel_rfl)) (fun _ _ _ h => h) (Or.inl ⟨by rfl, ?_⟩) ?_ ?_
                        rotate_left
                        · intro w'
                          go_simp
                          with_reducible rfl
                        rotate_left
                        · simp only [Act.put, List.setIfInBounds_toArray, List.set_cons_zero, List.set_cons_succ, zM, zN]
                          rfl
                        refine pure_ (i := 6) (N := some 40) (v := ?_) (a' := ?_) #[true, true, true, true, true, true, true, false, false, false, false, false, false, false, false, false, false, false, false, false, false, false] rfl rfl (any_of HT_.out (by kernel_rfl)) (fun _ _ _ h => h) (Or.inl ⟨by rfl, ?_⟩) ?_ ?_
                        rotate_left
                        · intro w'
                          go_simp
                          with_reducible rfl
                        rotate_left
                        · simp only [Act.put, List.setIfInBounds_toArray, List.set_cons_zero, List.set_cons_succ, zM, zN]
                          rfl
                        refine pure_ (i := 8) (N := some 42) (v := ?_) (a' := ?_) #[true, true, true, true, true, true, true, false, true, false, false, false, false, false, false, false, false, false, false, false, false, false] rfl rfl (any_of HT_.out (by kernel_rfl)) (fun _ _ _ h => h) (Or.inl ⟨by rfl, ?_⟩) ?_ ?_
                        rotate_left
                        · intro w'
                          go_simp
                          with_reducible rfl
                        rotate_left
                        · simp only [Act.put, List.setIfInBounds_toArray, List.set_cons_zero, List.set_cons_succ, zM, zN]
                          rfl
                        refine pure_ (i := 9) (N := some 43) (v := ?_) (a' := ?_) #[true, true, true, true, true, true, true, false, true, true, false, false, false, false, false, false, false, false, false, false, false, false] rfl rfl (any_of HT_.out (by kernel_rfl)) (fun _ _ _ h => h) (Or.inl ⟨by rfl, ?_⟩) ?_ ?_
                        rotate_left
                        · intro w'
                          go_simp
                          with_reducible rfl
                        rotate_left
                        · simp only [Act.put, List.setIfInBounds_toArray, List.set_cons_zero, List.set_cons_succ, zM, zN]
                          rfl
                        refine pure_ (i := 10) (N := some 44) (v := ?_) (a' := ?_) #[true, true, true, true, true, true, true, false, true, true, true, false, false, false, false, false, false, false, false, false, false, false] rfl rfl (any_of HT_.out (by kernel_rfl)) (fun _ _ _ h => h) (Or.inl ⟨by rfl, ?_⟩) ?_ ?_
                        rotate_left
                        · intro w'
                          go_simp
                          with_reducible rfl
                        rotate_left
                        · simp only [Act.put, List.setIfInBounds_toArray, List.set_cons_zero, List.set_cons_succ, zM, zN]
                          rfl
                        refine pure_ (i := 12) (N := some 46) (v := ?_) (a' := ?_) #[true, true, true, true, true, true, true, false, true, true, true, false, true, false, false, false, false, false, false, false, false, false] rfl rfl (any_of HT_.out (by kernel_rfl)) (fun _ _ _ h => h) (Or.inl ⟨by rfl, ?_⟩) ?_ ?_
                        rotate_left
                        · intro w'
                          go_simp
                          with_reducible rfl
                        rotate_left
                        · simp only [Act.put, List.setIfInBounds_toArray, List.set_cons_zero, List.set_cons_succ, zM, zN]
                          rfl
                        refine pure_ (i := 15) (N := some 49) (v := ?_) (a' := ?_) #[true, true, true, true, true, true, true, false, true, true, true, false, true, false, false, true, false, false, false, false, false, false] rfl rfl (any_of HT_.out (by kernel_rfl)) (fun _ _ _ h => h) (Or.inl ⟨by rfl, ?_⟩) ?_ ?_
                        rotate_left
                        · intro w'
                          go_simp
                          with_reducible rfl
                        rotate_left
                        · simp only [Act.put, List.setIfInBounds_toArray, List.set_cons_zero, List.set_cons_succ, zM, zN]
                          rfl
                        refine pure_ (i := 18) (N := some 52) (v := ?_) (a' := ?_) #[true, true, true, true, true, true, true, false, true, true, true, false, true, false, false, true, false, false, true, false, false, false] rfl rfl (any_of HT_.out (by kernel_rfl)) (fun _ _ _ h => h) (Or.inl ⟨by rfl, ?_⟩) ?_ ?_
                        rotate_left
                        · intro w'
                          go_simp
                          with_reducible rfl
                        rotate_left
                        · simp only [Act.put, List.setIfInBounds_toArray, List.set_cons_zero, List.set_cons_succ, zM, zN]
                          rfl
                        refine take_ (i := 7) (N := some 41) (v := ?_) (a' := ?_) #[true, true, true, true, true, true, true, true, true, true, true, false, true, false, false, true, false, false, true, false, false, false] rfl rfl (take_ofW HT_.out HW_.out (by kernel_rfl)) (fun _ _ _ h => h) (Or.inl ⟨by rfl, ?_⟩) hHeld ?_ ?_
                        rotate_left
                        · rintro w' ⟨s0, s1, s2, s3, s4, s5, s6, s7, s8, s9⟩
                          go_simp
                          with_reducible rfl
                        rotate_left
                        · simp only [Act.put, List.setIfInBounds_toArray, List.set_cons_zero, List.set_cons_succ, zM, zN]
                          rfl
                        refine take_ (i := 11) (N := some 45) (v := ?_) (a' := ?_) #[true, true, true, true, true, true, true, true, true, true, true, true, true, false, false, true, false, false, true, false, false, false] rfl rfl (take_ofW HT_.out HW_.out (by kernel_rfl)) (fun _ _ _ h => h) (Or.inl ⟨by rfl, ?_⟩) hHeld ?_ ?_
                        rotate_left
                        · rintro w' ⟨s0, s1, s2, s3, s4, s5, s6, s7, s8, s9⟩
                          go_simp
                          with_reducible rfl
                        rotate_left
                        · simp only [Act.put, List.setIfInBounds_toArray, List.set_cons_zero, List.set_cons_succ, zM, zN]
                          rfl
                        refine pure_ (i := 13) (N := some 47) (v := ?_) (a' := ?_) #[true, true, true, true, true, true, true, true, true, true, true, true, true, true, false, true, false, false, true, false, false, false] rfl rfl (any_of HT_.out (by kernel_rfl)) (fun _ _ _ h => h) (Or.inl ⟨by rfl, ?_⟩) ?_ ?_
                        rotate_left
                        · intro w'
                          go_simp
                          with_reducible rfl
                        rotate_left
                        · simp only [Act.put, List.setIfInBounds_toArray, List.set_cons_zero, List.set_cons_succ, zM, zN]
                          rfl
                        refine take_ (i := 14) (N := some 48) (v := ?_) (a' := ?_) #[true, true, true, true, true, true, true, true, true, true, true, true, true, true, true, true, false, false, true, false, false, false] rfl rfl (take_ofW HT_.out HW_.out (by kernel_rfl)) (fun _ _ _ h => h) (Or.inl ⟨by rfl, ?_⟩) hHeld ?_ ?_
                        rotate_left
                        · rintro w' ⟨s0, s1, s2, s3, s4, s5, s6, s7, s8, s9⟩
                          go_simp
                          with_reducible rfl
                        rotate_left
                        · simp only [Act.put, List.setIfInBounds_toArray, List.set_cons_zero, List.set_cons_succ, zM, zN]
                          rfl
                        refine take_ (i := 16) (N := some 50) (v := ?_) (a' := ?_) #[true, true, true, true, true, true, true, true, true, true, true, true, true, true, true, true, true, false, true, false, false, false] rfl rfl (take_ofW HT_.out HW_.out (by kernel_rfl)) (fun _ _ _ h => h) (Or.inl ⟨by rfl, ?_⟩) hHeld ?_ ?_
                        rotate_left
                        · rintro w' ⟨s0, s1, s2, s3, s4, s5, s6, s7, s8, s9⟩
                          go_simp
                          with_reducible rfl
                        rotate_left
                        · simp only [Act.put, List.setIfInBounds_toArray, List.set_cons_zero, List.set_cons_succ, zM, zN]
                          rfl
                        refine take_ (i := 19) (N := some 53) (v := ?_) (a' := ?_) #[true, true, true, true, true, true, true, true, true, true, true, true, true, true, true, true, true, false, true, true, false, false] rfl rfl (take_ofW HT_.out HW_.out (by kernel_rfl)) (fun _ _ _ h => h) (Or.inl ⟨by rfl, ?_⟩) hHeld ?_ ?_
                        rotate_left
                        · rintro w' ⟨s0, s1, s2, s3, s4, s5, s6, s7, s8, s9⟩
                          go_simp
                          with_reducible rfl
                        rotate_left
                        · simp only [Act.put, List.setIfInBounds_toArray, List.set_cons_zero, List.set_cons_succ, zM, zN]
                          rfl
                        refine one_ (i := 17) (N := some 51) #[true, true, true, true, true, true, true, true, true, true, true, true, true, true, true, true, true, true, true, true, false, false] rfl rfl (one_of HT_.out (by kernel_rfl)) (by decide) (fun K hK => ?_)
                        refine goes_ Try.func32 (by kernel_rfl) rfl #[.agg #[.slice A0_0 l0_0.length c0_0, .slice (some ad376) l0_1.length c0_1], .int .i64 x1_1, .int .i64 x12_2, .int .u8 (rd l0_1 x12_2), .int .i64 a3_1] (by rfl) rfl rfl (by (try simp only [List.map_toArray, List.map_cons, List.map_nil]); first | done | rfl | (simp only [List.length_drop, List.length_take]; rfl)) ?_
                        with_reducible refine (stanzaref13_Cells.calls k2 _ _ l0_0 _ _ l0_1 x1_1 x12_2 (rd l0_1 x12_2) a3_1 t378 _ ?side1 ?side2 ?side3 ?side4 A17.out).mono ?_
                        (case side1 => repeat (first | exact (Kd.C_below HR0_0.out HB.out) | (with_reducible refine Kd.C_alloc ?_ _) | (with_reducible refine Kd.C_drewN ?_ _) | (with_reducible refine Kd.C_drew ?_)))
                        (case side2 => exact HC0_0.out)
                        (case side3 => repeat (first | exact (Kd.C_below HR0_1.out HB.out) | (with_reducible refine Kd.C_alloc ?_ _) | (with_reducible refine Kd.C_drewN ?_ _) | (with_reducible refine Kd.C_drew ?_)))
                        (case side4 => exact HC0_1.out)
                        rintro e w26 ⟨rfl, hb⟩
                        refine ⟨_, rfl, ?_⟩
                        have n0_ := zA.mk (Kd.R_below (by (with_reducible repeat (first | apply Kd.R_alloc | apply Kd.R_drewN | apply Kd.R_drew)); exact HO_9.out) hb)
                        have n1_ := zA.mk (zL (g := gb373) (o := .cells #[.slice A0_0 l0_0.length c0_0, .slice (some ad376) l0_1.length c0_1] 35 (0, 0)) (by (with_reducible repeat (first | refine zC ?_ _ | refine zD ?_ | refine zB ?_ _)); exact BK373.out) hb)
                        have n2_ := zA.mk (zL (g := gb374) (o := .cells #[.int .i64 a3_0, .int .i64 a3_1, .int .u8 a3_2, .int .i64 a3_3, .int .i64 a3_4, .float .f64 a3_5] 58 (0, 0)) (by (with_reducible repeat (first | refine zC ?_ _ | refine zD ?_ | refine zB ?_ _)); exact BK374.out) hb)
                        have n3_ := zA.mk (zO (by repeat (first | (with_reducible first | exact HB.out | apply zI | apply zF | apply zH | refine zE ?_ GE373.out | refine zE ?_ GE374.out) | exact HB.out)) hb)
                        clear HO_9 BK373 BK374 HB; have HO_9 := n0_; have BK373 := n1_; have BK374 := n2_; have HB := n3_; clear n0_ n1_ n2_ n3_; (try clear hb)
                        (try clear hb2)
                        (try clear hk)
                        (try clear hi)
                        refine hK.out _ _ ⟨(zG BK373.out 0).trans rfl, (zG BK373.out 1).trans rfl, (zG BK374.out 0).trans rfl, (zG BK374.out 1).trans rfl, (zG BK374.out 2).trans rfl, (zG BK374.out 3).trans rfl, (zG BK374.out 4).trans rfl, (zG BK374.out 5).trans rfl, ((HB.out.cell (World.block_lt_of_cell? w _ hw376_0)).trans hw376_0), ((HB.out.cell (World.block_lt_of_cell? w _ hw377_0)).trans hw377_0)⟩ (fun hHeld => ?_)
                        clear hK K; refine norm_ (a' := ?_) ?_ ?_
                        rotate_left
                        · show Act.put _ (some 51) _ = _
                          simp only [Act.put, List.setIfInBounds_toArray, List.set_cons_zero, List.set_cons_succ, zM, zN]; rfl
                        refine pure_ (i := 20) (N := some 54) (v := ?_) (a' := ?_) #[true, true, true, true, true, true, true, true, true, true, true, true, true, true, true, true, true, true, true, true, true, false] rfl rfl (any_of HT_.out (by kernel_rfl)) (fun _ _ _ h => h) (Or.inl ⟨by rfl, ?_⟩) ?_ ?_
                        rotate_left
                        · intro w'
                          go_simp
                          with_reducible rfl
                        rotate_left
                        · simp only [Act.put, List.setIfInBounds_toArray, List.set_cons_zero, List.set_cons_succ, zM, zN]
                          rfl
                        refine pure_ (i := 21) (N := some 55) (v := ?_) (a' := ?_) #[true, true, true, true, true, true, true, true, true, true, true, true, true, true, true, true, true, true, true, true, true, true] rfl rfl (any_of HT_.out (by kernel_rfl)) (fun _ _ _ h => h) (Or.inl ⟨by rfl, ?_⟩) ?_ ?_
                        rotate_left
                        · intro w'
                          go_simp
                          with_reducible rfl
                        rotate_left
                        · simp only [Act.put, List.setIfInBounds_toArray, List.set_cons_zero, List.set_cons_succ, zM, zN]
                          rfl
                        refine done_ (done_of HT_.out (by kernel_rfl)) ?_
                        try go_wp2
                        go_roundg k2
                        case measure => have := HK1.out; have := HK2.out; omega
                        case rel => exact ⟨(x10_2), (x12_2), (wrap64 (x12_2 + 1)), (by first | rfl | (simp; done) | (simp [*]; done)), (by first | rfl | (simp; done) | (simp [*]; done)), (by first | rfl | (simp; done) | (simp [*]; done)), H', ⟨by have := HK1.out; have := HK2.out; omega⟩, ⟨by (with_reducible repeat (first | apply Kd.R_alloc | apply Kd.R_drewN | apply Kd.R_drew)); exact HO_9.out⟩, ⟨by (with_reducible repeat (first | refine zC ?_ _ | refine zD ?_ | refine zB ?_ _)); exact BK373.out⟩, ⟨by (with_reducible repeat (first | refine zC ?_ _ | refine zD ?_ | refine zB ?_ _)); exact BK374.out⟩, ⟨by repeat (first | (with_reducible first | exact HB.out | apply zI | apply zF | apply zH | refine zE ?_ GE373.out | refine zE ?_ GE374.out) | exact HB.out)⟩⟩
                  · rw [if_neg c12] at H
                    exact absurd H (by simp)
                · rw [if_neg c11] at H
                  exact absurd H (by simp)
              · rw [if_neg c10] at H
                have c10b0 : decide (t375 ≤ a3_0) = false := decide_eq_false c10
                clear c10; have H' := zA.mk H
                clear H; try go_wp2
                have n0_ := zA.mk (Kd.R_drew HO_9.out); have n1_ := zA.mk (zD BK373.out); have n2_ := zA.mk (zD BK374.out); have n3_ := zA.mk (zH HB.out); clear HO_9; clear BK373; clear BK374; clear HB; have HO_9 := n0_; have BK373 := n1_; have BK374 := n2_; have HB := n3_; clear n0_ n1_ n2_ n3_; refine start_ (n := 9) (S := fun w' => w'.cell? ⟨gb373, 0, none⟩ = some (.slice A0_0 l0_0.length c0_0) ∧ w'.cell? ⟨gb373, 1, none⟩ = some (.slice A0_1 l0_1.length c0_1) ∧ w'.cell? ⟨gb374, 0, none⟩ = some (.int .i64 a3_0) ∧ w'.cell? ⟨gb374, 1, none⟩ = some (.int .i64 a3_1) ∧ w'.cell? ⟨gb374, 2, none⟩ = some (.int .u8 a3_2) ∧ w'.cell? ⟨gb374, 3, none⟩ = some (.int .i64 a3_3) ∧ w'.cell? ⟨gb374, 4, none⟩ = some (.int .i64 a3_4) ∧ w'.cell? ⟨gb374, 5, none⟩ = some (.float .f64 a3_5)) (ds := []) #[false, false, false, false, false, false, false, false, false] (by kernel_rfl) rfl rfl ⟨(zG BK373.out 0).trans rfl, (zG BK373.out 1).trans rfl, (zG BK374.out 0).trans rfl, (zG BK374.out 1).trans rfl, (zG BK374.out 2).trans rfl, (zG BK374.out 3).trans rfl, (zG BK374.out 4).trans rfl, (zG BK374.out 5).trans rfl⟩ (fun hHeld => ?_); refine with_tabW stanzaref13_First.tab7 stanzaref13_First.bits7 (fun HT_ HW_ => ?_)
                generalize wr.drew = w27 at HO_9 BK373 BK374 HB hHeld ⊢
                refine pure_ (i := 1) (N := some 25) (v := ?_) (a' := ?_) #[false, true, false, false, false, false, false, false, false] rfl rfl (any_of HT_.out (by kernel_rfl)) (fun _ _ _ h => h) (Or.inl ⟨by rfl, ?_⟩) ?_ ?_
                rotate_left
                · intro w'
                  go_simp
                  with_reducible rfl
                rotate_left
                · simp only [Act.put, List.setIfInBounds_toArray, List.set_cons_zero, List.set_cons_succ, zM, zN]
                  rfl
                refine pure_ (i := 2) (N := some 26) (v := ?_) (a' := ?_) #[false, true, true, false, false, false, false, false, false] rfl rfl (any_of HT_.out (by kernel_rfl)) (fun _ _ _ h => h) (Or.inl ⟨by rfl, ?_⟩) ?_ ?_
                rotate_left
                · intro w'
                  go_simp
                  with_reducible rfl
                rotate_left
                · simp only [Act.put, List.setIfInBounds_toArray, List.set_cons_zero, List.set_cons_succ, zM, zN]
                  rfl
                refine pure_ (i := 3) (N := some 27) (v := ?_) (a' := ?_) #[false, true, true, true, false, false, false, false, false] rfl rfl (any_of HT_.out (by kernel_rfl)) (fun _ _ _ h => h) (Or.inl ⟨by rfl, ?_⟩) ?_ ?_
                rotate_left
                · intro w'
                  go_simp
                  with_reducible rfl
                rotate_left
                · simp only [Act.put, List.setIfInBounds_toArray, List.set_cons_zero, List.set_cons_succ, zM, zN]
                  rfl
                refine pure_ (i := 6) (N := some 30) (v := ?_) (a' := ?_) #[false, true, true, true, false, false, true, false, false] rfl rfl (any_of HT_.out (by kernel_rfl)) (fun _ _ _ h => h) (Or.inl ⟨by rfl, ?_⟩) ?_ ?_
                rotate_left
                · intro w'
                  go_simp
                  with_reducible rfl
                rotate_left
                · simp only [Act.put, List.setIfInBounds_toArray, List.set_cons_zero, List.set_cons_succ, zM, zN]
                  rfl
                refine take_ (i := 0) (N := some 24) (v := ?_) (a' := ?_) #[true, true, true, true, false, false, true, false, false] rfl rfl (take_ofW HT_.out HW_.out (by kernel_rfl)) (fun _ _ _ h => h) (Or.inl ⟨by rfl, ?_⟩) hHeld ?_ ?_
                rotate_left
                · rintro w' ⟨s0, s1, s2, s3, s4, s5, s6, s7⟩
                  go_simp
                  with_reducible rfl
                rotate_left
                · simp only [Act.put, List.setIfInBounds_toArray, List.set_cons_zero, List.set_cons_succ, zM, zN]
                  rfl
                refine take_ (i := 4) (N := some 28) (v := ?_) (a' := ?_) #[true, true, true, true, true, false, true, false, false] rfl rfl (take_ofW HT_.out HW_.out (by kernel_rfl)) (fun _ _ _ h => h) (Or.inl ⟨by rfl, ?_⟩) hHeld ?_ ?_
                rotate_left
                · rintro w' ⟨s0, s1, s2, s3, s4, s5, s6, s7⟩
                  go_simp
                  with_reducible rfl
                rotate_left
                · simp only [Act.put, List.setIfInBounds_toArray, List.set_cons_zero, List.set_cons_succ, zM, zN]
                  rfl
                refine take_ (i := 7) (N := some 31) (v := ?_) (a' := ?_) #[true, true, true, true, true, false, true, true, false] rfl rfl (take_ofW HT_.out HW_.out (by kernel_rfl)) (fun _ _ _ h => h) (Or.inl ⟨by rfl, ?_⟩) hHeld ?_ ?_
                rotate_left
                · rintro w' ⟨s0, s1, s2, s3, s4, s5, s6, s7⟩
                  go_simp
                  with_reducible rfl
                rotate_left
                · simp only [Act.put, List.setIfInBounds_toArray, List.set_cons_zero, List.set_cons_succ, zM, zN]
                  rfl
                refine one_ (i := 5) (N := some 29) #[true, true, true, true, true, true, true, true, false] rfl rfl (one_of HT_.out (by kernel_rfl)) (by decide) (fun K hK => ?_)
                refine goes_ Try.func32 (by kernel_rfl) rfl #[.agg #[.slice A0_0 l0_0.length c0_0, .slice A0_1 l0_1.length c0_1], .int .i64 x1_1, .int .i64 x12_2, .int .u8 0, .int .i64 a3_1] (by rfl) rfl rfl (by (try simp only [List.map_toArray, List.map_cons, List.map_nil]); first | done | rfl | (simp only [List.length_drop, List.length_take]; rfl)) ?_
                with_reducible refine (stanzaref13_Cells.calls k2 _ _ l0_0 _ _ l0_1 x1_1 x12_2 0 a3_1 t375 _ ?side1 ?side2 ?side3 ?side4 A9.out).mono ?_
                (case side1 => repeat (first | exact (Kd.C_below HR0_0.out HB.out) | (with_reducible refine Kd.C_alloc ?_ _) | (with_reducible refine Kd.C_drewN ?_ _) | (with_reducible refine Kd.C_drew ?_)))
                (case side2 => exact HC0_0.out)
                (case side3 => repeat (first | exact (Kd.C_below HR0_1.out HB.out) | (with_reducible refine Kd.C_alloc ?_ _) | (with_reducible refine Kd.C_drewN ?_ _) | (with_reducible refine Kd.C_drew ?_)))
                (case side4 => exact HC0_1.out)
                rintro e w28 ⟨rfl, hb⟩
                refine ⟨_, rfl, ?_⟩
                have n0_ := zA.mk (Kd.R_below (by (with_reducible repeat (first | apply Kd.R_alloc | apply Kd.R_drewN | apply Kd.R_drew)); exact HO_9.out) hb)
                have n1_ := zA.mk (zL (g := gb373) (o := .cells #[.slice A0_0 l0_0.length c0_0, .slice A0_1 l0_1.length c0_1] 35 (0, 0)) (by (with_reducible repeat (first | refine zC ?_ _ | refine zD ?_ | refine zB ?_ _)); exact BK373.out) hb)
                have n2_ := zA.mk (zL (g := gb374) (o := .cells #[.int .i64 a3_0, .int .i64 a3_1, .int .u8 a3_2, .int .i64 a3_3, .int .i64 a3_4, .float .f64 a3_5] 58 (0, 0)) (by (with_reducible repeat (first | refine zC ?_ _ | refine zD ?_ | refine zB ?_ _)); exact BK374.out) hb)
                have n3_ := zA.mk (zO (by repeat (first | (with_reducible first | exact HB.out | apply zI | apply zF | apply zH | refine zE ?_ GE373.out | refine zE ?_ GE374.out) | exact HB.out)) hb)
                clear HO_9 BK373 BK374 HB; have HO_9 := n0_; have BK373 := n1_; have BK374 := n2_; have HB := n3_; clear n0_ n1_ n2_ n3_; (try clear hb)
                (try clear hb2)
                (try clear hk)
                (try clear hi)
                refine hK.out _ _ ⟨(zG BK373.out 0).trans rfl, (zG BK373.out 1).trans rfl, (zG BK374.out 0).trans rfl, (zG BK374.out 1).trans rfl, (zG BK374.out 2).trans rfl, (zG BK374.out 3).trans rfl, (zG BK374.out 4).trans rfl, (zG BK374.out 5).trans rfl⟩ (fun hHeld => ?_)
                clear hK K; refine norm_ (a' := ?_) ?_ ?_
                rotate_left
                · show Act.put _ (some 29) _ = _
                  simp only [Act.put, List.setIfInBounds_toArray, List.set_cons_zero, List.set_cons_succ, zM, zN]; rfl
                refine pure_ (i := 8) (N := some 32) (v := ?_) (a' := ?_) #[true, true, true, true, true, true, true, true, true] rfl rfl (any_of HT_.out (by kernel_rfl)) (fun _ _ _ h => h) (Or.inl ⟨by rfl, ?_⟩) ?_ ?_
                rotate_left
                · intro w'
                  go_simp
                  with_reducible rfl
                rotate_left
                · simp only [Act.put, List.setIfInBounds_toArray, List.set_cons_zero, List.set_cons_succ, zM, zN]
                  rfl
                refine done_ (done_of HT_.out (by kernel_rfl)) ?_
                try go_wp2
                go_roundg k2
                case measure => have := HK1.out; have := HK2.out; omega
                case rel => exact ⟨(x10_2), (x11_2), (wrap64 (x12_2 + 1)), (by first | rfl | (simp; done) | (simp [*]; done)), (by first | rfl | (simp; done) | (simp [*]; done)), (by first | rfl | (simp; done) | (simp [*]; done)), H', ⟨by have := HK1.out; have := HK2.out; omega⟩, ⟨by (with_reducible repeat (first | apply Kd.R_alloc | apply Kd.R_drewN | apply Kd.R_drew)); exact HO_9.out⟩, ⟨by (with_reducible repeat (first | refine zC ?_ _ | refine zD ?_ | refine zB ?_ _)); exact BK373.out⟩, ⟨by (with_reducible repeat (first | refine zC ?_ _ | refine zD ?_ | refine zB ?_ _)); exact BK374.out⟩, ⟨by repeat (first | (with_reducible first | exact HB.out | apply zI | apply zF | apply zH | refine zE ?_ GE373.out | refine zE ?_ GE374.out) | exact HB.out)⟩⟩
            · rw [if_neg c8] at H
              have c8b0 : decide (x12_2 ≤ a2) = false := decide_eq_false c8
              clear c8; by_cases c29 : x10_2 ≥ 0
              · rw [if_pos c29] at H
                have c29b0 : decide (0 ≤ x10_2) = true := decide_eq_true c29
                clear c29; by_cases c30 : 0 ≤ x10_2
                · rw [if_pos c30] at H
                  have c30b0 : decide (0 ≤ x10_2) = true := decide_eq_true c30
                  clear c30; by_cases c31 : x10_2 < (l0_1.length : Int)
                  · rw [if_pos c31] at H
                    have c31b0 : decide (x10_2 < (l0_1.length : Int)) = true := decide_eq_true c31
                    clear c31; replace H := Option.bind_eq_some_iff.mp H; obtain ⟨⟨t380, t381, t382, t383⟩, A320, H⟩ := H; replace H : (if x9_1.length < 4398046511104 then (stanzaref13_First.l0 k2 x10_2 a2 (x9_1 ++ [(⟨t380, t381, t382, t383⟩ : S63)]) l0_0 l0_1 a3_0 a3_1 a3_2 a3_3 a3_4 a3_5) else (none)) = some r := H; have A32 := zA.mk A320; clear A320; by_cases c33 : x9_1.length < 4398046511104
                    · rw [if_pos c33] at H
                      have LMc33 := zA.mk c33; clear c33; obtain ⟨y384, hy384⟩ : ∃ y_ : List (S63), y_ = (x9_1 ++ [(⟨t380, t381, t382, t383⟩ : S63)]) := ⟨_, rfl⟩; replace H : (stanzaref13_First.l0 k2 x10_2 a2 y384 l0_0 l0_1 a3_0 a3_1 a3_2 a3_3 a3_4 a3_5) = some r := by first | (rw [hy384]; with_reducible exact H) | (have H2_ := (Option.bind_some _ _).symm.trans H; rw [hy384]; with_reducible exact H2_) | (have H2_ := (Option.bind_some _ _).symm.trans H; with_reducible exact H2_) | with_reducible exact H | (rw [hy384]; exact H) | exact H
                      have Ny384 := zA.mk hy384; clear hy384; have H' := zA.mk H
                      clear H; have hnb34 := NB373_374.out; have hnc34 := NB374_373.out; have hcz35_0 : wr.cell? ⟨gb373, 0, none⟩ = some (.slice A0_0 l0_0.length c0_0) := (zG BK373.out 0).trans rfl
                      have hcz35_1 : wr.cell? ⟨gb373, 1, none⟩ = some (.slice A0_1 l0_1.length c0_1) := (zG BK373.out 1).trans rfl
                      have hfz35_0 := zJ BK373.out 0; have hfz35_1 := zJ BK373.out 1; have p379 : 0 ≤ (x10_2 : Int) := of_decide_eq_true (by first | (with_reducible assumption) | assumption)
                      have q379 : x10_2 < (l0_1.length : Int) := of_decide_eq_true (by first | (with_reducible assumption) | assumption)
                      obtain ⟨ad379, e379, hx379_0⟩ := Kd.at_int HR0_1.out x10_2 p379 q379; cases e379
                      replace hx379_0 := (HB.out.cell (World.block_lt_of_cell? w _ hx379_0)).trans hx379_0; replace p379 := eq_true p379; replace q379 := eq_true q379; have hcz36_0 : wr.cell? ⟨gb374, 0, none⟩ = some (.int .i64 a3_0) := (zG BK374.out 0).trans rfl
                      have hcz36_1 : wr.cell? ⟨gb374, 1, none⟩ = some (.int .i64 a3_1) := (zG BK374.out 1).trans rfl
                      have hcz36_2 : wr.cell? ⟨gb374, 2, none⟩ = some (.int .u8 a3_2) := (zG BK374.out 2).trans rfl
                      have hcz36_3 : wr.cell? ⟨gb374, 3, none⟩ = some (.int .i64 a3_3) := (zG BK374.out 3).trans rfl
                      have hcz36_4 : wr.cell? ⟨gb374, 4, none⟩ = some (.int .i64 a3_4) := (zG BK374.out 4).trans rfl
                      have hcz36_5 : wr.cell? ⟨gb374, 5, none⟩ = some (.float .f64 a3_5) := (zG BK374.out 5).trans rfl
                      have hfz36_0 := zJ BK374.out 0; have hfz36_1 := zJ BK374.out 1; have hfz36_2 := zJ BK374.out 2; have hfz36_3 := zJ BK374.out 3; have hfz36_4 := zJ BK374.out 4; have hfz36_5 := zJ BK374.out 5; go_wp2_with (first | ((with_reducible refine gate_callee (f := 35) rfl ?_); refine goesL_ (some 95) rfl rfl Try.func35 (by kernel_rfl) rfl #[.agg #[.slice A0_0 l0_0.length c0_0, .slice (some ad379) l0_1.length c0_1], .int .i64 x1_1, .int .i64 x10_2, .int .u8 (rd l0_1 x10_2), .int .i64 a3_1] rfl (by (try simp only [List.map_toArray, List.map_cons, List.map_nil]); first | done | rfl | (simp only [List.length_drop, List.length_take]; rfl)) ?_; (with_reducible refine (stanzaref13_Line.calls k2 _ _ l0_0 _ _ l0_1 x1_1 x10_2 (rd l0_1 x10_2) a3_1 t380 t381 t382 t383 _ ?side1 ?side2 ?side3 ?side4 A32.out).mono ?_); (case side1 => repeat (first | exact (Kd.C_below HR0_0.out HB.out) | (with_reducible refine Kd.C_alloc ?_ _) | (with_reducible refine Kd.C_drewN ?_ _) | (with_reducible refine Kd.C_drew ?_))); (case side2 => exact HC0_0.out); (case side3 => repeat (first | exact (Kd.C_below HR0_1.out HB.out) | (with_reducible refine Kd.C_alloc ?_ _) | (with_reducible refine Kd.C_drewN ?_ _) | (with_reducible refine Kd.C_drew ?_))); (case side4 => exact HC0_1.out); rintro e w37 ⟨rfl, hb⟩; refine ⟨_, rfl, ?_⟩; have n0_ := zA.mk (Kd.R_below (by (with_reducible repeat (first | apply Kd.R_alloc | apply Kd.R_drewN | apply Kd.R_drew)); exact HO_9.out) hb); have n1_ := zA.mk (zL (g := gb373) (o := .cells #[.slice A0_0 l0_0.length c0_0, .slice (some ad379) l0_1.length c0_1] 35 (0, 0)) (by (with_reducible repeat (first | refine zC ?_ _ | refine zD ?_ | refine zB ?_ _)); exact BK373.out) hb); have n2_ := zA.mk (zL (g := gb374) (o := .cells #[.int .i64 a3_0, .int .i64 a3_1, .int .u8 a3_2, .int .i64 a3_3, .int .i64 a3_4, .float .f64 a3_5] 58 (0, 0)) (by (with_reducible repeat (first | refine zC ?_ _ | refine zD ?_ | refine zB ?_ _)); exact BK374.out) hb); have n3_ := zA.mk (zO (by repeat (first | (with_reducible first | exact HB.out | apply zI | apply zF | apply zH | refine zE ?_ GE373.out | refine zE ?_ GE374.out) | exact HB.out)) hb); clear HO_9; clear BK373; clear BK374; clear HB; have HO_9 := n0_; have BK373 := n1_; have BK374 := n2_; have HB := n3_; clear n0_ n1_ n2_ n3_; (try clear hb); (try clear hb2); (try clear hk); (try clear hi)) | ((with_reducible refine gate_builtin (b := .append) (xs := #[.tmp 88, .tmp 96]) rfl ?_); at_builtin; refine Kd.R_append k63 (w0 := w) w.heap.size rfl (.tmp 88) (.tmp 96) 68 63 (.agg #[(.int .i64 0), (.int .i64 0), (.int .i64 0), (.int .u8 0)]) 32 rfl Try.underlying68 info63 rfl (by decide) (by omega) u9 x9_1 (⟨t380, t381, t382, t383⟩ : S63) [.int .i64 t380, .int .i64 t381, .int .i64 t382, .int .u8 t383] (fun _ => True) (fun _ => False) rfl rfl ?aP (fun _ hk => hk.elim) ?aF ?aO ?aB ?aS ?aL ?_; (case aP => exact k63_mkM _ _ _ (⟨t380, t381, t382, t383⟩ : S63)); (case aB => exact (by repeat (first | (with_reducible first | exact HB.out | apply zI | apply zF | apply zH | refine zE ?_ GE373.out | refine zE ?_ GE374.out) | exact HB.out))); (case aF => exact (fun _ _ => trivial)); (case aO => exact (by (with_reducible repeat (first | apply Kd.R_alloc | apply Kd.R_drewN | apply Kd.R_drew)); exact HO_9.out)); (case aS => exact (zK (by repeat (first | (with_reducible first | exact HB.out | apply zI | apply zF | apply zH | refine zE ?_ GE373.out | refine zE ?_ GE374.out) | exact HB.out)))); (case aL => have := LMc33.out; omega); intro v385 w38 ho hb hg hat; rw [← Ny384.out] at ho; have n0_ := zA.mk (blk_grown (g := gb373) (o := .cells #[.slice A0_0 l0_0.length c0_0, .slice (some ad379) l0_1.length c0_1] 35 (0, 0)) (by (with_reducible repeat (first | refine zC ?_ _ | refine zD ?_ | refine zB ?_ _)); exact BK373.out) hg (Kd.R_ne HO_9.out BK373.out (by decide))); have n1_ := zA.mk (blk_grown (g := gb374) (o := .cells #[.int .i64 a3_0, .int .i64 a3_1, .int .u8 a3_2, .int .i64 a3_3, .int .i64 a3_4, .float .f64 a3_5] 58 (0, 0)) (by (with_reducible repeat (first | refine zC ?_ _ | refine zD ?_ | refine zB ?_ _)); exact BK374.out) hg (Kd.R_ne HO_9.out BK374.out (by decide))); have n2_ := zA.mk (hb); have n3_ := zA.mk (ho); clear BK373; clear BK374; clear HB; clear HO_9; have BK373 := n0_; have BK374 := n1_; have HB := n2_; have HO386 := n3_; clear n0_ n1_ n2_ n3_; clear ho hb hg hat))
                      go_roundg k2
                      case measure => have := HK1.out; have := HK2.out; omega
                      case rel => exact ⟨(x10_2), (y384), (by first | rfl | (simp; done) | (simp [*]; done)), H', ⟨by have := HK1.out; have := HK2.out; omega⟩, ⟨by (with_reducible repeat (first | apply Kd.R_alloc | apply Kd.R_drewN | apply Kd.R_drew)); exact HO386.out⟩, ⟨by (with_reducible repeat (first | refine zC ?_ _ | refine zD ?_ | refine zB ?_ _)); exact BK373.out⟩, ⟨by (with_reducible repeat (first | refine zC ?_ _ | refine zD ?_ | refine zB ?_ _)); exact BK374.out⟩, ⟨by repeat (first | (with_reducible first | exact HB.out | apply zI | apply zF | apply zH | refine zE ?_ GE373.out | refine zE ?_ GE374.out) | exact HB.out)⟩⟩
                    · rw [if_neg c33] at H
                      exact absurd H (by simp)
                  · rw [if_neg c31] at H
                    exact absurd H (by simp)
                · rw [if_neg c30] at H
                  exact absurd H (by simp)
              · rw [if_neg c29] at H
                have c29b0 : decide (0 ≤ x10_2) = false := decide_eq_false c29
                clear c29; by_cases c39 : x11_2 < 0
                · rw [if_pos c39] at H
                  have c39b0 : decide (x11_2 < 0) = true := decide_eq_true c39
                  clear c39; obtain ⟨ji40, hji40⟩ : ∃ j_ : Int, (wrap64 (x1_1 + 1)) = j_ := ⟨_, rfl⟩; replace H : (if 0 ≤ (ji40) then (if (ji40) < (l0_1.length : Int) then (if (rd l0_1 (ji40)) = 2 then ((stanzaref13_Line.f k2 l0_0 l0_1 x1_1 (ji40) (rd l0_1 (ji40)) a3_1).bind fun bt389 => (if x9_1.length < 4398046511104 then (stanzaref13_First.l0 k2 ji40 a2 (x9_1 ++ [(⟨bt389.1, bt389.2.1, bt389.2.2.1, bt389.2.2.2⟩ : S63)]) l0_0 l0_1 a3_0 a3_1 a3_2 a3_3 a3_4 a3_5) else (none))) else (if (rd l0_1 (ji40)) = 1 then ((stanzaref13_Line.f k2 l0_0 l0_1 x1_1 (ji40) (rd l0_1 (ji40)) a3_1).bind fun bt398 => (if x9_1.length < 4398046511104 then (stanzaref13_First.l0 k2 ji40 a2 (x9_1 ++ [(⟨bt398.1, bt398.2.1, bt398.2.2.1, bt398.2.2.2⟩ : S63)]) l0_0 l0_1 a3_0 a3_1 a3_2 a3_3 a3_4 a3_5) else (none))) else ((stanzaref13_Line.f k2 l0_0 l0_1 x1_1 (ji40) 4 a3_1).bind fun bt405 => (if x9_1.length < 4398046511104 then (stanzaref13_First.l0 k2 ji40 a2 (x9_1 ++ [(⟨bt405.1, bt405.2.1, bt405.2.2.1, bt405.2.2.2⟩ : S63)]) l0_0 l0_1 a3_0 a3_1 a3_2 a3_3 a3_4 a3_5) else (none))))) else (none)) else (none)) = some r := by first | (rw [hji40] at H; exact H) | (simp only [hji40] at H ⊢; exact H)
                  have hji40w : (IntKind.i64.wrap (x1_1 + 1)) = ji40 := (zM _).trans hji40
                  by_cases c41 : 0 ≤ (ji40)
                  · rw [if_pos c41] at H
                    have c41b0 : decide (0 ≤ (ji40)) = true := decide_eq_true c41
                    clear c41; by_cases c42 : (ji40) < (l0_1.length : Int)
                    · rw [if_pos c42] at H
                      have c42b0 : decide ((ji40) < (l0_1.length : Int)) = true := decide_eq_true c42
                      clear c42; by_cases c43 : (rd l0_1 (ji40)) = 2
                      · rw [if_pos c43] at H
                        have c43b0 : ((rd l0_1 (ji40)) == 2) = true := beq_iff_eq.mpr c43
                        have c43b1 : ((rd l0_1 (ji40)) != 2) = false := bne_eq_false_iff_eq.mpr c43
                        clear c43; replace H := Option.bind_eq_some_iff.mp H; obtain ⟨⟨t389, t390, t391, t392⟩, A440, H⟩ := H; replace H : (if x9_1.length < 4398046511104 then (stanzaref13_First.l0 k2 ji40 a2 (x9_1 ++ [(⟨t389, t390, t391, t392⟩ : S63)]) l0_0 l0_1 a3_0 a3_1 a3_2 a3_3 a3_4 a3_5) else (none)) = some r := H; have A44 := zA.mk A440; clear A440; by_cases c45 : x9_1.length < 4398046511104
                        · rw [if_pos c45] at H
                          have LMc45 := zA.mk c45; clear c45; obtain ⟨y393, hy393⟩ : ∃ y_ : List (S63), y_ = (x9_1 ++ [(⟨t389, t390, t391, t392⟩ : S63)]) := ⟨_, rfl⟩; replace H : (stanzaref13_First.l0 k2 ji40 a2 y393 l0_0 l0_1 a3_0 a3_1 a3_2 a3_3 a3_4 a3_5) = some r := by first | (rw [hy393]; with_reducible exact H) | (have H2_ := (Option.bind_some _ _).symm.trans H; rw [hy393]; with_reducible exact H2_) | (have H2_ := (Option.bind_some _ _).symm.trans H; with_reducible exact H2_) | with_reducible exact H | (rw [hy393]; exact H) | exact H
                          have Ny393 := zA.mk hy393; clear hy393; have H' := zA.mk H
                          clear H; have hnb46 := NB373_374.out; have hnc46 := NB374_373.out; have hcz47_0 : wr.cell? ⟨gb373, 0, none⟩ = some (.slice A0_0 l0_0.length c0_0) := (zG BK373.out 0).trans rfl
                          have hcz47_1 : wr.cell? ⟨gb373, 1, none⟩ = some (.slice A0_1 l0_1.length c0_1) := (zG BK373.out 1).trans rfl
                          have hfz47_0 := zJ BK373.out 0; have hfz47_1 := zJ BK373.out 1; have p387 : 0 ≤ ((ji40) : Int) := of_decide_eq_true (by first | (with_reducible assumption) | assumption)
                          have q387 : (ji40) < (l0_1.length : Int) := of_decide_eq_true (by first | (with_reducible assumption) | assumption)
                          obtain ⟨ad387, e387, hx387_0⟩ := Kd.at_int HR0_1.out (ji40) p387 q387; cases e387
                          replace hx387_0 := (HB.out.cell (World.block_lt_of_cell? w _ hx387_0)).trans hx387_0; replace p387 := eq_true p387; replace q387 := eq_true q387; have p388 : 0 ≤ ((ji40) : Int) := of_decide_eq_true (by first | (with_reducible assumption) | assumption)
                          have q388 : (ji40) < (l0_1.length : Int) := of_decide_eq_true (by first | (with_reducible assumption) | assumption)
                          obtain ⟨ad388, e388, hx388_0⟩ := Kd.at_int HR0_1.out (ji40) p388 q388; obtain rfl : ad387 = ad388 := (by injection e388)
                          replace hx388_0 := (HB.out.cell (World.block_lt_of_cell? w _ hx388_0)).trans hx388_0; replace p388 := eq_true p388; replace q388 := eq_true q388; have hcz48_0 : wr.cell? ⟨gb374, 0, none⟩ = some (.int .i64 a3_0) := (zG BK374.out 0).trans rfl
                          have hcz48_1 : wr.cell? ⟨gb374, 1, none⟩ = some (.int .i64 a3_1) := (zG BK374.out 1).trans rfl
                          have hcz48_2 : wr.cell? ⟨gb374, 2, none⟩ = some (.int .u8 a3_2) := (zG BK374.out 2).trans rfl
                          have hcz48_3 : wr.cell? ⟨gb374, 3, none⟩ = some (.int .i64 a3_3) := (zG BK374.out 3).trans rfl
                          have hcz48_4 : wr.cell? ⟨gb374, 4, none⟩ = some (.int .i64 a3_4) := (zG BK374.out 4).trans rfl
                          have hcz48_5 : wr.cell? ⟨gb374, 5, none⟩ = some (.float .f64 a3_5) := (zG BK374.out 5).trans rfl
                          have hfz48_0 := zJ BK374.out 0; have hfz48_1 := zJ BK374.out 1; have hfz48_2 := zJ BK374.out 2; have hfz48_3 := zJ BK374.out 3; have hfz48_4 := zJ BK374.out 4; have hfz48_5 := zJ BK374.out 5; go_wp2_with (first | ((with_reducible refine gate_callee (f := 35) rfl ?_); refine goesL_ (some 95) rfl rfl Try.func35 (by kernel_rfl) rfl #[.agg #[.slice A0_0 l0_0.length c0_0, .slice (some ad387) l0_1.length c0_1], .int .i64 x1_1, .int .i64 ji40, .int .u8 (rd l0_1 (ji40)), .int .i64 a3_1] rfl (by (try simp only [List.map_toArray, List.map_cons, List.map_nil]); first | done | (simp only [hji40]; rfl) | rfl | (simp only [List.length_drop, List.length_take]; rfl)) ?_; (with_reducible refine (stanzaref13_Line.calls k2 _ _ l0_0 _ _ l0_1 x1_1 ji40 (rd l0_1 (ji40)) a3_1 t389 t390 t391 t392 _ ?side1 ?side2 ?side3 ?side4 A44.out).mono ?_); (case side1 => repeat (first | exact (Kd.C_below HR0_0.out HB.out) | (with_reducible refine Kd.C_alloc ?_ _) | (with_reducible refine Kd.C_drewN ?_ _) | (with_reducible refine Kd.C_drew ?_))); (case side2 => exact HC0_0.out); (case side3 => repeat (first | exact (Kd.C_below HR0_1.out HB.out) | (with_reducible refine Kd.C_alloc ?_ _) | (with_reducible refine Kd.C_drewN ?_ _) | (with_reducible refine Kd.C_drew ?_))); (case side4 => exact HC0_1.out); rintro e w49 ⟨rfl, hb⟩; refine ⟨_, rfl, ?_⟩; have n0_ := zA.mk (Kd.R_below (by (with_reducible repeat (first | apply Kd.R_alloc | apply Kd.R_drewN | apply Kd.R_drew)); exact HO_9.out) hb); have n1_ := zA.mk (zL (g := gb373) (o := .cells #[.slice A0_0 l0_0.length c0_0, .slice (some ad387) l0_1.length c0_1] 35 (0, 0)) (by (with_reducible repeat (first | refine zC ?_ _ | refine zD ?_ | refine zB ?_ _)); exact BK373.out) hb); have n2_ := zA.mk (zL (g := gb374) (o := .cells #[.int .i64 a3_0, .int .i64 a3_1, .int .u8 a3_2, .int .i64 a3_3, .int .i64 a3_4, .float .f64 a3_5] 58 (0, 0)) (by (with_reducible repeat (first | refine zC ?_ _ | refine zD ?_ | refine zB ?_ _)); exact BK374.out) hb); have n3_ := zA.mk (zO (by repeat (first | (with_reducible first | exact HB.out | apply zI | apply zF | apply zH | refine zE ?_ GE373.out | refine zE ?_ GE374.out) | exact HB.out)) hb); clear HO_9; clear BK373; clear BK374; clear HB; have HO_9 := n0_; have BK373 := n1_; have BK374 := n2_; have HB := n3_; clear n0_ n1_ n2_ n3_; (try clear hb); (try clear hb2); (try clear hk); (try clear hi)) | ((with_reducible refine gate_builtin (b := .append) (xs := #[.tmp 88, .tmp 96]) rfl ?_); at_builtin; refine Kd.R_append k63 (w0 := w) w.heap.size rfl (.tmp 88) (.tmp 96) 68 63 (.agg #[(.int .i64 0), (.int .i64 0), (.int .i64 0), (.int .u8 0)]) 32 rfl Try.underlying68 info63 rfl (by decide) (by omega) u9 x9_1 (⟨t389, t390, t391, t392⟩ : S63) [.int .i64 t389, .int .i64 t390, .int .i64 t391, .int .u8 t392] (fun _ => True) (fun _ => False) rfl rfl ?aP (fun _ hk => hk.elim) ?aF ?aO ?aB ?aS ?aL ?_; (case aP => exact k63_mkM _ _ _ (⟨t389, t390, t391, t392⟩ : S63)); (case aB => exact (by repeat (first | (with_reducible first | exact HB.out | apply zI | apply zF | apply zH | refine zE ?_ GE373.out | refine zE ?_ GE374.out) | exact HB.out))); (case aF => exact (fun _ _ => trivial)); (case aO => exact (by (with_reducible repeat (first | apply Kd.R_alloc | apply Kd.R_drewN | apply Kd.R_drew)); exact HO_9.out)); (case aS => exact (zK (by repeat (first | (with_reducible first | exact HB.out | apply zI | apply zF | apply zH | refine zE ?_ GE373.out | refine zE ?_ GE374.out) | exact HB.out)))); (case aL => have := LMc45.out; omega); intro v394 w50 ho hb hg hat; rw [← Ny393.out] at ho; have n0_ := zA.mk (blk_grown (g := gb373) (o := .cells #[.slice A0_0 l0_0.length c0_0, .slice (some ad387) l0_1.length c0_1] 35 (0, 0)) (by (with_reducible repeat (first | refine zC ?_ _ | refine zD ?_ | refine zB ?_ _)); exact BK373.out) hg (Kd.R_ne HO_9.out BK373.out (by decide))); have n1_ := zA.mk (blk_grown (g := gb374) (o := .cells #[.int .i64 a3_0, .int .i64 a3_1, .int .u8 a3_2, .int .i64 a3_3, .int .i64 a3_4, .float .f64 a3_5] 58 (0, 0)) (by (with_reducible repeat (first | refine zC ?_ _ | refine zD ?_ | refine zB ?_ _)); exact BK374.out) hg (Kd.R_ne HO_9.out BK374.out (by decide))); have n2_ := zA.mk (hb); have n3_ := zA.mk (ho); clear BK373; clear BK374; clear HB; clear HO_9; have BK373 := n0_; have BK374 := n1_; have HB := n2_; have HO395 := n3_; clear n0_ n1_ n2_ n3_; clear ho hb hg hat))
                          go_roundg k2
                          case measure => have := HK1.out; have := HK2.out; omega
                          case rel => exact ⟨(ji40), (y393), (by first | rfl | (simp; done) | (simp only [← hji40] <;> (first | rfl | simp)) | (simp [*]; done)), H', ⟨by have := HK1.out; have := HK2.out; omega⟩, ⟨by (with_reducible repeat (first | apply Kd.R_alloc | apply Kd.R_drewN | apply Kd.R_drew)); exact HO395.out⟩, ⟨by (with_reducible repeat (first | refine zC ?_ _ | refine zD ?_ | refine zB ?_ _)); exact BK373.out⟩, ⟨by (with_reducible repeat (first | refine zC ?_ _ | refine zD ?_ | refine zB ?_ _)); exact BK374.out⟩, ⟨by repeat (first | (with_reducible first | exact HB.out | apply zI | apply zF | apply zH | refine zE ?_ GE373.out | refine zE ?_ GE374.out) | exact HB.out)⟩⟩
                        · rw [if_neg c45] at H
                          exact absurd H (by simp)
                      · rw [if_neg c43] at H
                        have c43b0 : ((rd l0_1 (ji40)) == 2) = false := beq_eq_false_iff_ne.mpr c43
                        have c43b1 : ((rd l0_1 (ji40)) != 2) = true := bne_iff_ne.mpr c43
                        by_cases c51 : (rd l0_1 (ji40)) = 1
                        · rw [if_pos c51] at H
                          have c51b0 : ((rd l0_1 (ji40)) == 1) = true := beq_iff_eq.mpr c51
                          have c51b1 : ((rd l0_1 (ji40)) != 1) = false := bne_eq_false_iff_eq.mpr c51
                          clear c51; replace H := Option.bind_eq_some_iff.mp H; obtain ⟨⟨t398, t399, t400, t401⟩, A520, H⟩ := H; replace H : (if x9_1.length < 4398046511104 then (stanzaref13_First.l0 k2 ji40 a2 (x9_1 ++ [(⟨t398, t399, t400, t401⟩ : S63)]) l0_0 l0_1 a3_0 a3_1 a3_2 a3_3 a3_4 a3_5) else (none)) = some r := H; have A52 := zA.mk A520; clear A520; by_cases c53 : x9_1.length < 4398046511104
                          · rw [if_pos c53] at H
                            have LMc53 := zA.mk c53; clear c53; obtain ⟨y402, hy402⟩ : ∃ y_ : List (S63), y_ = (x9_1 ++ [(⟨t398, t399, t400, t401⟩ : S63)]) := ⟨_, rfl⟩; replace H : (stanzaref13_First.l0 k2 ji40 a2 y402 l0_0 l0_1 a3_0 a3_1 a3_2 a3_3 a3_4 a3_5) = some r := by first | (rw [hy402]; with_reducible exact H) | (have H2_ := (Option.bind_some _ _).symm.trans H; rw [hy402]; with_reducible exact H2_) | (have H2_ := (Option.bind_some _ _).symm.trans H; with_reducible exact H2_) | with_reducible exact H | (rw [hy402]; exact H) | exact H
                            have Ny402 := zA.mk hy402; clear hy402; have H' := zA.mk H
                            clear H; have hnb54 := NB373_374.out; have hnc54 := NB374_373.out; have hcz55_0 : wr.cell? ⟨gb373, 0, none⟩ = some (.slice A0_0 l0_0.length c0_0) := (zG BK373.out 0).trans rfl
                            have hcz55_1 : wr.cell? ⟨gb373, 1, none⟩ = some (.slice A0_1 l0_1.length c0_1) := (zG BK373.out 1).trans rfl
                            have hfz55_0 := zJ BK373.out 0; have hfz55_1 := zJ BK373.out 1; have p387 : 0 ≤ ((ji40) : Int) := of_decide_eq_true (by first | (with_reducible assumption) | assumption)
                            have q387 : (ji40) < (l0_1.length : Int) := of_decide_eq_true (by first | (with_reducible assumption) | assumption)
                            obtain ⟨ad387, e387, hx387_0⟩ := Kd.at_int HR0_1.out (ji40) p387 q387; cases e387
                            replace hx387_0 := (HB.out.cell (World.block_lt_of_cell? w _ hx387_0)).trans hx387_0; replace p387 := eq_true p387; replace q387 := eq_true q387; have p396 : 0 ≤ ((ji40) : Int) := of_decide_eq_true (by first | (with_reducible assumption) | assumption)
                            have q396 : (ji40) < (l0_1.length : Int) := of_decide_eq_true (by first | (with_reducible assumption) | assumption)
                            obtain ⟨ad396, e396, hx396_0⟩ := Kd.at_int HR0_1.out (ji40) p396 q396; obtain rfl : ad387 = ad396 := (by injection e396)
                            replace hx396_0 := (HB.out.cell (World.block_lt_of_cell? w _ hx396_0)).trans hx396_0; replace p396 := eq_true p396; replace q396 := eq_true q396; have p397 : 0 ≤ ((ji40) : Int) := of_decide_eq_true (by first | (with_reducible assumption) | assumption)
                            have q397 : (ji40) < (l0_1.length : Int) := of_decide_eq_true (by first | (with_reducible assumption) | assumption)
                            obtain ⟨ad397, e397, hx397_0⟩ := Kd.at_int HR0_1.out (ji40) p397 q397; obtain rfl : ad387 = ad397 := (by injection e397)
                            replace hx397_0 := (HB.out.cell (World.block_lt_of_cell? w _ hx397_0)).trans hx397_0; replace p397 := eq_true p397; replace q397 := eq_true q397; have hcz56_0 : wr.cell? ⟨gb374, 0, none⟩ = some (.int .i64 a3_0) := (zG BK374.out 0).trans rfl
                            have hcz56_1 : wr.cell? ⟨gb374, 1, none⟩ = some (.int .i64 a3_1) := (zG BK374.out 1).trans rfl
                            have hcz56_2 : wr.cell? ⟨gb374, 2, none⟩ = some (.int .u8 a3_2) := (zG BK374.out 2).trans rfl
                            have hcz56_3 : wr.cell? ⟨gb374, 3, none⟩ = some (.int .i64 a3_3) := (zG BK374.out 3).trans rfl
                            have hcz56_4 : wr.cell? ⟨gb374, 4, none⟩ = some (.int .i64 a3_4) := (zG BK374.out 4).trans rfl
                            have hcz56_5 : wr.cell? ⟨gb374, 5, none⟩ = some (.float .f64 a3_5) := (zG BK374.out 5).trans rfl
                            have hfz56_0 := zJ BK374.out 0; have hfz56_1 := zJ BK374.out 1; have hfz56_2 := zJ BK374.out 2; have hfz56_3 := zJ BK374.out 3; have hfz56_4 := zJ BK374.out 4; have hfz56_5 := zJ BK374.out 5; go_wp2_with (first | ((with_reducible refine gate_callee (f := 35) rfl ?_); refine goesL_ (some 95) rfl rfl Try.func35 (by kernel_rfl) rfl #[.agg #[.slice A0_0 l0_0.length c0_0, .slice (some ad387) l0_1.length c0_1], .int .i64 x1_1, .int .i64 ji40, .int .u8 (rd l0_1 (ji40)), .int .i64 a3_1] rfl (by (try simp only [List.map_toArray, List.map_cons, List.map_nil]); first | done | (simp only [hji40]; rfl) | rfl | (simp only [List.length_drop, List.length_take]; rfl)) ?_; (with_reducible refine (stanzaref13_Line.calls k2 _ _ l0_0 _ _ l0_1 x1_1 ji40 (rd l0_1 (ji40)) a3_1 t398 t399 t400 t401 _ ?side1 ?side2 ?side3 ?side4 A52.out).mono ?_); (case side1 => repeat (first | exact (Kd.C_below HR0_0.out HB.out) | (with_reducible refine Kd.C_alloc ?_ _) | (with_reducible refine Kd.C_drewN ?_ _) | (with_reducible refine Kd.C_drew ?_))); (case side2 => exact HC0_0.out); (case side3 => repeat (first | exact (Kd.C_below HR0_1.out HB.out) | (with_reducible refine Kd.C_alloc ?_ _) | (with_reducible refine Kd.C_drewN ?_ _) | (with_reducible refine Kd.C_drew ?_))); (case side4 => exact HC0_1.out); rintro e w57 ⟨rfl, hb⟩; refine ⟨_, rfl, ?_⟩; have n0_ := zA.mk (Kd.R_below (by (with_reducible repeat (first | apply Kd.R_alloc | apply Kd.R_drewN | apply Kd.R_drew)); exact HO_9.out) hb); have n1_ := zA.mk (zL (g := gb373) (o := .cells #[.slice A0_0 l0_0.length c0_0, .slice (some ad387) l0_1.length c0_1] 35 (0, 0)) (by (with_reducible repeat (first | refine zC ?_ _ | refine zD ?_ | refine zB ?_ _)); exact BK373.out) hb); have n2_ := zA.mk (zL (g := gb374) (o := .cells #[.int .i64 a3_0, .int .i64 a3_1, .int .u8 a3_2, .int .i64 a3_3, .int .i64 a3_4, .float .f64 a3_5] 58 (0, 0)) (by (with_reducible repeat (first | refine zC ?_ _ | refine zD ?_ | refine zB ?_ _)); exact BK374.out) hb); have n3_ := zA.mk (zO (by repeat (first | (with_reducible first | exact HB.out | apply zI | apply zF | apply zH | refine zE ?_ GE373.out | refine zE ?_ GE374.out) | exact HB.out)) hb); clear HO_9; clear BK373; clear BK374; clear HB; have HO_9 := n0_; have BK373 := n1_; have BK374 := n2_; have HB := n3_; clear n0_ n1_ n2_ n3_; (try clear hb); (try clear hb2); (try clear hk); (try clear hi)) | ((with_reducible refine gate_builtin (b := .append) (xs := #[.tmp 88, .tmp 96]) rfl ?_); at_builtin; refine Kd.R_append k63 (w0 := w) w.heap.size rfl (.tmp 88) (.tmp 96) 68 63 (.agg #[(.int .i64 0), (.int .i64 0), (.int .i64 0), (.int .u8 0)]) 32 rfl Try.underlying68 info63 rfl (by decide) (by omega) u9 x9_1 (⟨t398, t399, t400, t401⟩ : S63) [.int .i64 t398, .int .i64 t399, .int .i64 t400, .int .u8 t401] (fun _ => True) (fun _ => False) rfl rfl ?aP (fun _ hk => hk.elim) ?aF ?aO ?aB ?aS ?aL ?_; (case aP => exact k63_mkM _ _ _ (⟨t398, t399, t400, t401⟩ : S63)); (case aB => exact (by repeat (first | (with_reducible first | exact HB.out | apply zI | apply zF | apply zH | refine zE ?_ GE373.out | refine zE ?_ GE374.out) | exact HB.out))); (case aF => exact (fun _ _ => trivial)); (case aO => exact (by (with_reducible repeat (first | apply Kd.R_alloc | apply Kd.R_drewN | apply Kd.R_drew)); exact HO_9.out)); (case aS => exact (zK (by repeat (first | (with_reducible first | exact HB.out | apply zI | apply zF | apply zH | refine zE ?_ GE373.out | refine zE ?_ GE374.out) | exact HB.out)))); (case aL => have := LMc53.out; omega); intro v403 w58 ho hb hg hat; rw [← Ny402.out] at ho; have n0_ := zA.mk (blk_grown (g := gb373) (o := .cells #[.slice A0_0 l0_0.length c0_0, .slice (some ad387) l0_1.length c0_1] 35 (0, 0)) (by (with_reducible repeat (first | refine zC ?_ _ | refine zD ?_ | refine zB ?_ _)); exact BK373.out) hg (Kd.R_ne HO_9.out BK373.out (by decide))); have n1_ := zA.mk (blk_grown (g := gb374) (o := .cells #[.int .i64 a3_0, .int .i64 a3_1, .int .u8 a3_2, .int .i64 a3_3, .int .i64 a3_4, .float .f64 a3_5] 58 (0, 0)) (by (with_reducible repeat (first | refine zC ?_ _ | refine zD ?_ | refine zB ?_ _)); exact BK374.out) hg (Kd.R_ne HO_9.out BK374.out (by decide))); have n2_ := zA.mk (hb); have n3_ := zA.mk (ho); clear BK373; clear BK374; clear HB; clear HO_9; have BK373 := n0_; have BK374 := n1_; have HB := n2_; have HO404 := n3_; clear n0_ n1_ n2_ n3_; clear ho hb hg hat))
                            go_roundg k2
                            case measure => have := HK1.out; have := HK2.out; omega
                            case rel => exact ⟨(ji40), (y402), (by first | rfl | (simp; done) | (simp only [← hji40] <;> (first | rfl | simp)) | (simp [*]; done)), H', ⟨by have := HK1.out; have := HK2.out; omega⟩, ⟨by (with_reducible repeat (first | apply Kd.R_alloc | apply Kd.R_drewN | apply Kd.R_drew)); exact HO404.out⟩, ⟨by (with_reducible repeat (first | refine zC ?_ _ | refine zD ?_ | refine zB ?_ _)); exact BK373.out⟩, ⟨by (with_reducible repeat (first | refine zC ?_ _ | refine zD ?_ | refine zB ?_ _)); exact BK374.out⟩, ⟨by repeat (first | (with_reducible first | exact HB.out | apply zI | apply zF | apply zH | refine zE ?_ GE373.out | refine zE ?_ GE374.out) | exact HB.out)⟩⟩
                          · rw [if_neg c53] at H
                            exact absurd H (by simp)
                        · rw [if_neg c51] at H
                          have c51b0 : ((rd l0_1 (ji40)) == 1) = false := beq_eq_false_iff_ne.mpr c51
                          have c51b1 : ((rd l0_1 (ji40)) != 1) = true := bne_iff_ne.mpr c51
                          replace H := Option.bind_eq_some_iff.mp H; obtain ⟨⟨t405, t406, t407, t408⟩, A590, H⟩ := H; replace H : (if x9_1.length < 4398046511104 then (stanzaref13_First.l0 k2 ji40 a2 (x9_1 ++ [(⟨t405, t406, t407, t408⟩ : S63)]) l0_0 l0_1 a3_0 a3_1 a3_2 a3_3 a3_4 a3_5) else (none)) = some r := H; have A59 := zA.mk A590; clear A590; by_cases c60 : x9_1.length < 4398046511104
                          · rw [if_pos c60] at H
                            have LMc60 := zA.mk c60; clear c60; obtain ⟨y409, hy409⟩ : ∃ y_ : List (S63), y_ = (x9_1 ++ [(⟨t405, t406, t407, t408⟩ : S63)]) := ⟨_, rfl⟩; replace H : (stanzaref13_First.l0 k2 ji40 a2 y409 l0_0 l0_1 a3_0 a3_1 a3_2 a3_3 a3_4 a3_5) = some r := by first | (rw [hy409]; with_reducible exact H) | (have H2_ := (Option.bind_some _ _).symm.trans H; rw [hy409]; with_reducible exact H2_) | (have H2_ := (Option.bind_some _ _).symm.trans H; with_reducible exact H2_) | with_reducible exact H | (rw [hy409]; exact H) | exact H
                            have Ny409 := zA.mk hy409; clear hy409; have H' := zA.mk H
                            clear H; have hnb61 := NB373_374.out; have hnc61 := NB374_373.out; have hcz62_0 : wr.cell? ⟨gb373, 0, none⟩ = some (.slice A0_0 l0_0.length c0_0) := (zG BK373.out 0).trans rfl
                            have hcz62_1 : wr.cell? ⟨gb373, 1, none⟩ = some (.slice A0_1 l0_1.length c0_1) := (zG BK373.out 1).trans rfl
                            have hfz62_0 := zJ BK373.out 0; have hfz62_1 := zJ BK373.out 1; have p387 : 0 ≤ ((ji40) : Int) := of_decide_eq_true (by first | (with_reducible assumption) | assumption)
                            have q387 : (ji40) < (l0_1.length : Int) := of_decide_eq_true (by first | (with_reducible assumption) | assumption)
                            obtain ⟨ad387, e387, hx387_0⟩ := Kd.at_int HR0_1.out (ji40) p387 q387; cases e387
                            replace hx387_0 := (HB.out.cell (World.block_lt_of_cell? w _ hx387_0)).trans hx387_0; replace p387 := eq_true p387; replace q387 := eq_true q387; have p396 : 0 ≤ ((ji40) : Int) := of_decide_eq_true (by first | (with_reducible assumption) | assumption)
                            have q396 : (ji40) < (l0_1.length : Int) := of_decide_eq_true (by first | (with_reducible assumption) | assumption)
                            obtain ⟨ad396, e396, hx396_0⟩ := Kd.at_int HR0_1.out (ji40) p396 q396; obtain rfl : ad387 = ad396 := (by injection e396)
                            replace hx396_0 := (HB.out.cell (World.block_lt_of_cell? w _ hx396_0)).trans hx396_0; replace p396 := eq_true p396; replace q396 := eq_true q396; have hcz63_0 : wr.cell? ⟨gb374, 0, none⟩ = some (.int .i64 a3_0) := (zG BK374.out 0).trans rfl
                            have hcz63_1 : wr.cell? ⟨gb374, 1, none⟩ = some (.int .i64 a3_1) := (zG BK374.out 1).trans rfl
                            have hcz63_2 : wr.cell? ⟨gb374, 2, none⟩ = some (.int .u8 a3_2) := (zG BK374.out 2).trans rfl
                            have hcz63_3 : wr.cell? ⟨gb374, 3, none⟩ = some (.int .i64 a3_3) := (zG BK374.out 3).trans rfl
                            have hcz63_4 : wr.cell? ⟨gb374, 4, none⟩ = some (.int .i64 a3_4) := (zG BK374.out 4).trans rfl
                            have hcz63_5 : wr.cell? ⟨gb374, 5, none⟩ = some (.float .f64 a3_5) := (zG BK374.out 5).trans rfl
                            have hfz63_0 := zJ BK374.out 0; have hfz63_1 := zJ BK374.out 1; have hfz63_2 := zJ BK374.out 2; have hfz63_3 := zJ BK374.out 3; have hfz63_4 := zJ BK374.out 4; have hfz63_5 := zJ BK374.out 5; go_wp2_with (first | ((with_reducible refine gate_callee (f := 35) rfl ?_); refine goesL_ (some 95) rfl rfl Try.func35 (by kernel_rfl) rfl #[.agg #[.slice A0_0 l0_0.length c0_0, .slice (some ad387) l0_1.length c0_1], .int .i64 x1_1, .int .i64 ji40, .int .u8 4, .int .i64 a3_1] rfl (by (try simp only [List.map_toArray, List.map_cons, List.map_nil]); first | done | (simp only [hji40]; rfl) | rfl | (simp only [List.length_drop, List.length_take]; rfl)) ?_; (with_reducible refine (stanzaref13_Line.calls k2 _ _ l0_0 _ _ l0_1 x1_1 ji40 4 a3_1 t405 t406 t407 t408 _ ?side1 ?side2 ?side3 ?side4 A59.out).mono ?_); (case side1 => repeat (first | exact (Kd.C_below HR0_0.out HB.out) | (with_reducible refine Kd.C_alloc ?_ _) | (with_reducible refine Kd.C_drewN ?_ _) | (with_reducible refine Kd.C_drew ?_))); (case side2 => exact HC0_0.out); (case side3 => repeat (first | exact (Kd.C_below HR0_1.out HB.out) | (with_reducible refine Kd.C_alloc ?_ _) | (with_reducible refine Kd.C_drewN ?_ _) | (with_reducible refine Kd.C_drew ?_))); (case side4 => exact HC0_1.out); rintro e w64 ⟨rfl, hb⟩; refine ⟨_, rfl, ?_⟩; have n0_ := zA.mk (Kd.R_below (by (with_reducible repeat (first | apply Kd.R_alloc | apply Kd.R_drewN | apply Kd.R_drew)); exact HO_9.out) hb); have n1_ := zA.mk (zL (g := gb373) (o := .cells #[.slice A0_0 l0_0.length c0_0, .slice (some ad387) l0_1.length c0_1] 35 (0, 0)) (by (with_reducible repeat (first | refine zC ?_ _ | refine zD ?_ | refine zB ?_ _)); exact BK373.out) hb); have n2_ := zA.mk (zL (g := gb374) (o := .cells #[.int .i64 a3_0, .int .i64 a3_1, .int .u8 a3_2, .int .i64 a3_3, .int .i64 a3_4, .float .f64 a3_5] 58 (0, 0)) (by (with_reducible repeat (first | refine zC ?_ _ | refine zD ?_ | refine zB ?_ _)); exact BK374.out) hb); have n3_ := zA.mk (zO (by repeat (first | (with_reducible first | exact HB.out | apply zI | apply zF | apply zH | refine zE ?_ GE373.out | refine zE ?_ GE374.out) | exact HB.out)) hb); clear HO_9; clear BK373; clear BK374; clear HB; have HO_9 := n0_; have BK373 := n1_; have BK374 := n2_; have HB := n3_; clear n0_ n1_ n2_ n3_; (try clear hb); (try clear hb2); (try clear hk); (try clear hi)) | ((with_reducible refine gate_builtin (b := .append) (xs := #[.tmp 88, .tmp 96]) rfl ?_); at_builtin; refine Kd.R_append k63 (w0 := w) w.heap.size rfl (.tmp 88) (.tmp 96) 68 63 (.agg #[(.int .i64 0), (.int .i64 0), (.int .i64 0), (.int .u8 0)]) 32 rfl Try.underlying68 info63 rfl (by decide) (by omega) u9 x9_1 (⟨t405, t406, t407, t408⟩ : S63) [.int .i64 t405, .int .i64 t406, .int .i64 t407, .int .u8 t408] (fun _ => True) (fun _ => False) rfl rfl ?aP (fun _ hk => hk.elim) ?aF ?aO ?aB ?aS ?aL ?_; (case aP => exact k63_mkM _ _ _ (⟨t405, t406, t407, t408⟩ : S63)); (case aB => exact (by repeat (first | (with_reducible first | exact HB.out | apply zI | apply zF | apply zH | refine zE ?_ GE373.out | refine zE ?_ GE374.out) | exact HB.out))); (case aF => exact (fun _ _ => trivial)); (case aO => exact (by (with_reducible repeat (first | apply Kd.R_alloc | apply Kd.R_drewN | apply Kd.R_drew)); exact HO_9.out)); (case aS => exact (zK (by repeat (first | (with_reducible first | exact HB.out | apply zI | apply zF | apply zH | refine zE ?_ GE373.out | refine zE ?_ GE374.out) | exact HB.out)))); (case aL => have := LMc60.out; omega); intro v410 w65 ho hb hg hat; rw [← Ny409.out] at ho; have n0_ := zA.mk (blk_grown (g := gb373) (o := .cells #[.slice A0_0 l0_0.length c0_0, .slice (some ad387) l0_1.length c0_1] 35 (0, 0)) (by (with_reducible repeat (first | refine zC ?_ _ | refine zD ?_ | refine zB ?_ _)); exact BK373.out) hg (Kd.R_ne HO_9.out BK373.out (by decide))); have n1_ := zA.mk (blk_grown (g := gb374) (o := .cells #[.int .i64 a3_0, .int .i64 a3_1, .int .u8 a3_2, .int .i64 a3_3, .int .i64 a3_4, .float .f64 a3_5] 58 (0, 0)) (by (with_reducible repeat (first | refine zC ?_ _ | refine zD ?_ | refine zB ?_ _)); exact BK374.out) hg (Kd.R_ne HO_9.out BK374.out (by decide))); have n2_ := zA.mk (hb); have n3_ := zA.mk (ho); clear BK373; clear BK374; clear HB; clear HO_9; have BK373 := n0_; have BK374 := n1_; have HB := n2_; have HO411 := n3_; clear n0_ n1_ n2_ n3_; clear ho hb hg hat))
                            go_roundg k2
                            case measure => have := HK1.out; have := HK2.out; omega
                            case rel => exact ⟨(ji40), (y409), (by first | rfl | (simp; done) | (simp only [← hji40] <;> (first | rfl | simp)) | (simp [*]; done)), H', ⟨by have := HK1.out; have := HK2.out; omega⟩, ⟨by (with_reducible repeat (first | apply Kd.R_alloc | apply Kd.R_drewN | apply Kd.R_drew)); exact HO411.out⟩, ⟨by (with_reducible repeat (first | refine zC ?_ _ | refine zD ?_ | refine zB ?_ _)); exact BK373.out⟩, ⟨by (with_reducible repeat (first | refine zC ?_ _ | refine zD ?_ | refine zB ?_ _)); exact BK374.out⟩, ⟨by repeat (first | (with_reducible first | exact HB.out | apply zI | apply zF | apply zH | refine zE ?_ GE373.out | refine zE ?_ GE374.out) | exact HB.out)⟩⟩
                          · rw [if_neg c60] at H
                            exact absurd H (by simp)
                    · rw [if_neg c42] at H
                      exact absurd H (by simp)
                  · rw [if_neg c41] at H
                    exact absurd H (by simp)
                · rw [if_neg c39] at H
                  have c39b0 : decide (x11_2 < 0) = false := decide_eq_false c39
                  clear c39; by_cases c66 : 0 ≤ x11_2
                  · rw [if_pos c66] at H
                    have c66b0 : decide (0 ≤ x11_2) = true := decide_eq_true c66
                    clear c66; by_cases c67 : x11_2 < (l0_1.length : Int)
                    · rw [if_pos c67] at H
                      have c67b0 : decide (x11_2 < (l0_1.length : Int)) = true := decide_eq_true c67
                      clear c67; by_cases c68 : (rd l0_1 x11_2) = 2
                      · rw [if_pos c68] at H
                        have c68b0 : ((rd l0_1 x11_2) == 2) = true := beq_iff_eq.mpr c68
                        have c68b1 : ((rd l0_1 x11_2) != 2) = false := bne_eq_false_iff_eq.mpr c68
                        clear c68; replace H := Option.bind_eq_some_iff.mp H; obtain ⟨⟨t414, t415, t416, t417⟩, A690, H⟩ := H; replace H : (if x9_1.length < 4398046511104 then (stanzaref13_First.l0 k2 x11_2 a2 (x9_1 ++ [(⟨t414, t415, t416, t417⟩ : S63)]) l0_0 l0_1 a3_0 a3_1 a3_2 a3_3 a3_4 a3_5) else (none)) = some r := H; have A69 := zA.mk A690; clear A690; by_cases c70 : x9_1.length < 4398046511104
                        · rw [if_pos c70] at H
                          have LMc70 := zA.mk c70; clear c70; obtain ⟨y418, hy418⟩ : ∃ y_ : List (S63), y_ = (x9_1 ++ [(⟨t414, t415, t416, t417⟩ : S63)]) := ⟨_, rfl⟩; replace H : (stanzaref13_First.l0 k2 x11_2 a2 y418 l0_0 l0_1 a3_0 a3_1 a3_2 a3_3 a3_4 a3_5) = some r := by first | (rw [hy418]; with_reducible exact H) | (have H2_ := (Option.bind_some _ _).symm.trans H; rw [hy418]; with_reducible exact H2_) | (have H2_ := (Option.bind_some _ _).symm.trans H; with_reducible exact H2_) | with_reducible exact H | (rw [hy418]; exact H) | exact H
                          have Ny418 := zA.mk hy418; clear hy418; have H' := zA.mk H
                          clear H; have hnb71 := NB373_374.out; have hnc71 := NB374_373.out; have hcz72_0 : wr.cell? ⟨gb373, 0, none⟩ = some (.slice A0_0 l0_0.length c0_0) := (zG BK373.out 0).trans rfl
                          have hcz72_1 : wr.cell? ⟨gb373, 1, none⟩ = some (.slice A0_1 l0_1.length c0_1) := (zG BK373.out 1).trans rfl
                          have hfz72_0 := zJ BK373.out 0; have hfz72_1 := zJ BK373.out 1; have p412 : 0 ≤ (x11_2 : Int) := of_decide_eq_true (by first | (with_reducible assumption) | assumption)
                          have q412 : x11_2 < (l0_1.length : Int) := of_decide_eq_true (by first | (with_reducible assumption) | assumption)
                          obtain ⟨ad412, e412, hx412_0⟩ := Kd.at_int HR0_1.out x11_2 p412 q412; cases e412
                          replace hx412_0 := (HB.out.cell (World.block_lt_of_cell? w _ hx412_0)).trans hx412_0; replace p412 := eq_true p412; replace q412 := eq_true q412; have p413 : 0 ≤ (x11_2 : Int) := of_decide_eq_true (by first | (with_reducible assumption) | assumption)
                          have q413 : x11_2 < (l0_1.length : Int) := of_decide_eq_true (by first | (with_reducible assumption) | assumption)
                          obtain ⟨ad413, e413, hx413_0⟩ := Kd.at_int HR0_1.out x11_2 p413 q413; obtain rfl : ad412 = ad413 := (by injection e413)
                          replace hx413_0 := (HB.out.cell (World.block_lt_of_cell? w _ hx413_0)).trans hx413_0; replace p413 := eq_true p413; replace q413 := eq_true q413; have hcz73_0 : wr.cell? ⟨gb374, 0, none⟩ = some (.int .i64 a3_0) := (zG BK374.out 0).trans rfl
                          have hcz73_1 : wr.cell? ⟨gb374, 1, none⟩ = some (.int .i64 a3_1) := (zG BK374.out 1).trans rfl
                          have hcz73_2 : wr.cell? ⟨gb374, 2, none⟩ = some (.int .u8 a3_2) := (zG BK374.out 2).trans rfl
                          have hcz73_3 : wr.cell? ⟨gb374, 3, none⟩ = some (.int .i64 a3_3) := (zG BK374.out 3).trans rfl
                          have hcz73_4 : wr.cell? ⟨gb374, 4, none⟩ = some (.int .i64 a3_4) := (zG BK374.out 4).trans rfl
                          have hcz73_5 : wr.cell? ⟨gb374, 5, none⟩ = some (.float .f64 a3_5) := (zG BK374.out 5).trans rfl
                          have hfz73_0 := zJ BK374.out 0; have hfz73_1 := zJ BK374.out 1; have hfz73_2 := zJ BK374.out 2; have hfz73_3 := zJ BK374.out 3; have hfz73_4 := zJ BK374.out 4; have hfz73_5 := zJ BK374.out 5; go_wp2_with (first | ((with_reducible refine gate_callee (f := 35) rfl ?_); refine goesL_ (some 95) rfl rfl Try.func35 (by kernel_rfl) rfl #[.agg #[.slice A0_0 l0_0.length c0_0, .slice (some ad412) l0_1.length c0_1], .int .i64 x1_1, .int .i64 x11_2, .int .u8 (rd l0_1 x11_2), .int .i64 a3_1] rfl (by (try simp only [List.map_toArray, List.map_cons, List.map_nil]); first | done | rfl | (simp only [List.length_drop, List.length_take]; rfl)) ?_; (with_reducible refine (stanzaref13_Line.calls k2 _ _ l0_0 _ _ l0_1 x1_1 x11_2 (rd l0_1 x11_2) a3_1 t414 t415 t416 t417 _ ?side1 ?side2 ?side3 ?side4 A69.out).mono ?_); (case side1 => repeat (first | exact (Kd.C_below HR0_0.out HB.out) | (with_reducible refine Kd.C_alloc ?_ _) | (with_reducible refine Kd.C_drewN ?_ _) | (with_reducible refine Kd.C_drew ?_))); (case side2 => exact HC0_0.out); (case side3 => repeat (first | exact (Kd.C_below HR0_1.out HB.out) | (with_reducible refine Kd.C_alloc ?_ _) | (with_reducible refine Kd.C_drewN ?_ _) | (with_reducible refine Kd.C_drew ?_))); (case side4 => exact HC0_1.out); rintro e w74 ⟨rfl, hb⟩; refine ⟨_, rfl, ?_⟩; have n0_ := zA.mk (Kd.R_below (by (with_reducible repeat (first | apply Kd.R_alloc | apply Kd.R_drewN | apply Kd.R_drew)); exact HO_9.out) hb); have n1_ := zA.mk (zL (g := gb373) (o := .cells #[.slice A0_0 l0_0.length c0_0, .slice (some ad412) l0_1.length c0_1] 35 (0, 0)) (by (with_reducible repeat (first | refine zC ?_ _ | refine zD ?_ | refine zB ?_ _)); exact BK373.out) hb); have n2_ := zA.mk (zL (g := gb374) (o := .cells #[.int .i64 a3_0, .int .i64 a3_1, .int .u8 a3_2, .int .i64 a3_3, .int .i64 a3_4, .float .f64 a3_5] 58 (0, 0)) (by (with_reducible repeat (first | refine zC ?_ _ | refine zD ?_ | refine zB ?_ _)); exact BK374.out) hb); have n3_ := zA.mk (zO (by repeat (first | (with_reducible first | exact HB.out | apply zI | apply zF | apply zH | refine zE ?_ GE373.out | refine zE ?_ GE374.out) | exact HB.out)) hb); clear HO_9; clear BK373; clear BK374; clear HB; have HO_9 := n0_; have BK373 := n1_; have BK374 := n2_; have HB := n3_; clear n0_ n1_ n2_ n3_; (try clear hb); (try clear hb2); (try clear hk); (try clear hi)) | ((with_reducible refine gate_builtin (b := .append) (xs := #[.tmp 88, .tmp 96]) rfl ?_); at_builtin; refine Kd.R_append k63 (w0 := w) w.heap.size rfl (.tmp 88) (.tmp 96) 68 63 (.agg #[(.int .i64 0), (.int .i64 0), (.int .i64 0), (.int .u8 0)]) 32 rfl Try.underlying68 info63 rfl (by decide) (by omega) u9 x9_1 (⟨t414, t415, t416, t417⟩ : S63) [.int .i64 t414, .int .i64 t415, .int .i64 t416, .int .u8 t417] (fun _ => True) (fun _ => False) rfl rfl ?aP (fun _ hk => hk.elim) ?aF ?aO ?aB ?aS ?aL ?_; (case aP => exact k63_mkM _ _ _ (⟨t414, t415, t416, t417⟩ : S63)); (case aB => exact (by repeat (first | (with_reducible first | exact HB.out | apply zI | apply zF | apply zH | refine zE ?_ GE373.out | refine zE ?_ GE374.out) | exact HB.out))); (case aF => exact (fun _ _ => trivial)); (case aO => exact (by (with_reducible repeat (first | apply Kd.R_alloc | apply Kd.R_drewN | apply Kd.R_drew)); exact HO_9.out)); (case aS => exact (zK (by repeat (first | (with_reducible first | exact HB.out | apply zI | apply zF | apply zH | refine zE ?_ GE373.out | refine zE ?_ GE374.out) | exact HB.out)))); (case aL => have := LMc70.out; omega); intro v419 w75 ho hb hg hat; rw [← Ny418.out] at ho; have n0_ := zA.mk (blk_grown (g := gb373) (o := .cells #[.slice A0_0 l0_0.length c0_0, .slice (some ad412) l0_1.length c0_1] 35 (0, 0)) (by (with_reducible repeat (first | refine zC ?_ _ | refine zD ?_ | refine zB ?_ _)); exact BK373.out) hg (Kd.R_ne HO_9.out BK373.out (by decide))); have n1_ := zA.mk (blk_grown (g := gb374) (o := .cells #[.int .i64 a3_0, .int .i64 a3_1, .int .u8 a3_2, .int .i64 a3_3, .int .i64 a3_4, .float .f64 a3_5] 58 (0, 0)) (by (with_reducible repeat (first | refine zC ?_ _ | refine zD ?_ | refine zB ?_ _)); exact BK374.out) hg (Kd.R_ne HO_9.out BK374.out (by decide))); have n2_ := zA.mk (hb); have n3_ := zA.mk (ho); clear BK373; clear BK374; clear HB; clear HO_9; have BK373 := n0_; have BK374 := n1_; have HB := n2_; have HO420 := n3_; clear n0_ n1_ n2_ n3_; clear ho hb hg hat))
                          go_roundg k2
                          case measure => have := HK1.out; have := HK2.out; omega
                          case rel => exact ⟨(x11_2), (y418), (by first | rfl | (simp; done) | (simp [*]; done)), H', ⟨by have := HK1.out; have := HK2.out; omega⟩, ⟨by (with_reducible repeat (first | apply Kd.R_alloc | apply Kd.R_drewN | apply Kd.R_drew)); exact HO420.out⟩, ⟨by (with_reducible repeat (first | refine zC ?_ _ | refine zD ?_ | refine zB ?_ _)); exact BK373.out⟩, ⟨by (with_reducible repeat (first | refine zC ?_ _ | refine zD ?_ | refine zB ?_ _)); exact BK374.out⟩, ⟨by repeat (first | (with_reducible first | exact HB.out | apply zI | apply zF | apply zH | refine zE ?_ GE373.out | refine zE ?_ GE374.out) | exact HB.out)⟩⟩
                        · rw [if_neg c70] at H
                          exact absurd H (by simp)
                      · rw [if_neg c68] at H
                        have c68b0 : ((rd l0_1 x11_2) == 2) = false := beq_eq_false_iff_ne.mpr c68
                        have c68b1 : ((rd l0_1 x11_2) != 2) = true := bne_iff_ne.mpr c68
                        by_cases c76 : (rd l0_1 x11_2) = 1
                        · rw [if_pos c76] at H
                          have c76b0 : ((rd l0_1 x11_2) == 1) = true := beq_iff_eq.mpr c76
                          have c76b1 : ((rd l0_1 x11_2) != 1) = false := bne_eq_false_iff_eq.mpr c76
                          clear c76; replace H := Option.bind_eq_some_iff.mp H; obtain ⟨⟨t423, t424, t425, t426⟩, A770, H⟩ := H; replace H : (if x9_1.length < 4398046511104 then (stanzaref13_First.l0 k2 x11_2 a2 (x9_1 ++ [(⟨t423, t424, t425, t426⟩ : S63)]) l0_0 l0_1 a3_0 a3_1 a3_2 a3_3 a3_4 a3_5) else (none)) = some r := H; have A77 := zA.mk A770; clear A770; by_cases c78 : x9_1.length < 4398046511104
                          · rw [if_pos c78] at H
                            have LMc78 := zA.mk c78; clear c78; obtain ⟨y427, hy427⟩ : ∃ y_ : List (S63), y_ = (x9_1 ++ [(⟨t423, t424, t425, t426⟩ : S63)]) := ⟨_, rfl⟩; replace H : (stanzaref13_First.l0 k2 x11_2 a2 y427 l0_0 l0_1 a3_0 a3_1 a3_2 a3_3 a3_4 a3_5) = some r := by first | (rw [hy427]; with_reducible exact H) | (have H2_ := (Option.bind_some _ _).symm.trans H; rw [hy427]; with_reducible exact H2_) | (have H2_ := (Option.bind_some _ _).symm.trans H; with_reducible exact H2_) | with_reducible exact H | (rw [hy427]; exact H) | exact H
                            have Ny427 := zA.mk hy427; clear hy427; have H' := zA.mk H
                            clear H; have hnb79 := NB373_374.out; have hnc79 := NB374_373.out; have hcz80_0 : wr.cell? ⟨gb373, 0, none⟩ = some (.slice A0_0 l0_0.length c0_0) := (zG BK373.out 0).trans rfl
                            have hcz80_1 : wr.cell? ⟨gb373, 1, none⟩ = some (.slice A0_1 l0_1.length c0_1) := (zG BK373.out 1).trans rfl
                            have hfz80_0 := zJ BK373.out 0; have hfz80_1 := zJ BK373.out 1; have p412 : 0 ≤ (x11_2 : Int) := of_decide_eq_true (by first | (with_reducible assumption) | assumption)
                            have q412 : x11_2 < (l0_1.length : Int) := of_decide_eq_true (by first | (with_reducible assumption) | assumption)
                            obtain ⟨ad412, e412, hx412_0⟩ := Kd.at_int HR0_1.out x11_2 p412 q412; cases e412
                            replace hx412_0 := (HB.out.cell (World.block_lt_of_cell? w _ hx412_0)).trans hx412_0; replace p412 := eq_true p412; replace q412 := eq_true q412; have p421 : 0 ≤ (x11_2 : Int) := of_decide_eq_true (by first | (with_reducible assumption) | assumption)
                            have q421 : x11_2 < (l0_1.length : Int) := of_decide_eq_true (by first | (with_reducible assumption) | assumption)
                            obtain ⟨ad421, e421, hx421_0⟩ := Kd.at_int HR0_1.out x11_2 p421 q421; obtain rfl : ad412 = ad421 := (by injection e421)
                            replace hx421_0 := (HB.out.cell (World.block_lt_of_cell? w _ hx421_0)).trans hx421_0; replace p421 := eq_true p421; replace q421 := eq_true q421; have p422 : 0 ≤ (x11_2 : Int) := of_decide_eq_true (by first | (with_reducible assumption) | assumption)
                            have q422 : x11_2 < (l0_1.length : Int) := of_decide_eq_true (by first | (with_reducible assumption) | assumption)
                            obtain ⟨ad422, e422, hx422_0⟩ := Kd.at_int HR0_1.out x11_2 p422 q422; obtain rfl : ad412 = ad422 := (by injection e422)
                            replace hx422_0 := (HB.out.cell (World.block_lt_of_cell? w _ hx422_0)).trans hx422_0; replace p422 := eq_true p422; replace q422 := eq_true q422; have hcz81_0 : wr.cell? ⟨gb374, 0, none⟩ = some (.int .i64 a3_0) := (zG BK374.out 0).trans rfl
                            have hcz81_1 : wr.cell? ⟨gb374, 1, none⟩ = some (.int .i64 a3_1) := (zG BK374.out 1).trans rfl
                            have hcz81_2 : wr.cell? ⟨gb374, 2, none⟩ = some (.int .u8 a3_2) := (zG BK374.out 2).trans rfl
                            have hcz81_3 : wr.cell? ⟨gb374, 3, none⟩ = some (.int .i64 a3_3) := (zG BK374.out 3).trans rfl
                            have hcz81_4 : wr.cell? ⟨gb374, 4, none⟩ = some (.int .i64 a3_4) := (zG BK374.out 4).trans rfl
                            have hcz81_5 : wr.cell? ⟨gb374, 5, none⟩ = some (.float .f64 a3_5) := (zG BK374.out 5).trans rfl
                            have hfz81_0 := zJ BK374.out 0; have hfz81_1 := zJ BK374.out 1; have hfz81_2 := zJ BK374.out 2; have hfz81_3 := zJ BK374.out 3; have hfz81_4 := zJ BK374.out 4; have hfz81_5 := zJ BK374.out 5; go_wp2_with (first | ((with_reducible refine gate_callee (f := 35) rfl ?_); refine goesL_ (some 95) rfl rfl Try.func35 (by kernel_rfl) rfl #[.agg #[.slice A0_0 l0_0.length c0_0, .slice (some ad412) l0_1.length c0_1], .int .i64 x1_1, .int .i64 x11_2, .int .u8 (rd l0_1 x11_2), .int .i64 a3_1] rfl (by (try simp only [List.map_toArray, List.map_cons, List.map_nil]); first | done | rfl | (simp only [List.length_drop, List.length_take]; rfl)) ?_; (with_reducible refine (stanzaref13_Line.calls k2 _ _ l0_0 _ _ l0_1 x1_1 x11_2 (rd l0_1 x11_2) a3_1 t423 t424 t425 t426 _ ?side1 ?side2 ?side3 ?side4 A77.out).mono ?_); (case side1 => repeat (first | exact (Kd.C_below HR0_0.out HB.out) | (with_reducible refine Kd.C_alloc ?_ _) | (with_reducible refine Kd.C_drewN ?_ _) | (with_reducible refine Kd.C_drew ?_))); (case side2 => exact HC0_0.out); (case side3 => repeat (first | exact (Kd.C_below HR0_1.out HB.out) | (with_reducible refine Kd.C_alloc ?_ _) | (with_reducible refine Kd.C_drewN ?_ _) | (with_reducible refine Kd.C_drew ?_))); (case side4 => exact HC0_1.out); rintro e w82 ⟨rfl, hb⟩; refine ⟨_, rfl, ?_⟩; have n0_ := zA.mk (Kd.R_below (by (with_reducible repeat (first | apply Kd.R_alloc | apply Kd.R_drewN | apply Kd.R_drew)); exact HO_9.out) hb); have n1_ := zA.mk (zL (g := gb373) (o := .cells #[.slice A0_0 l0_0.length c0_0, .slice (some ad412) l0_1.length c0_1] 35 (0, 0)) (by (with_reducible repeat (first | refine zC ?_ _ | refine zD ?_ | refine zB ?_ _)); exact BK373.out) hb); have n2_ := zA.mk (zL (g := gb374) (o := .cells #[.int .i64 a3_0, .int .i64 a3_1, .int .u8 a3_2, .int .i64 a3_3, .int .i64 a3_4, .float .f64 a3_5] 58 (0, 0)) (by (with_reducible repeat (first | refine zC ?_ _ | refine zD ?_ | refine zB ?_ _)); exact BK374.out) hb); have n3_ := zA.mk (zO (by repeat (first | (with_reducible first | exact HB.out | apply zI | apply zF | apply zH | refine zE ?_ GE373.out | refine zE ?_ GE374.out) | exact HB.out)) hb); clear HO_9; clear BK373; clear BK374; clear HB; have HO_9 := n0_; have BK373 := n1_; have BK374 := n2_; have HB := n3_; clear n0_ n1_ n2_ n3_; (try clear hb); (try clear hb2); (try clear hk); (try clear hi)) | ((with_reducible refine gate_builtin (b := .append) (xs := #[.tmp 88, .tmp 96]) rfl ?_); at_builtin; refine Kd.R_append k63 (w0 := w) w.heap.size rfl (.tmp 88) (.tmp 96) 68 63 (.agg #[(.int .i64 0), (.int .i64 0), (.int .i64 0), (.int .u8 0)]) 32 rfl Try.underlying68 info63 rfl (by decide) (by omega) u9 x9_1 (⟨t423, t424, t425, t426⟩ : S63) [.int .i64 t423, .int .i64 t424, .int .i64 t425, .int .u8 t426] (fun _ => True) (fun _ => False) rfl rfl ?aP (fun _ hk => hk.elim) ?aF ?aO ?aB ?aS ?aL ?_; (case aP => exact k63_mkM _ _ _ (⟨t423, t424, t425, t426⟩ : S63)); (case aB => exact (by repeat (first | (with_reducible first | exact HB.out | apply zI | apply zF | apply zH | refine zE ?_ GE373.out | refine zE ?_ GE374.out) | exact HB.out))); (case aF => exact (fun _ _ => trivial)); (case aO => exact (by (with_reducible repeat (first | apply Kd.R_alloc | apply Kd.R_drewN | apply Kd.R_drew)); exact HO_9.out)); (case aS => exact (zK (by repeat (first | (with_reducible first | exact HB.out | apply zI | apply zF | apply zH | refine zE ?_ GE373.out | refine zE ?_ GE374.out) | exact HB.out)))); (case aL => have := LMc78.out; omega); intro v428 w83 ho hb hg hat; rw [← Ny427.out] at ho; have n0_ := zA.mk (blk_grown (g := gb373) (o := .cells #[.slice A0_0 l0_0.length c0_0, .slice (some ad412) l0_1.length c0_1] 35 (0, 0)) (by (with_reducible repeat (first | refine zC ?_ _ | refine zD ?_ | refine zB ?_ _)); exact BK373.out) hg (Kd.R_ne HO_9.out BK373.out (by decide))); have n1_ := zA.mk (blk_grown (g := gb374) (o := .cells #[.int .i64 a3_0, .int .i64 a3_1, .int .u8 a3_2, .int .i64 a3_3, .int .i64 a3_4, .float .f64 a3_5] 58 (0, 0)) (by (with_reducible repeat (first | refine zC ?_ _ | refine zD ?_ | refine zB ?_ _)); exact BK374.out) hg (Kd.R_ne HO_9.out BK374.out (by decide))); have n2_ := zA.mk (hb); have n3_ := zA.mk (ho); clear BK373; clear BK374; clear HB; clear HO_9; have BK373 := n0_; have BK374 := n1_; have HB := n2_; have HO429 := n3_; clear n0_ n1_ n2_ n3_; clear ho hb hg hat))
                            go_roundg k2
                            case measure => have := HK1.out; have := HK2.out; omega
                            case rel => exact ⟨(x11_2), (y427), (by first | rfl | (simp; done) | (simp [*]; done)), H', ⟨by have := HK1.out; have := HK2.out; omega⟩, ⟨by (with_reducible repeat (first | apply Kd.R_alloc | apply Kd.R_drewN | apply Kd.R_drew)); exact HO429.out⟩, ⟨by (with_reducible repeat (first | refine zC ?_ _ | refine zD ?_ | refine zB ?_ _)); exact BK373.out⟩, ⟨by (with_reducible repeat (first | refine zC ?_ _ | refine zD ?_ | refine zB ?_ _)); exact BK374.out⟩, ⟨by repeat (first | (with_reducible first | exact HB.out | apply zI | apply zF | apply zH | refine zE ?_ GE373.out | refine zE ?_ GE374.out) | exact HB.out)⟩⟩
                          · rw [if_neg c78] at H
                            exact absurd H (by simp)
                        · rw [if_neg c76] at H
                          have c76b0 : ((rd l0_1 x11_2) == 1) = false := beq_eq_false_iff_ne.mpr c76
                          have c76b1 : ((rd l0_1 x11_2) != 1) = true := bne_iff_ne.mpr c76
                          replace H := Option.bind_eq_some_iff.mp H; obtain ⟨⟨t430, t431, t432, t433⟩, A840, H⟩ := H; replace H : (if x9_1.length < 4398046511104 then (stanzaref13_First.l0 k2 x11_2 a2 (x9_1 ++ [(⟨t430, t431, t432, t433⟩ : S63)]) l0_0 l0_1 a3_0 a3_1 a3_2 a3_3 a3_4 a3_5) else (none)) = some r := H; have A84 := zA.mk A840; clear A840; by_cases c85 : x9_1.length < 4398046511104
                          · rw [if_pos c85] at H
                            have LMc85 := zA.mk c85; clear c85; obtain ⟨y434, hy434⟩ : ∃ y_ : List (S63), y_ = (x9_1 ++ [(⟨t430, t431, t432, t433⟩ : S63)]) := ⟨_, rfl⟩; replace H : (stanzaref13_First.l0 k2 x11_2 a2 y434 l0_0 l0_1 a3_0 a3_1 a3_2 a3_3 a3_4 a3_5) = some r := by first | (rw [hy434]; with_reducible exact H) | (have H2_ := (Option.bind_some _ _).symm.trans H; rw [hy434]; with_reducible exact H2_) | (have H2_ := (Option.bind_some _ _).symm.trans H; with_reducible exact H2_) | with_reducible exact H | (rw [hy434]; exact H) | exact H
                            have Ny434 := zA.mk hy434; clear hy434; have H' := zA.mk H
                            clear H; have hnb86 := NB373_374.out; have hnc86 := NB374_373.out; have hcz87_0 : wr.cell? ⟨gb373, 0, none⟩ = some (.slice A0_0 l0_0.length c0_0) := (zG BK373.out 0).trans rfl
                            have hcz87_1 : wr.cell? ⟨gb373, 1, none⟩ = some (.slice A0_1 l0_1.length c0_1) := (zG BK373.out 1).trans rfl
                            have hfz87_0 := zJ BK373.out 0; have hfz87_1 := zJ BK373.out 1; have p412 : 0 ≤ (x11_2 : Int) := of_decide_eq_true (by first | (with_reducible assumption) | assumption)
                            have q412 : x11_2 < (l0_1.length : Int) := of_decide_eq_true (by first | (with_reducible assumption) | assumption)
                            obtain ⟨ad412, e412, hx412_0⟩ := Kd.at_int HR0_1.out x11_2 p412 q412; cases e412
                            replace hx412_0 := (HB.out.cell (World.block_lt_of_cell? w _ hx412_0)).trans hx412_0; replace p412 := eq_true p412; replace q412 := eq_true q412; have p421 : 0 ≤ (x11_2 : Int) := of_decide_eq_true (by first | (with_reducible assumption) | assumption)
                            have q421 : x11_2 < (l0_1.length : Int) := of_decide_eq_true (by first | (with_reducible assumption) | assumption)
                            obtain ⟨ad421, e421, hx421_0⟩ := Kd.at_int HR0_1.out x11_2 p421 q421; obtain rfl : ad412 = ad421 := (by injection e421)
                            replace hx421_0 := (HB.out.cell (World.block_lt_of_cell? w _ hx421_0)).trans hx421_0; replace p421 := eq_true p421; replace q421 := eq_true q421; have hcz88_0 : wr.cell? ⟨gb374, 0, none⟩ = some (.int .i64 a3_0) := (zG BK374.out 0).trans rfl
                            have hcz88_1 : wr.cell? ⟨gb374, 1, none⟩ = some (.int .i64 a3_1) := (zG BK374.out 1).trans rfl
                            have hcz88_2 : wr.cell? ⟨gb374, 2, none⟩ = some (.int .u8 a3_2) := (zG BK374.out 2).trans rfl
                            have hcz88_3 : wr.cell? ⟨gb374, 3, none⟩ = some (.int .i64 a3_3) := (zG BK374.out 3).trans rfl
                            have hcz88_4 : wr.cell? ⟨gb374, 4, none⟩ = some (.int .i64 a3_4) := (zG BK374.out 4).trans rfl
                            have hcz88_5 : wr.cell? ⟨gb374, 5, none⟩ = some (.float .f64 a3_5) := (zG BK374.out 5).trans rfl
                            have hfz88_0 := zJ BK374.out 0; have hfz88_1 := zJ BK374.out 1; have hfz88_2 := zJ BK374.out 2; have hfz88_3 := zJ BK374.out 3; have hfz88_4 := zJ BK374.out 4; have hfz88_5 := zJ BK374.out 5; go_wp2_with (first | ((with_reducible refine gate_callee (f := 35) rfl ?_); refine goesL_ (some 95) rfl rfl Try.func35 (by kernel_rfl) rfl #[.agg #[.slice A0_0 l0_0.length c0_0, .slice (some ad412) l0_1.length c0_1], .int .i64 x1_1, .int .i64 x11_2, .int .u8 4, .int .i64 a3_1] rfl (by (try simp only [List.map_toArray, List.map_cons, List.map_nil]); first | done | rfl | (simp only [List.length_drop, List.length_take]; rfl)) ?_; (with_reducible refine (stanzaref13_Line.calls k2 _ _ l0_0 _ _ l0_1 x1_1 x11_2 4 a3_1 t430 t431 t432 t433 _ ?side1 ?side2 ?side3 ?side4 A84.out).mono ?_); (case side1 => repeat (first | exact (Kd.C_below HR0_0.out HB.out) | (with_reducible refine Kd.C_alloc ?_ _) | (with_reducible refine Kd.C_drewN ?_ _) | (with_reducible refine Kd.C_drew ?_))); (case side2 => exact HC0_0.out); (case side3 => repeat (first | exact (Kd.C_below HR0_1.out HB.out) | (with_reducible refine Kd.C_alloc ?_ _) | (with_reducible refine Kd.C_drewN ?_ _) | (with_reducible refine Kd.C_drew ?_))); (case side4 => exact HC0_1.out); rintro e w89 ⟨rfl, hb⟩; refine ⟨_, rfl, ?_⟩; have n0_ := zA.mk (Kd.R_below (by (with_reducible repeat (first | apply Kd.R_alloc | apply Kd.R_drewN | apply Kd.R_drew)); exact HO_9.out) hb); have n1_ := zA.mk (zL (g := gb373) (o := .cells #[.slice A0_0 l0_0.length c0_0, .slice (some ad412) l0_1.length c0_1] 35 (0, 0)) (by (with_reducible repeat (first | refine zC ?_ _ | refine zD ?_ | refine zB ?_ _)); exact BK373.out) hb); have n2_ := zA.mk (zL (g := gb374) (o := .cells #[.int .i64 a3_0, .int .i64 a3_1, .int .u8 a3_2, .int .i64 a3_3, .int .i64 a3_4, .float .f64 a3_5] 58 (0, 0)) (by (with_reducible repeat (first | refine zC ?_ _ | refine zD ?_ | refine zB ?_ _)); exact BK374.out) hb); have n3_ := zA.mk (zO (by repeat (first | (with_reducible first | exact HB.out | apply zI | apply zF | apply zH | refine zE ?_ GE373.out | refine zE ?_ GE374.out) | exact HB.out)) hb); clear HO_9; clear BK373; clear BK374; clear HB; have HO_9 := n0_; have BK373 := n1_; have BK374 := n2_; have HB := n3_; clear n0_ n1_ n2_ n3_; (try clear hb); (try clear hb2); (try clear hk); (try clear hi)) | ((with_reducible refine gate_builtin (b := .append) (xs := #[.tmp 88, .tmp 96]) rfl ?_); at_builtin; refine Kd.R_append k63 (w0 := w) w.heap.size rfl (.tmp 88) (.tmp 96) 68 63 (.agg #[(.int .i64 0), (.int .i64 0), (.int .i64 0), (.int .u8 0)]) 32 rfl Try.underlying68 info63 rfl (by decide) (by omega) u9 x9_1 (⟨t430, t431, t432, t433⟩ : S63) [.int .i64 t430, .int .i64 t431, .int .i64 t432, .int .u8 t433] (fun _ => True) (fun _ => False) rfl rfl ?aP (fun _ hk => hk.elim) ?aF ?aO ?aB ?aS ?aL ?_; (case aP => exact k63_mkM _ _ _ (⟨t430, t431, t432, t433⟩ : S63)); (case aB => exact (by repeat (first | (with_reducible first | exact HB.out | apply zI | apply zF | apply zH | refine zE ?_ GE373.out | refine zE ?_ GE374.out) | exact HB.out))); (case aF => exact (fun _ _ => trivial)); (case aO => exact (by (with_reducible repeat (first | apply Kd.R_alloc | apply Kd.R_drewN | apply Kd.R_drew)); exact HO_9.out)); (case aS => exact (zK (by repeat (first | (with_reducible first | exact HB.out | apply zI | apply zF | apply zH | refine zE ?_ GE373.out | refine zE ?_ GE374.out) | exact HB.out)))); (case aL => have := LMc85.out; omega); intro v435 w90 ho hb hg hat; rw [← Ny434.out] at ho; have n0_ := zA.mk (blk_grown (g := gb373) (o := .cells #[.slice A0_0 l0_0.length c0_0, .slice (some ad412) l0_1.length c0_1] 35 (0, 0)) (by (with_reducible repeat (first | refine zC ?_ _ | refine zD ?_ | refine zB ?_ _)); exact BK373.out) hg (Kd.R_ne HO_9.out BK373.out (by decide))); have n1_ := zA.mk (blk_grown (g := gb374) (o := .cells #[.int .i64 a3_0, .int .i64 a3_1, .int .u8 a3_2, .int .i64 a3_3, .int .i64 a3_4, .float .f64 a3_5] 58 (0, 0)) (by (with_reducible repeat (first | refine zC ?_ _ | refine zD ?_ | refine zB ?_ _)); exact BK374.out) hg (Kd.R_ne HO_9.out BK374.out (by decide))); have n2_ := zA.mk (hb); have n3_ := zA.mk (ho); clear BK373; clear BK374; clear HB; clear HO_9; have BK373 := n0_; have BK374 := n1_; have HB := n2_; have HO436 := n3_; clear n0_ n1_ n2_ n3_; clear ho hb hg hat))
                            go_roundg k2
                            case measure => have := HK1.out; have := HK2.out; omega
                            case rel => exact ⟨(x11_2), (y434), (by first | rfl | (simp; done) | (simp [*]; done)), H', ⟨by have := HK1.out; have := HK2.out; omega⟩, ⟨by (with_reducible repeat (first | apply Kd.R_alloc | apply Kd.R_drewN | apply Kd.R_drew)); exact HO436.out⟩, ⟨by (with_reducible repeat (first | refine zC ?_ _ | refine zD ?_ | refine zB ?_ _)); exact BK373.out⟩, ⟨by (with_reducible repeat (first | refine zC ?_ _ | refine zD ?_ | refine zB ?_ _)); exact BK374.out⟩, ⟨by repeat (first | (with_reducible first | exact HB.out | apply zI | apply zF | apply zH | refine zE ?_ GE373.out | refine zE ?_ GE374.out) | exact HB.out)⟩⟩
                          · rw [if_neg c85] at H
                            exact absurd H (by simp)
                    · rw [if_neg c67] at H
                      exact absurd H (by simp)
                  · rw [if_neg c66] at H
                    exact absurd H (by simp)
      · rw [if_neg c7] at H
        have c7b0 : decide (x1_1 < a2) = false := decide_eq_false c7
        clear c7; obtain rfl := Option.some.inj H
        go_wp2
        go_ret
        exact ⟨_, by first | rfl | (simp [errW_none, errW_some] <;> rfl) | (simp [*, errW_none, errW_some] <;> rfl), by (with_reducible repeat (first | apply Kd.R_alloc | apply Kd.R_drewN | apply Kd.R_drew)); exact HO_9.out, by repeat (first | (with_reducible first | exact HB.out | apply zI | apply zF | apply zH | refine zE ?_ GE373.out | refine zE ?_ GE374.out) | exact HB.out)⟩
end Go.Proofs.Ytbnoeeflpegcoaa.F
end
section
namespace Go.Proofs.Ytbnoeeflpegcoaa.F
open Go.RowKit Go.Proofs.YtbnoeeflpegcoaaW.PrintWords Go.Proofs.YtbnoeeflpegcoaaW.PrintLast Go.Proofs.YtbnoeeflpegcoaaW.PrintMore
attribute [local go_sem] max2_int min2_int max_two min_two max_three min_three max_four min_four   -- for this text's walks alone
set_option linter.unusedVariables false
set_option linter.unusedSimpArgs false
def stanzaref13_Best.f (l0_0 : List (S41)) (l0_1 : List Int) (a1 : Int) (a2 : Int) (a3_0 : Int) (a3_1 : Int) (a3_2 : Int) (a3_3 : Int) (a3_4 : Int) (a3_5 : Nat) : Option ((List (S63)) × Bool) := none
set_option maxHeartbeats 8000000 in
set_option maxRecDepth 100000 in
theorem stanzaref13_Best.calls (A0_0 : Option Addr) (c0_0 : Nat) (l0_0 : List (S41)) (A0_1 : Option Addr) (c0_1 : Nat) (l0_1 : List Int) (a1 : Int) (a2 : Int) (a3_0 : Int) (a3_1 : Int) (a3_2 : Int) (a3_3 : Int) (a3_4 : Int) (a3_5 : Nat) (r1 : List (S63)) (r2 : Bool) (w : World) (hr0_0 : Kd.C k41 w A0_0 l0_0.length l0_0) (hc0_0 : l0_0.length ≤ c0_0) (hr0_1 : Kd.C (Kd.int .u8) w A0_1 l0_1.length l0_1) (hc0_1 : l0_1.length ≤ c0_1) (h : stanzaref13_Best.f l0_0 l0_1 a1 a2 a3_0 a3_1 a3_2 a3_3 a3_4 a3_5 = some (r1, r2)) :
    Calls Try.prog 46 #[.agg #[.slice A0_0 l0_0.length c0_0, .slice A0_1 l0_1.length c0_1], .int .i64 a1, .int .i64 a2, .agg #[.int .i64 a3_0, .int .i64 a3_1, .int .u8 a3_2, .int .i64 a3_3, .int .i64 a3_4, .float .f64 a3_5]] w fun e w' => ∃ v0_ : Value, e = .returned (.tuple #[v0_, .bool r2]) ∧ Kd.R k63 63 w' w.heap.size (fun _ => True) v0_ r1 ∧ Below w.heap.size w w' := by
  have hu35 := Try.underlying35; have hu58 := Try.underlying58; have HR0_0 := zA.mk hr0_0; have HC0_0 := zA.mk hc0_0; clear hr0_0 hc0_0; have HR0_1 := zA.mk hr0_1; have HC0_1 := zA.mk hc0_1; clear hr0_1 hc0_1; have HB := zA.mk (Below.refl w.heap.size w); have H : (none) = some (r1, r2) := h
  clear h; exact absurd H (by simp)
def stanzaref13_Part.f (k : Nat) (l0_0 : List (S41)) (l0_1 : List Int) (a1 : Int) (a2 : Int) (a3_0 : Int) (a3_1 : Int) (a3_2 : Int) (a3_3 : Int) (a3_4 : Int) (a3_5 : Nat) : Option ((List (S63)) × Bool) := if a3_2 = 0 then ((stanzaref13_First.f k l0_0 l0_1 a1 a2 a3_0 a3_1 a3_2 a3_3 a3_4 a3_5).bind fun t450 => (some (t450, false))) else ((stanzaref13_Best.f l0_0 l0_1 a1 a2 a3_0 a3_1 a3_2 a3_3 a3_4 a3_5).bind fun bt453 => (if bt453.2 = true then (some (bt453.1, false)) else ((stanzaref13_First.f k l0_0 l0_1 a1 a2 a3_0 a3_1 a3_2 a3_3 a3_4 a3_5).bind fun t457 => (some (t457, true)))))
theorem stanzaref13_Part.mono : ∀ a0 a1 a2 a3 a4 a5 a6 a7 a8 a9 k, LeO (stanzaref13_Part.f k a0 a1 a2 a3 a4 a5 a6 a7 a8 a9) (stanzaref13_Part.f (k + 1) a0 a1 a2 a3 a4 a5 a6 a7 a8 a9) := by
  intro a0 a1 a2 a3 a4 a5 a6 a7 a8 a9 k
  unfold stanzaref13_Part.f
  repeat' first
      | (with_reducible exact stanzaref13_First.mono _ _ _ _ _ _ _ _ _ _ _)
      | (with_reducible exact LeO.refl _)
      | (with_reducible exact LeO.none _)
      | (with_reducible refine LeO.ite ?_ ?_)
      | (with_reducible refine LeO.bind ?_ (fun _ => ?_))
      | exact stanzaref13_First.mono _ _ _ _ _ _ _ _ _ _ _
      | exact LeO.none _
      | refine LeO.ite ?_ ?_
      | refine LeO.bind ?_ (fun _ => ?_)
set_option maxHeartbeats 8000000 in
set_option maxRecDepth 100000 in
theorem stanzaref13_Part.calls (k : Nat) (A0_0 : Option Addr) (c0_0 : Nat) (l0_0 : List (S41)) (A0_1 : Option Addr) (c0_1 : Nat) (l0_1 : List Int) (a1 : Int) (a2 : Int) (a3_0 : Int) (a3_1 : Int) (a3_2 : Int) (a3_3 : Int) (a3_4 : Int) (a3_5 : Nat) (r1 : List (S63)) (r2 : Bool) (w : World) (hr0_0 : Kd.C k41 w A0_0 l0_0.length l0_0) (hc0_0 : l0_0.length ≤ c0_0) (hr0_1 : Kd.C (Kd.int .u8) w A0_1 l0_1.length l0_1) (hc0_1 : l0_1.length ≤ c0_1) (h : stanzaref13_Part.f k l0_0 l0_1 a1 a2 a3_0 a3_1 a3_2 a3_3 a3_4 a3_5 = some (r1, r2)) :
    Calls Try.prog 44 #[.agg #[.slice A0_0 l0_0.length c0_0, .slice A0_1 l0_1.length c0_1], .int .i64 a1, .int .i64 a2, .agg #[.int .i64 a3_0, .int .i64 a3_1, .int .u8 a3_2, .int .i64 a3_3, .int .i64 a3_4, .float .f64 a3_5]] w fun e w' => ∃ v0_ : Value, e = .returned (.tuple #[v0_, .bool r2]) ∧ Kd.R k63 63 w' w.heap.size (fun _ => True) v0_ r1 ∧ Below w.heap.size w w' := by
  have hu35 := Try.underlying35; have hu58 := Try.underlying58; have HR0_0 := zA.mk hr0_0; have HC0_0 := zA.mk hc0_0; clear hr0_0 hc0_0; have HR0_1 := zA.mk hr0_1; have HC0_1 := zA.mk hc0_1; clear hr0_1 hc0_1; have HB := zA.mk (Below.refl w.heap.size w); have H : (if a3_2 = 0 then ((stanzaref13_First.f k l0_0 l0_1 a1 a2 a3_0 a3_1 a3_2 a3_3 a3_4 a3_5).bind fun t450 => (some (t450, false))) else ((stanzaref13_Best.f l0_0 l0_1 a1 a2 a3_0 a3_1 a3_2 a3_3 a3_4 a3_5).bind fun bt453 => (if bt453.2 = true then (some (bt453.1, false)) else ((stanzaref13_First.f k l0_0 l0_1 a1 a2 a3_0 a3_1 a3_2 a3_3 a3_4 a3_5).bind fun t457 => (some (t457, true)))))) = some (r1, r2) := h
  clear h; by_cases c5 : a3_2 = 0
  · rw [if_pos c5] at H
    have c5b0 : (a3_2 == 0) = true := beq_iff_eq.mpr c5
    have c5b1 : (a3_2 != 0) = false := bne_eq_false_iff_eq.mpr c5
    clear c5; replace H := Option.bind_eq_some_iff.mp H; obtain ⟨t450, A60, H⟩ := H; replace H : (some (t450, false)) = some (r1, r2) := H; have A6 := zA.mk A60; clear A60; simp only [Option.some.injEq, Prod.mk.injEq] at H; obtain ⟨rfl, rfl⟩ := H; go_enter Try.func44, Try.ntmps44
    go_wp2_with (first | ((with_reducible refine gate_dst (N := 4) rfl ?_); refine box_event ?hg (N := 4) ?hd (cs := #[.slice A0_0 l0_0.length c0_0, .slice A0_1 l0_1.length c0_1]) (t := 35) ?hr ?_; (case hd => rfl); (case hg => rfl); (case hr => first | (go_simp; done) | (go_simp; rfl)); intro gb448 hg w7 hbox hb; have n0_ := zA.mk (zO (by repeat (first | (with_reducible first | exact HB.out | apply zI | apply zF | apply zH) | exact HB.out)) hb); have n1_ := zA.mk (hbox); have n2_ := zA.mk ((by rw [hg]; exact (zK (by repeat (first | (with_reducible first | exact HB.out | apply zI | apply zF | apply zH) | exact HB.out))) : w.heap.size ≤ gb448)); have n3_ := zA.mk ((by rw [hg]; exact (zK (by repeat (first | (with_reducible first | exact HB.out | apply zI | apply zF | apply zH) | exact HB.out))) : w.heap.size ≤ gb448)); clear HB; have HB := n0_; have BK448 := n1_; have GW448 := n2_; have GE448 := n3_; clear n0_ n1_ n2_ n3_; clear hb hbox hg) | ((with_reducible refine gate_dst (N := 7) rfl ?_); refine box_event ?hg (N := 7) ?hd (cs := #[.int .i64 a3_0, .int .i64 a3_1, .int .u8 a3_2, .int .i64 a3_3, .int .i64 a3_4, .float .f64 a3_5]) (t := 58) ?hr ?_; (case hd => rfl); (case hg => rfl); (case hr => first | (go_simp; done) | (go_simp; rfl)); intro gb449 hg w8 hbox hb; have n0_ := zA.mk (zL (g := gb448) (o := .cells #[.slice A0_0 l0_0.length c0_0, .slice A0_1 l0_1.length c0_1] 35 (0, 0)) (by (with_reducible repeat (first | refine zC ?_ _ | refine zD ?_ | refine zB ?_ _)); exact BK448.out) hb); have n1_ := zA.mk (zO (by repeat (first | (with_reducible first | exact HB.out | apply zI | apply zF | apply zH | refine zE ?_ GE448.out) | exact HB.out)) hb); have n2_ := zA.mk (hbox); have n3_ := zA.mk ((by rw [hg]; exact (zK (by repeat (first | (with_reducible first | exact HB.out | apply zI | apply zF | apply zH | refine zE ?_ GE448.out) | exact HB.out))) : w.heap.size ≤ gb449)); have n4_ := zA.mk ((by rw [hg]; exact (zK (by repeat (first | (with_reducible first | exact HB.out | apply zI | apply zF | apply zH | refine zE ?_ GE448.out) | exact HB.out))) : w.heap.size ≤ gb449)); have n5_ := zA.mk ((by rw [hg]; exact Nat.ne_of_lt (blk_lt (g := gb448) (o := .cells #[.slice A0_0 l0_0.length c0_0, .slice A0_1 l0_1.length c0_1] 35 (0, 0)) (by (with_reducible repeat (first | refine zC ?_ _ | refine zD ?_ | refine zB ?_ _)); exact BK448.out)) : gb448 ≠ gb449)); have n6_ := zA.mk ((by rw [hg]; exact Nat.ne_of_gt (blk_lt (g := gb448) (o := .cells #[.slice A0_0 l0_0.length c0_0, .slice A0_1 l0_1.length c0_1] 35 (0, 0)) (by (with_reducible repeat (first | refine zC ?_ _ | refine zD ?_ | refine zB ?_ _)); exact BK448.out)) : gb449 ≠ gb448)); clear BK448; clear HB; have BK448 := n0_; have HB := n1_; have BK449 := n2_; have GW449 := n3_; have GE449 := n4_; have NB448_449 := n5_; have NB449_448 := n6_; clear n0_ n1_ n2_ n3_ n4_ n5_ n6_; clear hb hbox hg; have hnb9 := NB449_448.out; have hnc9 := NB448_449.out; have hcz10_0 : w8.cell? ⟨gb449, 0, none⟩ = some (.int .i64 a3_0) := (zG BK449.out 0).trans rfl; have hcz10_1 : w8.cell? ⟨gb449, 1, none⟩ = some (.int .i64 a3_1) := (zG BK449.out 1).trans rfl; have hcz10_2 : w8.cell? ⟨gb449, 2, none⟩ = some (.int .u8 a3_2) := (zG BK449.out 2).trans rfl; have hcz10_3 : w8.cell? ⟨gb449, 3, none⟩ = some (.int .i64 a3_3) := (zG BK449.out 3).trans rfl; have hcz10_4 : w8.cell? ⟨gb449, 4, none⟩ = some (.int .i64 a3_4) := (zG BK449.out 4).trans rfl; have hcz10_5 : w8.cell? ⟨gb449, 5, none⟩ = some (.float .f64 a3_5) := (zG BK449.out 5).trans rfl; have hfz10_0 := zJ BK449.out 0; have hfz10_1 := zJ BK449.out 1; have hfz10_2 := zJ BK449.out 2; have hfz10_3 := zJ BK449.out 3; have hfz10_4 := zJ BK449.out 4; have hfz10_5 := zJ BK449.out 5; have hcz11_0 : w8.cell? ⟨gb448, 0, none⟩ = some (.slice A0_0 l0_0.length c0_0) := (zG BK448.out 0).trans rfl; have hcz11_1 : w8.cell? ⟨gb448, 1, none⟩ = some (.slice A0_1 l0_1.length c0_1) := (zG BK448.out 1).trans rfl; have hfz11_0 := zJ BK448.out 0; have hfz11_1 := zJ BK448.out 1) | ((with_reducible refine gate_callee (f := 45) rfl ?_); refine goesL_ (some 19) rfl rfl Try.func45 (by kernel_rfl) rfl #[.agg #[.slice A0_0 l0_0.length c0_0, .slice A0_1 l0_1.length c0_1], .int .i64 a1, .int .i64 a2, .agg #[.int .i64 a3_0, .int .i64 a3_1, .int .u8 a3_2, .int .i64 a3_3, .int .i64 a3_4, .float .f64 a3_5]] rfl (by (try simp only [List.map_toArray, List.map_cons, List.map_nil]); first | done | rfl | (simp only [List.length_drop, List.length_take]; rfl)) ?_; (with_reducible refine (stanzaref13_First.calls k _ _ l0_0 _ _ l0_1 a1 a2 a3_0 a3_1 a3_2 a3_3 a3_4 a3_5 t450 _ ?side1 ?side2 ?side3 ?side4 A6.out).mono ?_); (case side1 => repeat (first | exact (Kd.C_below HR0_0.out HB.out) | (with_reducible refine Kd.C_alloc ?_ _) | (with_reducible refine Kd.C_drewN ?_ _) | (with_reducible refine Kd.C_drew ?_))); (case side2 => exact HC0_0.out); (case side3 => repeat (first | exact (Kd.C_below HR0_1.out HB.out) | (with_reducible refine Kd.C_alloc ?_ _) | (with_reducible refine Kd.C_drewN ?_ _) | (with_reducible refine Kd.C_drew ?_))); (case side4 => exact HC0_1.out); rintro e w12 ⟨v451, rfl, ho0, hb⟩; refine ⟨_, rfl, ?_⟩; have n0_ := zA.mk (Kd.R_lower ho0 (zK (by repeat (first | (with_reducible first | exact HB.out | apply zI | apply zF | apply zH | refine zE ?_ GE448.out | refine zE ?_ GE449.out) | exact HB.out)))); have n1_ := zA.mk (zL (g := gb448) (o := .cells #[.slice A0_0 l0_0.length c0_0, .slice A0_1 l0_1.length c0_1] 35 (0, 0)) (by (with_reducible repeat (first | refine zC ?_ _ | refine zD ?_ | refine zB ?_ _)); exact BK448.out) hb); have n2_ := zA.mk (zL (g := gb449) (o := .cells #[.int .i64 a3_0, .int .i64 a3_1, .int .u8 a3_2, .int .i64 a3_3, .int .i64 a3_4, .float .f64 a3_5] 58 (0, 0)) (by (with_reducible repeat (first | refine zC ?_ _ | refine zD ?_ | refine zB ?_ _)); exact BK449.out) hb); have n3_ := zA.mk (zO (by repeat (first | (with_reducible first | exact HB.out | apply zI | apply zF | apply zH | refine zE ?_ GE448.out | refine zE ?_ GE449.out) | exact HB.out)) hb); clear BK448; clear BK449; clear HB; have HO452 := n0_; have BK448 := n1_; have BK449 := n2_; have HB := n3_; clear n0_ n1_ n2_ n3_; (try clear hb); (try clear hb2); (try clear hk); (try clear hi); (try clear ho0)))
    go_ret2
    exact ⟨_, by first | rfl | (simp [errW_none, errW_some] <;> rfl) | (simp [*, errW_none, errW_some] <;> rfl), by (with_reducible repeat (first | apply Kd.R_alloc | apply Kd.R_drewN | apply Kd.R_drew)); exact HO452.out, by repeat (first | (with_reducible first | exact HB.out | apply zI | apply zF | apply zH | refine zE ?_ GE448.out | refine zE ?_ GE449.out) | exact HB.out)⟩
  · rw [if_neg c5] at H
    have c5b0 : (a3_2 == 0) = false := beq_eq_false_iff_ne.mpr c5
    have c5b1 : (a3_2 != 0) = true := bne_iff_ne.mpr c5
    replace H := Option.bind_eq_some_iff.mp H; obtain ⟨⟨t453, t456⟩, A130, H⟩ := H; replace H : (if t456 = true then (some (t453, false)) else ((stanzaref13_First.f k l0_0 l0_1 a1 a2 a3_0 a3_1 a3_2 a3_3 a3_4 a3_5).bind fun t457 => (some (t457, true)))) = some (r1, r2) := H
    have A13 := zA.mk A130; clear A130; by_cases c14 : t456 = true
    · subst c14
      have H1 : (some (t453, false)) = some (r1, r2) := by rw [if_pos rfl] at H; exact H
      clear H; have H := H1; clear H1; simp only [Option.some.injEq, Prod.mk.injEq] at H; obtain ⟨rfl, rfl⟩ := H; go_enter Try.func44, Try.ntmps44
      go_wp2_with (first | ((with_reducible refine gate_dst (N := 4) rfl ?_); refine box_event ?hg (N := 4) ?hd (cs := #[.slice A0_0 l0_0.length c0_0, .slice A0_1 l0_1.length c0_1]) (t := 35) ?hr ?_; (case hd => rfl); (case hg => rfl); (case hr => first | (go_simp; done) | (go_simp; rfl)); intro gb448 hg w15 hbox hb; have n0_ := zA.mk (zO (by repeat (first | (with_reducible first | exact HB.out | apply zI | apply zF | apply zH) | exact HB.out)) hb); have n1_ := zA.mk (hbox); have n2_ := zA.mk ((by rw [hg]; exact (zK (by repeat (first | (with_reducible first | exact HB.out | apply zI | apply zF | apply zH) | exact HB.out))) : w.heap.size ≤ gb448)); have n3_ := zA.mk ((by rw [hg]; exact (zK (by repeat (first | (with_reducible first | exact HB.out | apply zI | apply zF | apply zH) | exact HB.out))) : w.heap.size ≤ gb448)); clear HB; have HB := n0_; have BK448 := n1_; have GW448 := n2_; have GE448 := n3_; clear n0_ n1_ n2_ n3_; clear hb hbox hg) | ((with_reducible refine gate_dst (N := 7) rfl ?_); refine box_event ?hg (N := 7) ?hd (cs := #[.int .i64 a3_0, .int .i64 a3_1, .int .u8 a3_2, .int .i64 a3_3, .int .i64 a3_4, .float .f64 a3_5]) (t := 58) ?hr ?_; (case hd => rfl); (case hg => rfl); (case hr => first | (go_simp; done) | (go_simp; rfl)); intro gb449 hg w16 hbox hb; have n0_ := zA.mk (zL (g := gb448) (o := .cells #[.slice A0_0 l0_0.length c0_0, .slice A0_1 l0_1.length c0_1] 35 (0, 0)) (by (with_reducible repeat (first | refine zC ?_ _ | refine zD ?_ | refine zB ?_ _)); exact BK448.out) hb); have n1_ := zA.mk (zO (by repeat (first | (with_reducible first | exact HB.out | apply zI | apply zF | apply zH | refine zE ?_ GE448.out) | exact HB.out)) hb); have n2_ := zA.mk (hbox); have n3_ := zA.mk ((by rw [hg]; exact (zK (by repeat (first | (with_reducible first | exact HB.out | apply zI | apply zF | apply zH | refine zE ?_ GE448.out) | exact HB.out))) : w.heap.size ≤ gb449)); have n4_ := zA.mk ((by rw [hg]; exact (zK (by repeat (first | (with_reducible first | exact HB.out | apply zI | apply zF | apply zH | refine zE ?_ GE448.out) | exact HB.out))) : w.heap.size ≤ gb449)); have n5_ := zA.mk ((by rw [hg]; exact Nat.ne_of_lt (blk_lt (g := gb448) (o := .cells #[.slice A0_0 l0_0.length c0_0, .slice A0_1 l0_1.length c0_1] 35 (0, 0)) (by (with_reducible repeat (first | refine zC ?_ _ | refine zD ?_ | refine zB ?_ _)); exact BK448.out)) : gb448 ≠ gb449)); have n6_ := zA.mk ((by rw [hg]; exact Nat.ne_of_gt (blk_lt (g := gb448) (o := .cells #[.slice A0_0 l0_0.length c0_0, .slice A0_1 l0_1.length c0_1] 35 (0, 0)) (by (with_reducible repeat (first | refine zC ?_ _ | refine zD ?_ | refine zB ?_ _)); exact BK448.out)) : gb449 ≠ gb448)); clear BK448; clear HB; have BK448 := n0_; have HB := n1_; have BK449 := n2_; have GW449 := n3_; have GE449 := n4_; have NB448_449 := n5_; have NB449_448 := n6_; clear n0_ n1_ n2_ n3_ n4_ n5_ n6_; clear hb hbox hg; have hnb17 := NB449_448.out; have hnc17 := NB448_449.out; have hcz18_0 : w16.cell? ⟨gb449, 0, none⟩ = some (.int .i64 a3_0) := (zG BK449.out 0).trans rfl; have hcz18_1 : w16.cell? ⟨gb449, 1, none⟩ = some (.int .i64 a3_1) := (zG BK449.out 1).trans rfl; have hcz18_2 : w16.cell? ⟨gb449, 2, none⟩ = some (.int .u8 a3_2) := (zG BK449.out 2).trans rfl; have hcz18_3 : w16.cell? ⟨gb449, 3, none⟩ = some (.int .i64 a3_3) := (zG BK449.out 3).trans rfl; have hcz18_4 : w16.cell? ⟨gb449, 4, none⟩ = some (.int .i64 a3_4) := (zG BK449.out 4).trans rfl; have hcz18_5 : w16.cell? ⟨gb449, 5, none⟩ = some (.float .f64 a3_5) := (zG BK449.out 5).trans rfl; have hfz18_0 := zJ BK449.out 0; have hfz18_1 := zJ BK449.out 1; have hfz18_2 := zJ BK449.out 2; have hfz18_3 := zJ BK449.out 3; have hfz18_4 := zJ BK449.out 4; have hfz18_5 := zJ BK449.out 5; have hcz19_0 : w16.cell? ⟨gb448, 0, none⟩ = some (.slice A0_0 l0_0.length c0_0) := (zG BK448.out 0).trans rfl; have hcz19_1 : w16.cell? ⟨gb448, 1, none⟩ = some (.slice A0_1 l0_1.length c0_1) := (zG BK448.out 1).trans rfl; have hfz19_0 := zJ BK448.out 0; have hfz19_1 := zJ BK448.out 1) | ((with_reducible refine gate_callee (f := 46) rfl ?_); refine goesL_ (some 25) rfl rfl Try.func46 (by kernel_rfl) rfl #[.agg #[.slice A0_0 l0_0.length c0_0, .slice A0_1 l0_1.length c0_1], .int .i64 a1, .int .i64 a2, .agg #[.int .i64 a3_0, .int .i64 a3_1, .int .u8 a3_2, .int .i64 a3_3, .int .i64 a3_4, .float .f64 a3_5]] rfl (by (try simp only [List.map_toArray, List.map_cons, List.map_nil]); first | done | rfl | (simp only [List.length_drop, List.length_take]; rfl)) ?_; (with_reducible refine (stanzaref13_Best.calls _ _ l0_0 _ _ l0_1 a1 a2 a3_0 a3_1 a3_2 a3_3 a3_4 a3_5 t453 true _ ?side1 ?side2 ?side3 ?side4 A13.out).mono ?_); (case side1 => repeat (first | exact (Kd.C_below HR0_0.out HB.out) | (with_reducible refine Kd.C_alloc ?_ _) | (with_reducible refine Kd.C_drewN ?_ _) | (with_reducible refine Kd.C_drew ?_))); (case side2 => exact HC0_0.out); (case side3 => repeat (first | exact (Kd.C_below HR0_1.out HB.out) | (with_reducible refine Kd.C_alloc ?_ _) | (with_reducible refine Kd.C_drewN ?_ _) | (with_reducible refine Kd.C_drew ?_))); (case side4 => exact HC0_1.out); rintro e w20 ⟨v454, rfl, ho0, hb⟩; refine ⟨_, rfl, ?_⟩; have n0_ := zA.mk (Kd.R_lower ho0 (zK (by repeat (first | (with_reducible first | exact HB.out | apply zI | apply zF | apply zH | refine zE ?_ GE448.out | refine zE ?_ GE449.out) | exact HB.out)))); have n1_ := zA.mk (zL (g := gb448) (o := .cells #[.slice A0_0 l0_0.length c0_0, .slice A0_1 l0_1.length c0_1] 35 (0, 0)) (by (with_reducible repeat (first | refine zC ?_ _ | refine zD ?_ | refine zB ?_ _)); exact BK448.out) hb); have n2_ := zA.mk (zL (g := gb449) (o := .cells #[.int .i64 a3_0, .int .i64 a3_1, .int .u8 a3_2, .int .i64 a3_3, .int .i64 a3_4, .float .f64 a3_5] 58 (0, 0)) (by (with_reducible repeat (first | refine zC ?_ _ | refine zD ?_ | refine zB ?_ _)); exact BK449.out) hb); have n3_ := zA.mk (zO (by repeat (first | (with_reducible first | exact HB.out | apply zI | apply zF | apply zH | refine zE ?_ GE448.out | refine zE ?_ GE449.out) | exact HB.out)) hb); clear BK448; clear BK449; clear HB; have HO455 := n0_; have BK448 := n1_; have BK449 := n2_; have HB := n3_; clear n0_ n1_ n2_ n3_; (try clear hb); (try clear hb2); (try clear hk); (try clear hi); (try clear ho0)))
      go_ret2
      exact ⟨_, by first | rfl | (simp [errW_none, errW_some] <;> rfl) | (simp [*, errW_none, errW_some] <;> rfl), by (with_reducible repeat (first | apply Kd.R_alloc | apply Kd.R_drewN | apply Kd.R_drew)); exact HO455.out, by repeat (first | (with_reducible first | exact HB.out | apply zI | apply zF | apply zH | refine zE ?_ GE448.out | refine zE ?_ GE449.out) | exact HB.out)⟩
    · replace c14 := Bool.eq_false_iff.mpr c14
      subst c14; have H1 : ((stanzaref13_First.f k l0_0 l0_1 a1 a2 a3_0 a3_1 a3_2 a3_3 a3_4 a3_5).bind fun t457 => (some (t457, true))) = some (r1, r2) := by rw [if_neg (show ¬ (false = true) by decide)] at H; exact H
      clear H; have H := H1; clear H1; replace H := Option.bind_eq_some_iff.mp H; obtain ⟨t457, A210, H⟩ := H; replace H : (some (t457, true)) = some (r1, r2) := H; have A21 := zA.mk A210; clear A210; simp only [Option.some.injEq, Prod.mk.injEq] at H; obtain ⟨rfl, rfl⟩ := H; go_enter Try.func44, Try.ntmps44
      go_wp2_with (first | ((with_reducible refine gate_dst (N := 4) rfl ?_); refine box_event ?hg (N := 4) ?hd (cs := #[.slice A0_0 l0_0.length c0_0, .slice A0_1 l0_1.length c0_1]) (t := 35) ?hr ?_; (case hd => rfl); (case hg => rfl); (case hr => first | (go_simp; done) | (go_simp; rfl)); intro gb448 hg w22 hbox hb; have n0_ := zA.mk (zO (by repeat (first | (with_reducible first | exact HB.out | apply zI | apply zF | apply zH) | exact HB.out)) hb); have n1_ := zA.mk (hbox); have n2_ := zA.mk ((by rw [hg]; exact (zK (by repeat (first | (with_reducible first | exact HB.out | apply zI | apply zF | apply zH) | exact HB.out))) : w.heap.size ≤ gb448)); have n3_ := zA.mk ((by rw [hg]; exact (zK (by repeat (first | (with_reducible first | exact HB.out | apply zI | apply zF | apply zH) | exact HB.out))) : w.heap.size ≤ gb448)); clear HB; have HB := n0_; have BK448 := n1_; have GW448 := n2_; have GE448 := n3_; clear n0_ n1_ n2_ n3_; clear hb hbox hg) | ((with_reducible refine gate_dst (N := 7) rfl ?_); refine box_event ?hg (N := 7) ?hd (cs := #[.int .i64 a3_0, .int .i64 a3_1, .int .u8 a3_2, .int .i64 a3_3, .int .i64 a3_4, .float .f64 a3_5]) (t := 58) ?hr ?_; (case hd => rfl); (case hg => rfl); (case hr => first | (go_simp; done) | (go_simp; rfl)); intro gb449 hg w23 hbox hb; have n0_ := zA.mk (zL (g := gb448) (o := .cells #[.slice A0_0 l0_0.length c0_0, .slice A0_1 l0_1.length c0_1] 35 (0, 0)) (by (with_reducible repeat (first | refine zC ?_ _ | refine zD ?_ | refine zB ?_ _)); exact BK448.out) hb); have n1_ := zA.mk (zO (by repeat (first | (with_reducible first | exact HB.out | apply zI | apply zF | apply zH | refine zE ?_ GE448.out) | exact HB.out)) hb); have n2_ := zA.mk (hbox); have n3_ := zA.mk ((by rw [hg]; exact (zK (by repeat (first | (with_reducible first | exact HB.out | apply zI | apply zF | apply zH | refine zE ?_ GE448.out) | exact HB.out))) : w.heap.size ≤ gb449)); have n4_ := zA.mk ((by rw [hg]; exact (zK (by repeat (first | (with_reducible first | exact HB.out | apply zI | apply zF | apply zH | refine zE ?_ GE448.out) | exact HB.out))) : w.heap.size ≤ gb449)); have n5_ := zA.mk ((by rw [hg]; exact Nat.ne_of_lt (blk_lt (g := gb448) (o := .cells #[.slice A0_0 l0_0.length c0_0, .slice A0_1 l0_1.length c0_1] 35 (0, 0)) (by (with_reducible repeat (first | refine zC ?_ _ | refine zD ?_ | refine zB ?_ _)); exact BK448.out)) : gb448 ≠ gb449)); have n6_ := zA.mk ((by rw [hg]; exact Nat.ne_of_gt (blk_lt (g := gb448) (o := .cells #[.slice A0_0 l0_0.length c0_0, .slice A0_1 l0_1.length c0_1] 35 (0, 0)) (by (with_reducible repeat (first | refine zC ?_ _ | refine zD ?_ | refine zB ?_ _)); exact BK448.out)) : gb449 ≠ gb448)); clear BK448; clear HB; have BK448 := n0_; have HB := n1_; have BK449 := n2_; have GW449 := n3_; have GE449 := n4_; have NB448_449 := n5_; have NB449_448 := n6_; clear n0_ n1_ n2_ n3_ n4_ n5_ n6_; clear hb hbox hg; have hnb24 := NB449_448.out; have hnc24 := NB448_449.out; have hcz25_0 : w23.cell? ⟨gb449, 0, none⟩ = some (.int .i64 a3_0) := (zG BK449.out 0).trans rfl; have hcz25_1 : w23.cell? ⟨gb449, 1, none⟩ = some (.int .i64 a3_1) := (zG BK449.out 1).trans rfl; have hcz25_2 : w23.cell? ⟨gb449, 2, none⟩ = some (.int .u8 a3_2) := (zG BK449.out 2).trans rfl; have hcz25_3 : w23.cell? ⟨gb449, 3, none⟩ = some (.int .i64 a3_3) := (zG BK449.out 3).trans rfl; have hcz25_4 : w23.cell? ⟨gb449, 4, none⟩ = some (.int .i64 a3_4) := (zG BK449.out 4).trans rfl; have hcz25_5 : w23.cell? ⟨gb449, 5, none⟩ = some (.float .f64 a3_5) := (zG BK449.out 5).trans rfl; have hfz25_0 := zJ BK449.out 0; have hfz25_1 := zJ BK449.out 1; have hfz25_2 := zJ BK449.out 2; have hfz25_3 := zJ BK449.out 3; have hfz25_4 := zJ BK449.out 4; have hfz25_5 := zJ BK449.out 5; have hcz26_0 : w23.cell? ⟨gb448, 0, none⟩ = some (.slice A0_0 l0_0.length c0_0) := (zG BK448.out 0).trans rfl; have hcz26_1 : w23.cell? ⟨gb448, 1, none⟩ = some (.slice A0_1 l0_1.length c0_1) := (zG BK448.out 1).trans rfl; have hfz26_0 := zJ BK448.out 0; have hfz26_1 := zJ BK448.out 1) | ((with_reducible refine gate_callee (f := 46) rfl ?_); refine goesL_ (some 25) rfl rfl Try.func46 (by kernel_rfl) rfl #[.agg #[.slice A0_0 l0_0.length c0_0, .slice A0_1 l0_1.length c0_1], .int .i64 a1, .int .i64 a2, .agg #[.int .i64 a3_0, .int .i64 a3_1, .int .u8 a3_2, .int .i64 a3_3, .int .i64 a3_4, .float .f64 a3_5]] rfl (by (try simp only [List.map_toArray, List.map_cons, List.map_nil]); first | done | rfl | (simp only [List.length_drop, List.length_take]; rfl)) ?_; (with_reducible refine (stanzaref13_Best.calls _ _ l0_0 _ _ l0_1 a1 a2 a3_0 a3_1 a3_2 a3_3 a3_4 a3_5 t453 false _ ?side1 ?side2 ?side3 ?side4 A13.out).mono ?_); (case side1 => repeat (first | exact (Kd.C_below HR0_0.out HB.out) | (with_reducible refine Kd.C_alloc ?_ _) | (with_reducible refine Kd.C_drewN ?_ _) | (with_reducible refine Kd.C_drew ?_))); (case side2 => exact HC0_0.out); (case side3 => repeat (first | exact (Kd.C_below HR0_1.out HB.out) | (with_reducible refine Kd.C_alloc ?_ _) | (with_reducible refine Kd.C_drewN ?_ _) | (with_reducible refine Kd.C_drew ?_))); (case side4 => exact HC0_1.out); rintro e w27 ⟨v454, rfl, ho0, hb⟩; refine ⟨_, rfl, ?_⟩; have n0_ := zA.mk (Kd.R_lower ho0 (zK (by repeat (first | (with_reducible first | exact HB.out | apply zI | apply zF | apply zH | refine zE ?_ GE448.out | refine zE ?_ GE449.out) | exact HB.out)))); have n1_ := zA.mk (zL (g := gb448) (o := .cells #[.slice A0_0 l0_0.length c0_0, .slice A0_1 l0_1.length c0_1] 35 (0, 0)) (by (with_reducible repeat (first | refine zC ?_ _ | refine zD ?_ | refine zB ?_ _)); exact BK448.out) hb); have n2_ := zA.mk (zL (g := gb449) (o := .cells #[.int .i64 a3_0, .int .i64 a3_1, .int .u8 a3_2, .int .i64 a3_3, .int .i64 a3_4, .float .f64 a3_5] 58 (0, 0)) (by (with_reducible repeat (first | refine zC ?_ _ | refine zD ?_ | refine zB ?_ _)); exact BK449.out) hb); have n3_ := zA.mk (zO (by repeat (first | (with_reducible first | exact HB.out | apply zI | apply zF | apply zH | refine zE ?_ GE448.out | refine zE ?_ GE449.out) | exact HB.out)) hb); clear BK448; clear BK449; clear HB; have HO455 := n0_; have BK448 := n1_; have BK449 := n2_; have HB := n3_; clear n0_ n1_ n2_ n3_; (try clear hb); (try clear hb2); (try clear hk); (try clear hi); (try clear ho0); have hcz28_0 : w27.cell? ⟨gb448, 0, none⟩ = some (.slice A0_0 l0_0.length c0_0) := (zG BK448.out 0).trans rfl; have hcz28_1 : w27.cell? ⟨gb448, 1, none⟩ = some (.slice A0_1 l0_1.length c0_1) := (zG BK448.out 1).trans rfl; have hfz28_0 := zJ BK448.out 0; have hfz28_1 := zJ BK448.out 1; have hcz29_0 : w27.cell? ⟨gb449, 0, none⟩ = some (.int .i64 a3_0) := (zG BK449.out 0).trans rfl; have hcz29_1 : w27.cell? ⟨gb449, 1, none⟩ = some (.int .i64 a3_1) := (zG BK449.out 1).trans rfl; have hcz29_2 : w27.cell? ⟨gb449, 2, none⟩ = some (.int .u8 a3_2) := (zG BK449.out 2).trans rfl; have hcz29_3 : w27.cell? ⟨gb449, 3, none⟩ = some (.int .i64 a3_3) := (zG BK449.out 3).trans rfl; have hcz29_4 : w27.cell? ⟨gb449, 4, none⟩ = some (.int .i64 a3_4) := (zG BK449.out 4).trans rfl; have hcz29_5 : w27.cell? ⟨gb449, 5, none⟩ = some (.float .f64 a3_5) := (zG BK449.out 5).trans rfl; have hfz29_0 := zJ BK449.out 0; have hfz29_1 := zJ BK449.out 1; have hfz29_2 := zJ BK449.out 2; have hfz29_3 := zJ BK449.out 3; have hfz29_4 := zJ BK449.out 4; have hfz29_5 := zJ BK449.out 5) | ((with_reducible refine gate_callee (f := 45) rfl ?_); refine goesL_ (some 34) rfl rfl Try.func45 (by kernel_rfl) rfl #[.agg #[.slice A0_0 l0_0.length c0_0, .slice A0_1 l0_1.length c0_1], .int .i64 a1, .int .i64 a2, .agg #[.int .i64 a3_0, .int .i64 a3_1, .int .u8 a3_2, .int .i64 a3_3, .int .i64 a3_4, .float .f64 a3_5]] rfl (by (try simp only [List.map_toArray, List.map_cons, List.map_nil]); first | done | rfl | (simp only [List.length_drop, List.length_take]; rfl)) ?_; (with_reducible refine (stanzaref13_First.calls k _ _ l0_0 _ _ l0_1 a1 a2 a3_0 a3_1 a3_2 a3_3 a3_4 a3_5 t457 _ ?side1 ?side2 ?side3 ?side4 A21.out).mono ?_); (case side1 => repeat (first | exact (Kd.C_below HR0_0.out HB.out) | (with_reducible refine Kd.C_alloc ?_ _) | (with_reducible refine Kd.C_drewN ?_ _) | (with_reducible refine Kd.C_drew ?_))); (case side2 => exact HC0_0.out); (case side3 => repeat (first | exact (Kd.C_below HR0_1.out HB.out) | (with_reducible refine Kd.C_alloc ?_ _) | (with_reducible refine Kd.C_drewN ?_ _) | (with_reducible refine Kd.C_drew ?_))); (case side4 => exact HC0_1.out); rintro e w30 ⟨v458, rfl, ho0, hb⟩; refine ⟨_, rfl, ?_⟩; have n0_ := zA.mk (Kd.R_elder' (by (with_reducible repeat (first | apply Kd.R_alloc | apply Kd.R_drewN | apply Kd.R_drew)); exact HO455.out) (Kd.R_base ho0) hb); have n1_ := zA.mk (Kd.R_lower (Kd.R_new' ho0 (Kd.R_lt (by (with_reducible repeat (first | apply Kd.R_alloc | apply Kd.R_drewN | apply Kd.R_drew)); exact HO455.out))) (zK (by repeat (first | (with_reducible first | exact HB.out | apply zI | apply zF | apply zH | refine zE ?_ GE448.out | refine zE ?_ GE449.out) | exact HB.out)))); have n2_ := zA.mk (zL (g := gb448) (o := .cells #[.slice A0_0 l0_0.length c0_0, .slice A0_1 l0_1.length c0_1] 35 (0, 0)) (by (with_reducible repeat (first | refine zC ?_ _ | refine zD ?_ | refine zB ?_ _)); exact BK448.out) hb); have n3_ := zA.mk (zL (g := gb449) (o := .cells #[.int .i64 a3_0, .int .i64 a3_1, .int .u8 a3_2, .int .i64 a3_3, .int .i64 a3_4, .float .f64 a3_5] 58 (0, 0)) (by (with_reducible repeat (first | refine zC ?_ _ | refine zD ?_ | refine zB ?_ _)); exact BK449.out) hb); have n4_ := zA.mk (zO (by repeat (first | (with_reducible first | exact HB.out | apply zI | apply zF | apply zH | refine zE ?_ GE448.out | refine zE ?_ GE449.out) | exact HB.out)) hb); clear HO455; clear BK448; clear BK449; clear HB; have HO455 := n0_; have HO459 := n1_; have BK448 := n2_; have BK449 := n3_; have HB := n4_; clear n0_ n1_ n2_ n3_ n4_; (try clear hb); (try clear hb2); (try clear hk); (try clear hi); (try clear ho0)))
      go_ret2
      exact ⟨_, by first | rfl | (simp [errW_none, errW_some] <;> rfl) | (simp [*, errW_none, errW_some] <;> rfl), by (with_reducible repeat (first | apply Kd.R_alloc | apply Kd.R_drewN | apply Kd.R_drew)); exact Kd.R_mono HO459.out (fun _ hk => trivial), by repeat (first | (with_reducible first | exact HB.out | apply zI | apply zF | apply zH | refine zE ?_ GE448.out | refine zE ?_ GE449.out) | exact HB.out)⟩
end Go.Proofs.Ytbnoeeflpegcoaa.F
end
