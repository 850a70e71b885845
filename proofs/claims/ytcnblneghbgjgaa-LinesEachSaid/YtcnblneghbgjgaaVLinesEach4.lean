/- Printed by a program: Lean functions that answer as the Go functions do, and the proofs of it. -/
import Derived.Test.YtcnblneghbgjgaaVLinesEach0
import Derived.Test.YtcnblneghbgjgaaVLinesEach3
section
namespace Go.Proofs.Ytcnblneghbgjgaa.F
open Go.RowKit Go.Proofs.YtcnblneghbgjgaaW.PrintWords Go.Proofs.YtcnblneghbgjgaaW.PrintLast Go.Proofs.YtcnblneghbgjgaaW.PrintMore
attribute [local go_sem] max2_int min2_int max_two min_two max_three min_three max_four min_four   -- for this text's walks alone
set_option linter.unusedVariables false
set_option linter.unusedSimpArgs false
def r3_Cells.f (k : Nat) (l0_0 : List (S66)) (l0_1 : List Int) (a1 : Int) (a2 : Int) (a3 : Int) (a4 : Int) : Option (Int) := (r3_Trim.f k l0_0 l0_1 a1 a2).bind fun t408 => ((r3_Columns.f k l0_0 l0_1 a1 t408 a4).bind fun t409 => (if 0 ≤ (wrap64 ((t409.length : Int) - 1)) then (if (wrap64 ((t409.length : Int) - 1)) < (t409.length : Int) then (if a3 = 3 then (some (wrap64 ((rd t409 (wrap64 ((t409.length : Int) - 1))) + 1))) else (some (rd t409 (wrap64 ((t409.length : Int) - 1))))) else (none)) else (none)))
theorem r3_Cells.mono : ∀ a0 a1 a2 a3 a4 a5 k, LeO (r3_Cells.f k a0 a1 a2 a3 a4 a5) (r3_Cells.f (k + 1) a0 a1 a2 a3 a4 a5) := by
  intro a0 a1 a2 a3 a4 a5 k
  unfold r3_Cells.f
  repeat' (with_reducible first | exact r3_Columns.mono _ _ _ _ _ _ | exact r3_Trim.mono _ _ _ _ _ | exact LeO.refl _ | exact LeO.none _ | refine LeO.ite ?_ ?_ | refine LeO.bind ?_ (fun _ => ?_))
def r3_Cells.T1 : Bool × List (List Nat × List Nat) := (true, [([], []), ([], []), ([], []), ([], []), ([], []), ([2, 3, 4], [2, 3, 4]), ([], []), ([0, 1, 5, 6, 5], [0, 1, 5, 6]), ([7, 7, 0, 1, 2, 3, 4, 5, 6, 7], [7])])
def r3_Cells.B1 : List Nat := [0, 0, 0, 0, 0, 28, 0, 127, 255]
theorem r3_Cells.tab1 : rtab .any (opsOf Try.f32 1) = r3_Cells.T1 := by kernel_rfl
theorem r3_Cells.bits1 : waitsOk r3_Cells.T1.2 r3_Cells.B1 = true := by kernel_rfl
set_option maxHeartbeats 8000000 in
set_option maxRecDepth 100000 in
theorem r3_Cells.calls (k : Nat) (A0_0 : Option Addr) (c0_0 : Nat) (l0_0 : List (S66)) (A0_1 : Option Addr) (c0_1 : Nat) (l0_1 : List Int) (a1 : Int) (a2 : Int) (a3 : Int) (a4 : Int) (r : Int) (w : World) (hr0_0 : Kd.C k66 w A0_0 l0_0.length l0_0) (hc0_0 : l0_0.length ≤ c0_0) (hr0_1 : Kd.C (Kd.int .u8) w A0_1 l0_1.length l0_1) (hc0_1 : l0_1.length ≤ c0_1) (h : r3_Cells.f k l0_0 l0_1 a1 a2 a3 a4 = some r) :
    Calls Try.prog 32 #[.agg #[.slice A0_0 l0_0.length c0_0, .slice A0_1 l0_1.length c0_1], .int .i64 a1, .int .i64 a2, .int .u8 a3, .int .i64 a4] w fun e w' => e = .returned (.int .i64 r) ∧ Below w.heap.size w w' := by
  have hu31 := Try.underlying31; have HR0_0 := zA.mk hr0_0; have HC0_0 := zA.mk hc0_0; clear hr0_0 hc0_0; have HR0_1 := zA.mk hr0_1; have HC0_1 := zA.mk hc0_1; clear hr0_1 hc0_1; have HB := zA.mk (Below.refl w.heap.size w); have H : ((r3_Trim.f k l0_0 l0_1 a1 a2).bind fun t408 => ((r3_Columns.f k l0_0 l0_1 a1 t408 a4).bind fun t409 => (if 0 ≤ (wrap64 ((t409.length : Int) - 1)) then (if (wrap64 ((t409.length : Int) - 1)) < (t409.length : Int) then (if a3 = 3 then (some (wrap64 ((rd t409 (wrap64 ((t409.length : Int) - 1))) + 1))) else (some (rd t409 (wrap64 ((t409.length : Int) - 1))))) else (none)) else (none)))) = some r := h
  clear h; replace H := Option.bind_eq_some_iff.mp H; obtain ⟨t408, A60, H⟩ := H; replace H : ((r3_Columns.f k l0_0 l0_1 a1 t408 a4).bind fun t409 => (if 0 ≤ (wrap64 ((t409.length : Int) - 1)) then (if (wrap64 ((t409.length : Int) - 1)) < (t409.length : Int) then (if a3 = 3 then (some (wrap64 ((rd t409 (wrap64 ((t409.length : Int) - 1))) + 1))) else (some (rd t409 (wrap64 ((t409.length : Int) - 1))))) else (none)) else (none))) = some r := H
  have A6 := zA.mk A60; clear A60; replace H := Option.bind_eq_some_iff.mp H; obtain ⟨t409, A70, H⟩ := H; replace H : (if 0 ≤ (wrap64 ((t409.length : Int) - 1)) then (if (wrap64 ((t409.length : Int) - 1)) < (t409.length : Int) then (if a3 = 3 then (some (wrap64 ((rd t409 (wrap64 ((t409.length : Int) - 1))) + 1))) else (some (rd t409 (wrap64 ((t409.length : Int) - 1))))) else (none)) else (none)) = some r := H; have A7 := zA.mk A70; clear A70; obtain ⟨ji8, hji8⟩ : ∃ j_ : Int, (wrap64 ((t409.length : Int) - 1)) = j_ := ⟨_, rfl⟩; replace H : (if 0 ≤ (ji8) then (if (ji8) < (t409.length : Int) then (if a3 = 3 then (some (wrap64 ((rd t409 (ji8)) + 1))) else (some (rd t409 (ji8)))) else (none)) else (none)) = some r := by first | (rw [hji8] at H; exact H) | (simp only [hji8] at H ⊢; exact H)
  (try rw [hji8] at A6)
  (try rw [hji8] at A7)
  have hji8w : (IntKind.i64.wrap ((t409.length : Int) - 1)) = ji8 := (zM _).trans hji8
  by_cases c9 : 0 ≤ (ji8)
  rotate_left
  · rw [if_neg c9] at H
    exact absurd H (by simp)
  rw [if_pos c9] at H; have c9b0 : decide (0 ≤ (ji8)) = true := decide_eq_true c9
  clear c9; by_cases c10 : (ji8) < (t409.length : Int)
  rotate_left
  · rw [if_neg c10] at H
    exact absurd H (by simp)
  rw [if_pos c10] at H; have c10b0 : decide ((ji8) < (t409.length : Int)) = true := decide_eq_true c10
  clear c10; by_cases c11 : a3 = 3
  · rw [if_pos c11] at H
    have c11b0 : (a3 == 3) = true := beq_iff_eq.mpr c11
    have c11b1 : (a3 != 3) = false := bne_eq_false_iff_eq.mpr c11
    clear c11; obtain rfl := Option.some.inj H
    go_enter Try.func32, Try.ntmps32
    try go_wp2_with (first | ((with_reducible refine gate_dst (N := 5) rfl ?_); refine box_event ?hg (N := 5) ?hd (cs := #[.slice A0_0 l0_0.length c0_0, .slice A0_1 l0_1.length c0_1]) (t := 31) ?hr ?_; (case hd => rfl); (case hg => rfl); (case hr => first | (go_simp; done) | (go_simp; rfl)); intro gb407 hg w12 hbox hb; have n0_ := zA.mk (zN (by repeat (first | (with_reducible first | exact HB.out | apply zJ | apply zG | apply zI) | exact HB.out)) hb); have n1_ := zA.mk (hbox); have n2_ := zA.mk ((by rw [hg]; exact (zP (by repeat (first | (with_reducible first | exact HB.out | apply zJ | apply zG | apply zI) | exact HB.out))) : w.heap.size ≤ gb407)); have n3_ := n2_; clear HB; have HB := n0_; have BK407 := n1_; have GW407 := n2_; have GE407 := n3_; clear n0_ n1_ n2_ n3_; clear hb hbox hg))
    replace BK407 := zA.mk (zD BK407.out); replace HB := zA.mk (zI HB.out); refine start_ (n := 9) (S := fun w' => w'.cell? ⟨gb407, 0, none⟩ = some (.slice A0_0 l0_0.length c0_0) ∧ w'.cell? ⟨gb407, 1, none⟩ = some (.slice A0_1 l0_1.length c0_1)) (ds := []) #[false, false, false, false, false, false, false, false, false] (by kernel_rfl) rfl rfl ⟨(zE BK407.out 0).trans rfl, (zE BK407.out 1).trans rfl⟩ (fun hHeld => ?_); refine with_tabW r3_Cells.tab1 r3_Cells.bits1 (fun HT_ HW_ => ?_)
    generalize w12.drew = w13 at BK407 HB hHeld ⊢
    refine pure_ (i := 1) (N := some 14) (v := ?_) (a' := ?_) (tb_ 2 9) rfl rfl (any_of HT_.out (by kernel_rfl)) (fun _ _ _ h => h) (Or.inl ⟨by rfl, ?_⟩) ?_ ?_
    rotate_left
    · intro w'
      go_simp
      with_reducible rfl
    rotate_left
    · simp only [Act.put, sA_, sB_, sC_, zM, zO]
      rfl
    refine pure_ (i := 3) (N := some 16) (v := ?_) (a' := ?_) (tb_ 10 9) rfl rfl (any_of HT_.out (by kernel_rfl)) (fun _ _ _ h => h) (Or.inl ⟨by rfl, ?_⟩) ?_ ?_
    rotate_left
    · intro w'
      go_simp
      with_reducible rfl
    rotate_left
    · simp only [Act.put, sA_, sB_, sC_, zM, zO]
      rfl
    refine pure_ (i := 4) (N := some 17) (v := ?_) (a' := ?_) (tb_ 26 9) rfl rfl (any_of HT_.out (by kernel_rfl)) (fun _ _ _ h => h) (Or.inl ⟨by rfl, ?_⟩) ?_ ?_
    rotate_left
    · intro w'
      go_simp
      with_reducible rfl
    rotate_left
    · simp only [Act.put, sA_, sB_, sC_, zM, zO]
      rfl
    refine pure_ (i := 6) (N := some 19) (v := ?_) (a' := ?_) (tb_ 90 9) rfl rfl (any_of HT_.out (by kernel_rfl)) (fun _ _ _ h => h) (Or.inl ⟨by rfl, ?_⟩) ?_ ?_
    rotate_left
    · intro w'
      go_simp
      with_reducible rfl
    rotate_left
    · simp only [Act.put, sA_, sB_, sC_, zM, zO]
      rfl
    refine take_ (i := 0) (N := some 13) (v := ?_) (a' := ?_) (tb_ 91 9) rfl rfl (take_ofW HT_.out HW_.out (by kernel_rfl)) (fun _ _ _ h => h) (Or.inl ⟨by rfl, ?_⟩) hHeld ?_ ?_
    rotate_left
    · rintro w' ⟨s0, s1⟩
      go_simp
      with_reducible rfl
    rotate_left
    · simp only [Act.put, sA_, sB_, sC_, zM, zO]
      rfl
    refine take_ (i := 2) (N := some 15) (v := ?_) (a' := ?_) (tb_ 95 9) rfl rfl (take_ofW HT_.out HW_.out (by kernel_rfl)) (fun _ _ _ h => h) (Or.inl ⟨by rfl, ?_⟩) hHeld ?_ ?_
    rotate_left
    · rintro w' ⟨s0, s1⟩
      go_simp
      with_reducible rfl
    rotate_left
    · simp only [Act.put, sA_, sB_, sC_, zM, zO]
      rfl
    refine one_ (i := 5) (N := some 18) (tb_ 127 9) rfl rfl (one_of HT_.out (by kernel_rfl)) (by decide) (fun K hK => ?_)
    refine goes_ Try.func45 (by kernel_rfl) rfl #[.agg #[.slice A0_0 l0_0.length c0_0, .slice A0_1 l0_1.length c0_1], .int .i64 a1, .int .i64 a2] (by rfl) rfl rfl (by (try simp only [List.map_toArray, List.map_cons, List.map_nil]); first | done | rfl | (simp only [List.length_drop, List.length_take]; rfl)) ?_
    with_reducible refine (r3_Trim.calls k _ _ l0_0 _ _ l0_1 a1 a2 t408 _ ?side1 ?side2 ?side3 ?side4 A6.out).mono ?_
    (case side1 => repeat (first | exact (Kd.zW HR0_0.out HB.out) | (with_reducible refine Kd.zT ?_ _) | (with_reducible refine Kd.zU ?_ _) | (with_reducible refine Kd.zV ?_)))
    (case side2 => exact HC0_0.out)
    (case side3 => repeat (first | exact (Kd.zW HR0_1.out HB.out) | (with_reducible refine Kd.zT ?_ _) | (with_reducible refine Kd.zU ?_ _) | (with_reducible refine Kd.zV ?_)))
    (case side4 => exact HC0_1.out)
    rintro e w14 ⟨rfl, hb⟩
    refine ⟨_, rfl, ?_⟩
    replace BK407 := zA.mk (zK (by (with_reducible repeat (first | refine zC ?_ _ | refine zD ?_ | refine zB ?_ _)); exact BK407.out) hb)
    replace HB := zA.mk (zN (by repeat (first | (with_reducible first | exact HB.out | apply zJ | apply zG | apply zI | refine zF ?_ GE407.out) | exact HB.out)) hb)
    (try clear hb)
    (try clear hb2)
    (try clear hk)
    (try clear hi)
    refine hK.out _ _ ⟨(zE BK407.out 0).trans rfl, (zE BK407.out 1).trans rfl⟩ (fun hHeld => ?_)
    clear hK K; refine norm_ (a' := ?_) ?_ ?_
    rotate_left
    · show Act.put _ (some 18) _ = _
      simp only [Act.put, sA_, sB_, sC_, zM, zO]; rfl
    refine one_ (i := 7) (N := some 20) (tb_ 255 9) rfl rfl (one_of HT_.out (by kernel_rfl)) (by decide) (fun K hK => ?_)
    refine goes_ Try.func44 (by kernel_rfl) rfl #[.agg #[.slice A0_0 l0_0.length c0_0, .slice A0_1 l0_1.length c0_1], .int .i64 a1, .int .i64 t408, .int .i64 a4] (by rfl) rfl rfl (by (try simp only [List.map_toArray, List.map_cons, List.map_nil]); first | done | rfl | (simp only [List.length_drop, List.length_take]; rfl)) ?_
    with_reducible refine (r3_Columns.calls k _ _ l0_0 _ _ l0_1 a1 t408 a4 t409 _ ?side1 ?side2 ?side3 ?side4 A7.out).mono ?_
    (case side1 => repeat (first | exact (Kd.zW HR0_0.out HB.out) | (with_reducible refine Kd.zT ?_ _) | (with_reducible refine Kd.zU ?_ _) | (with_reducible refine Kd.zV ?_)))
    (case side2 => exact HC0_0.out)
    (case side3 => repeat (first | exact (Kd.zW HR0_1.out HB.out) | (with_reducible refine Kd.zT ?_ _) | (with_reducible refine Kd.zU ?_ _) | (with_reducible refine Kd.zV ?_)))
    (case side4 => exact HC0_1.out)
    rintro e w15 ⟨v410, rfl, ho0, hb⟩
    refine ⟨_, rfl, ?_⟩
    have HO411 := zA.mk (Kd.zAb ho0 (zP (by repeat (first | (with_reducible first | exact HB.out | apply zJ | apply zG | apply zI | refine zF ?_ GE407.out) | exact HB.out))))
    replace BK407 := zA.mk (zK (by (with_reducible repeat (first | refine zC ?_ _ | refine zD ?_ | refine zB ?_ _)); exact BK407.out) hb)
    replace HB := zA.mk (zN (by repeat (first | (with_reducible first | exact HB.out | apply zJ | apply zG | apply zI | refine zF ?_ GE407.out) | exact HB.out)) hb)
    (try clear hb)
    (try clear hb2)
    (try clear hk)
    (try clear hi)
    (try clear ho0)
    refine hK.out _ _ ⟨(zE BK407.out 0).trans rfl, (zE BK407.out 1).trans rfl⟩ (fun hHeld => ?_)
    clear hK K; refine norm_ (a' := ?_) ?_ ?_
    rotate_left
    · show Act.put _ (some 20) _ = _
      simp only [Act.put, sA_, sB_, sC_, zM, zO]; rfl
    refine pure_ (i := 8) (N := some 11) (v := ?_) (a' := ?_) (tb_ 511 9) rfl rfl (any_of HT_.out (by kernel_rfl)) (fun _ _ _ h => h) (Or.inl ⟨by rfl, ?_⟩) ?_ ?_
    rotate_left
    · intro w'
      go_simp
      with_reducible rfl
    rotate_left
    · simp only [Act.put, sA_, sB_, sC_, zM, zO]
      rfl
    refine done_ (done_of HT_.out (by kernel_rfl)) ?_
    obtain ⟨Ao16, co16, eo16⟩ := Kd.zAa HO411.out; subst eo16; have p412 : 0 ≤ ((ji8) : Int) := of_decide_eq_true (by first | (with_reducible assumption) | assumption)
    have q412 : (ji8) < (t409.length : Int) := of_decide_eq_true (by first | (with_reducible assumption) | assumption)
    obtain ⟨ad412, e412, hx412_0⟩ := Kd.at_int (Kd.zX HO411.out).2.2 (ji8) p412 q412; cases e412
    replace p412 := eq_true p412; replace q412 := eq_true q412; try go_wp2
    go_ret
    exact ⟨by first | rfl | (simp [errW_none, errW_some] <;> rfl) | (simp only [← hji8]; first | rfl | (simp [errW_none, errW_some] <;> rfl)) | (simp [*, errW_none, errW_some] <;> rfl), by repeat (first | (with_reducible first | exact HB.out | apply zJ | apply zG | apply zI | refine zF ?_ GE407.out) | exact HB.out)⟩
  rw [if_neg c11] at H; have c11b0 : (a3 == 3) = false := beq_eq_false_iff_ne.mpr c11
  have c11b1 : (a3 != 3) = true := bne_iff_ne.mpr c11
  obtain rfl := Option.some.inj H
  go_enter Try.func32, Try.ntmps32
  try go_wp2_with (first | ((with_reducible refine gate_dst (N := 5) rfl ?_); refine box_event ?hg (N := 5) ?hd (cs := #[.slice A0_0 l0_0.length c0_0, .slice A0_1 l0_1.length c0_1]) (t := 31) ?hr ?_; (case hd => rfl); (case hg => rfl); (case hr => first | (go_simp; done) | (go_simp; rfl)); intro gb407 hg w17 hbox hb; have n0_ := zA.mk (zN (by repeat (first | (with_reducible first | exact HB.out | apply zJ | apply zG | apply zI) | exact HB.out)) hb); have n1_ := zA.mk (hbox); have n2_ := zA.mk ((by rw [hg]; exact (zP (by repeat (first | (with_reducible first | exact HB.out | apply zJ | apply zG | apply zI) | exact HB.out))) : w.heap.size ≤ gb407)); have n3_ := n2_; clear HB; have HB := n0_; have BK407 := n1_; have GW407 := n2_; have GE407 := n3_; clear n0_ n1_ n2_ n3_; clear hb hbox hg))
  replace BK407 := zA.mk (zD BK407.out); replace HB := zA.mk (zI HB.out); refine start_ (n := 9) (S := fun w' => w'.cell? ⟨gb407, 0, none⟩ = some (.slice A0_0 l0_0.length c0_0) ∧ w'.cell? ⟨gb407, 1, none⟩ = some (.slice A0_1 l0_1.length c0_1)) (ds := []) #[false, false, false, false, false, false, false, false, false] (by kernel_rfl) rfl rfl ⟨(zE BK407.out 0).trans rfl, (zE BK407.out 1).trans rfl⟩ (fun hHeld => ?_); refine with_tabW r3_Cells.tab1 r3_Cells.bits1 (fun HT_ HW_ => ?_)
  generalize w17.drew = w18 at BK407 HB hHeld ⊢
  refine pure_ (i := 1) (N := some 14) (v := ?_) (a' := ?_) (tb_ 2 9) rfl rfl (any_of HT_.out (by kernel_rfl)) (fun _ _ _ h => h) (Or.inl ⟨by rfl, ?_⟩) ?_ ?_
  rotate_left
  · intro w'
    go_simp
    with_reducible rfl
  rotate_left
  · simp only [Act.put, sA_, sB_, sC_, zM, zO]
    rfl
  refine pure_ (i := 3) (N := some 16) (v := ?_) (a' := ?_) (tb_ 10 9) rfl rfl (any_of HT_.out (by kernel_rfl)) (fun _ _ _ h => h) (Or.inl ⟨by rfl, ?_⟩) ?_ ?_
  rotate_left
  · intro w'
    go_simp
    with_reducible rfl
  rotate_left
  · simp only [Act.put, sA_, sB_, sC_, zM, zO]
    rfl
  refine pure_ (i := 4) (N := some 17) (v := ?_) (a' := ?_) (tb_ 26 9) rfl rfl (any_of HT_.out (by kernel_rfl)) (fun _ _ _ h => h) (Or.inl ⟨by rfl, ?_⟩) ?_ ?_
  rotate_left
  · intro w'
    go_simp
    with_reducible rfl
  rotate_left
  · simp only [Act.put, sA_, sB_, sC_, zM, zO]
    rfl
  refine pure_ (i := 6) (N := some 19) (v := ?_) (a' := ?_) (tb_ 90 9) rfl rfl (any_of HT_.out (by kernel_rfl)) (fun _ _ _ h => h) (Or.inl ⟨by rfl, ?_⟩) ?_ ?_
  rotate_left
  · intro w'
    go_simp
    with_reducible rfl
  rotate_left
  · simp only [Act.put, sA_, sB_, sC_, zM, zO]
    rfl
  refine take_ (i := 0) (N := some 13) (v := ?_) (a' := ?_) (tb_ 91 9) rfl rfl (take_ofW HT_.out HW_.out (by kernel_rfl)) (fun _ _ _ h => h) (Or.inl ⟨by rfl, ?_⟩) hHeld ?_ ?_
  rotate_left
  · rintro w' ⟨s0, s1⟩
    go_simp
    with_reducible rfl
  rotate_left
  · simp only [Act.put, sA_, sB_, sC_, zM, zO]
    rfl
  refine take_ (i := 2) (N := some 15) (v := ?_) (a' := ?_) (tb_ 95 9) rfl rfl (take_ofW HT_.out HW_.out (by kernel_rfl)) (fun _ _ _ h => h) (Or.inl ⟨by rfl, ?_⟩) hHeld ?_ ?_
  rotate_left
  · rintro w' ⟨s0, s1⟩
    go_simp
    with_reducible rfl
  rotate_left
  · simp only [Act.put, sA_, sB_, sC_, zM, zO]
    rfl
  refine one_ (i := 5) (N := some 18) (tb_ 127 9) rfl rfl (one_of HT_.out (by kernel_rfl)) (by decide) (fun K hK => ?_)
  refine goes_ Try.func45 (by kernel_rfl) rfl #[.agg #[.slice A0_0 l0_0.length c0_0, .slice A0_1 l0_1.length c0_1], .int .i64 a1, .int .i64 a2] (by rfl) rfl rfl (by (try simp only [List.map_toArray, List.map_cons, List.map_nil]); first | done | rfl | (simp only [List.length_drop, List.length_take]; rfl)) ?_
  with_reducible refine (r3_Trim.calls k _ _ l0_0 _ _ l0_1 a1 a2 t408 _ ?side1 ?side2 ?side3 ?side4 A6.out).mono ?_
  (case side1 => repeat (first | exact (Kd.zW HR0_0.out HB.out) | (with_reducible refine Kd.zT ?_ _) | (with_reducible refine Kd.zU ?_ _) | (with_reducible refine Kd.zV ?_)))
  (case side2 => exact HC0_0.out)
  (case side3 => repeat (first | exact (Kd.zW HR0_1.out HB.out) | (with_reducible refine Kd.zT ?_ _) | (with_reducible refine Kd.zU ?_ _) | (with_reducible refine Kd.zV ?_)))
  (case side4 => exact HC0_1.out)
  rintro e w19 ⟨rfl, hb⟩
  refine ⟨_, rfl, ?_⟩
  replace BK407 := zA.mk (zK (by (with_reducible repeat (first | refine zC ?_ _ | refine zD ?_ | refine zB ?_ _)); exact BK407.out) hb)
  replace HB := zA.mk (zN (by repeat (first | (with_reducible first | exact HB.out | apply zJ | apply zG | apply zI | refine zF ?_ GE407.out) | exact HB.out)) hb)
  (try clear hb)
  (try clear hb2)
  (try clear hk)
  (try clear hi)
  refine hK.out _ _ ⟨(zE BK407.out 0).trans rfl, (zE BK407.out 1).trans rfl⟩ (fun hHeld => ?_)
  clear hK K; refine norm_ (a' := ?_) ?_ ?_
  rotate_left
  · show Act.put _ (some 18) _ = _
    simp only [Act.put, sA_, sB_, sC_, zM, zO]; rfl
  refine one_ (i := 7) (N := some 20) (tb_ 255 9) rfl rfl (one_of HT_.out (by kernel_rfl)) (by decide) (fun K hK => ?_)
  refine goes_ Try.func44 (by kernel_rfl) rfl #[.agg #[.slice A0_0 l0_0.length c0_0, .slice A0_1 l0_1.length c0_1], .int .i64 a1, .int .i64 t408, .int .i64 a4] (by rfl) rfl rfl (by (try simp only [List.map_toArray, List.map_cons, List.map_nil]); first | done | rfl | (simp only [List.length_drop, List.length_take]; rfl)) ?_
  with_reducible refine (r3_Columns.calls k _ _ l0_0 _ _ l0_1 a1 t408 a4 t409 _ ?side1 ?side2 ?side3 ?side4 A7.out).mono ?_
  (case side1 => repeat (first | exact (Kd.zW HR0_0.out HB.out) | (with_reducible refine Kd.zT ?_ _) | (with_reducible refine Kd.zU ?_ _) | (with_reducible refine Kd.zV ?_)))
  (case side2 => exact HC0_0.out)
  (case side3 => repeat (first | exact (Kd.zW HR0_1.out HB.out) | (with_reducible refine Kd.zT ?_ _) | (with_reducible refine Kd.zU ?_ _) | (with_reducible refine Kd.zV ?_)))
  (case side4 => exact HC0_1.out)
  rintro e w20 ⟨v410, rfl, ho0, hb⟩
  refine ⟨_, rfl, ?_⟩
  have HO411 := zA.mk (Kd.zAb ho0 (zP (by repeat (first | (with_reducible first | exact HB.out | apply zJ | apply zG | apply zI | refine zF ?_ GE407.out) | exact HB.out))))
  replace BK407 := zA.mk (zK (by (with_reducible repeat (first | refine zC ?_ _ | refine zD ?_ | refine zB ?_ _)); exact BK407.out) hb)
  replace HB := zA.mk (zN (by repeat (first | (with_reducible first | exact HB.out | apply zJ | apply zG | apply zI | refine zF ?_ GE407.out) | exact HB.out)) hb)
  (try clear hb)
  (try clear hb2)
  (try clear hk)
  (try clear hi)
  (try clear ho0)
  refine hK.out _ _ ⟨(zE BK407.out 0).trans rfl, (zE BK407.out 1).trans rfl⟩ (fun hHeld => ?_)
  clear hK K; refine norm_ (a' := ?_) ?_ ?_
  rotate_left
  · show Act.put _ (some 20) _ = _
    simp only [Act.put, sA_, sB_, sC_, zM, zO]; rfl
  refine pure_ (i := 8) (N := some 11) (v := ?_) (a' := ?_) (tb_ 511 9) rfl rfl (any_of HT_.out (by kernel_rfl)) (fun _ _ _ h => h) (Or.inl ⟨by rfl, ?_⟩) ?_ ?_
  rotate_left
  · intro w'
    go_simp
    with_reducible rfl
  rotate_left
  · simp only [Act.put, sA_, sB_, sC_, zM, zO]
    rfl
  refine done_ (done_of HT_.out (by kernel_rfl)) ?_
  obtain ⟨Ao21, co21, eo21⟩ := Kd.zAa HO411.out; subst eo21; have p412 : 0 ≤ ((ji8) : Int) := of_decide_eq_true (by first | (with_reducible assumption) | assumption)
  have q412 : (ji8) < (t409.length : Int) := of_decide_eq_true (by first | (with_reducible assumption) | assumption)
  obtain ⟨ad412, e412, hx412_0⟩ := Kd.at_int (Kd.zX HO411.out).2.2 (ji8) p412 q412; cases e412
  replace p412 := eq_true p412; replace q412 := eq_true q412; try go_wp2
  go_ret
  exact ⟨by first | rfl | (simp [errW_none, errW_some] <;> rfl) | (simp only [← hji8]; first | rfl | (simp [errW_none, errW_some] <;> rfl)) | (simp [*, errW_none, errW_some] <;> rfl), by repeat (first | (with_reducible first | exact HB.out | apply zJ | apply zG | apply zI | refine zF ?_ GE407.out) | exact HB.out)⟩
def r3_Line.f (k : Nat) (l0_0 : List (S66)) (l0_1 : List Int) (a1 : Int) (a2 : Int) (a3 : Int) (a4 : Int) : Option (Int × Int × Int × Int) := (r3_Cells.f k l0_0 l0_1 a1 a2 a3 a4).bind fun t415 => (some (a1, a2, t415, a3))
theorem r3_Line.mono : ∀ a0 a1 a2 a3 a4 a5 k, LeO (r3_Line.f k a0 a1 a2 a3 a4 a5) (r3_Line.f (k + 1) a0 a1 a2 a3 a4 a5) := by
  intro a0 a1 a2 a3 a4 a5 k
  unfold r3_Line.f
  repeat' (with_reducible first | exact r3_Cells.mono _ _ _ _ _ _ _ | exact LeO.refl _ | exact LeO.none _ | refine LeO.ite ?_ ?_ | refine LeO.bind ?_ (fun _ => ?_))
set_option maxHeartbeats 8000000 in
set_option maxRecDepth 100000 in
theorem r3_Line.calls (k : Nat) (A0_0 : Option Addr) (c0_0 : Nat) (l0_0 : List (S66)) (A0_1 : Option Addr) (c0_1 : Nat) (l0_1 : List Int) (a1 : Int) (a2 : Int) (a3 : Int) (a4 : Int) (r1 : Int) (r2 : Int) (r3 : Int) (r4 : Int) (w : World) (hr0_0 : Kd.C k66 w A0_0 l0_0.length l0_0) (hc0_0 : l0_0.length ≤ c0_0) (hr0_1 : Kd.C (Kd.int .u8) w A0_1 l0_1.length l0_1) (hc0_1 : l0_1.length ≤ c0_1) (h : r3_Line.f k l0_0 l0_1 a1 a2 a3 a4 = some (r1, r2, r3, r4)) :
    Calls Try.prog 24 #[.agg #[.slice A0_0 l0_0.length c0_0, .slice A0_1 l0_1.length c0_1], .int .i64 a1, .int .i64 a2, .int .u8 a3, .int .i64 a4] w fun e w' => e = .returned (.agg #[.int .i64 r1, .int .i64 r2, .int .i64 r3, .int .u8 r4]) ∧ Below w.heap.size w w' := by
  have hu31 := Try.underlying31; have hu54 := Try.underlying54; have HR0_0 := zA.mk hr0_0; have HC0_0 := zA.mk hc0_0; clear hr0_0 hc0_0; have HR0_1 := zA.mk hr0_1; have HC0_1 := zA.mk hc0_1; clear hr0_1 hc0_1; have HB := zA.mk (Below.refl w.heap.size w); have H : ((r3_Cells.f k l0_0 l0_1 a1 a2 a3 a4).bind fun t415 => (some (a1, a2, t415, a3))) = some (r1, r2, r3, r4) := h
  clear h; replace H := Option.bind_eq_some_iff.mp H; obtain ⟨t415, A60, H⟩ := H; replace H : (some (a1, a2, t415, a3)) = some (r1, r2, r3, r4) := H; have A6 := zA.mk A60; clear A60; simp only [Option.some.injEq, Prod.mk.injEq] at H; obtain ⟨rfl, rfl, rfl, rfl⟩ := H; go_enter Try.func24, Try.ntmps24
  go_wp2_with (first | ((with_reducible refine gate_dst (N := 5) rfl ?_); refine box_event ?hg (N := 5) ?hd (cs := #[.slice A0_0 l0_0.length c0_0, .slice A0_1 l0_1.length c0_1]) (t := 31) ?hr ?_; (case hd => rfl); (case hg => rfl); (case hr => first | (go_simp; done) | (go_simp; rfl)); intro gb413 hg w7 hbox hb; have n0_ := zA.mk (zN (by repeat (first | (with_reducible first | exact HB.out | apply zJ | apply zG | apply zI) | exact HB.out)) hb); have n1_ := zA.mk (hbox); have n2_ := zA.mk ((by rw [hg]; exact (zP (by repeat (first | (with_reducible first | exact HB.out | apply zJ | apply zG | apply zI) | exact HB.out))) : w.heap.size ≤ gb413)); have n3_ := n2_; clear HB; have HB := n0_; have BK413 := n1_; have GW413 := n2_; have GE413 := n3_; clear n0_ n1_ n2_ n3_; clear hb hbox hg) | ((with_reducible refine gate_dst (N := 10) rfl ?_); refine box_event ?hg (N := 10) ?hd (cs := #[.int .i64 0, .int .i64 0, .int .i64 0, .int .u8 0]) (t := 54) ?hr ?_; (case hd => rfl); (case hg => rfl); (case hr => first | (go_simp; done) | (go_simp; rfl)); intro gb414 hg w8 hbox hb; have n0_ := zA.mk (zK (by (with_reducible repeat (first | refine zC ?_ _ | refine zD ?_ | refine zB ?_ _)); exact BK413.out) hb); have n1_ := zA.mk (zN (by repeat (first | (with_reducible first | exact HB.out | apply zJ | apply zG | apply zI | refine zF ?_ GE413.out) | exact HB.out)) hb); have n2_ := zA.mk (hbox); have n3_ := zA.mk ((by rw [hg]; exact (zP (by repeat (first | (with_reducible first | exact HB.out | apply zJ | apply zG | apply zI | refine zF ?_ GE413.out) | exact HB.out))) : w.heap.size ≤ gb414)); have n4_ := n3_; have n5_ := zA.mk ((by rw [hg]; exact Nat.ne_of_lt (blk_lt (by (with_reducible repeat (first | refine zC ?_ _ | refine zD ?_ | refine zB ?_ _)); exact BK413.out)) : gb413 ≠ gb414)); have n6_ := zA.mk n5_.out.symm; clear BK413; clear HB; have BK413 := n0_; have HB := n1_; have BK414 := n2_; have GW414 := n3_; have GE414 := n4_; have NB413_414 := n5_; have NB414_413 := n6_; clear n0_ n1_ n2_ n3_ n4_ n5_ n6_; clear hb hbox hg; have hnb9 := NB413_414.out; have hnc9 := NB414_413.out; have hcz10_0 : w8.cell? ⟨gb413, 0, none⟩ = some (.slice A0_0 l0_0.length c0_0) := (zE BK413.out 0).trans rfl; have hcz10_1 : w8.cell? ⟨gb413, 1, none⟩ = some (.slice A0_1 l0_1.length c0_1) := (zE BK413.out 1).trans rfl; have hfz10_0 := zH BK413.out 0; have hfz10_1 := zH BK413.out 1) | ((with_reducible refine gate_callee (f := 32) rfl ?_); refine goesL_ (some 18) rfl rfl Try.func32 (by kernel_rfl) rfl #[.agg #[.slice A0_0 l0_0.length c0_0, .slice A0_1 l0_1.length c0_1], .int .i64 a1, .int .i64 a2, .int .u8 a3, .int .i64 a4] rfl (by (try simp only [List.map_toArray, List.map_cons, List.map_nil]); first | done | rfl | (simp only [List.length_drop, List.length_take]; rfl)) ?_; (with_reducible refine (r3_Cells.calls k _ _ l0_0 _ _ l0_1 a1 a2 a3 a4 t415 _ ?side1 ?side2 ?side3 ?side4 A6.out).mono ?_); (case side1 => repeat (first | exact (Kd.zW HR0_0.out HB.out) | (with_reducible refine Kd.zT ?_ _) | (with_reducible refine Kd.zU ?_ _) | (with_reducible refine Kd.zV ?_))); (case side2 => exact HC0_0.out); (case side3 => repeat (first | exact (Kd.zW HR0_1.out HB.out) | (with_reducible refine Kd.zT ?_ _) | (with_reducible refine Kd.zU ?_ _) | (with_reducible refine Kd.zV ?_))); (case side4 => exact HC0_1.out); rintro e w11 ⟨rfl, hb⟩; refine ⟨_, rfl, ?_⟩; replace BK413 := zA.mk (zK (by (with_reducible repeat (first | refine zC ?_ _ | refine zD ?_ | refine zB ?_ _)); exact BK413.out) hb); replace BK414 := zA.mk (zK (by (with_reducible repeat (first | refine zC ?_ _ | refine zD ?_ | refine zB ?_ _)); exact BK414.out) hb); replace HB := zA.mk (zN (by repeat (first | (with_reducible first | exact HB.out | apply zJ | apply zG | apply zI | refine zF ?_ GE413.out | refine zF ?_ GE414.out) | exact HB.out)) hb); (try clear hb); (try clear hb2); (try clear hk); (try clear hi); have hcz12_0 : w11.cell? ⟨gb414, 0, none⟩ = some (.int .i64 0) := (zE BK414.out 0).trans rfl; have hcz12_1 : w11.cell? ⟨gb414, 1, none⟩ = some (.int .i64 0) := (zE BK414.out 1).trans rfl; have hcz12_2 : w11.cell? ⟨gb414, 2, none⟩ = some (.int .i64 0) := (zE BK414.out 2).trans rfl; have hcz12_3 : w11.cell? ⟨gb414, 3, none⟩ = some (.int .u8 0) := (zE BK414.out 3).trans rfl; have hfz12_0 := zH BK414.out 0; have hfz12_1 := zH BK414.out 1; have hfz12_2 := zH BK414.out 2; have hfz12_3 := zH BK414.out 3) | ((with_reducible refine gate_store (t := 54) (p := 10) rfl ?_); refine store_event (t := 54) (p := 10) (v := ?vo_w13) (w1 := ((((w11.setCell ⟨gb414, 0, none⟩ (.int .i64 a1)).setCell ⟨gb414, 1, none⟩ (.int .i64 a2)).setCell ⟨gb414, 2, none⟩ (.int .i64 t415)).setCell ⟨gb414, 3, none⟩ (.int .u8 a3))) ?hg ?ho ?hn ?hr ?_; (case ho => rfl); (case hg => rfl); (case hn => rfl); (case hr => first | (go_simp; done) | (go_simp; rfl)); intro w13 hw; have n0_ : zA (w13.heap[gb413]? = some (.cells #[.slice A0_0 l0_0.length c0_0, .slice A0_1 l0_1.length c0_1] 31 (0, 0))) := ⟨(by rw [hw]; exact (by (with_reducible repeat (first | refine zC ?_ _ | refine zD ?_ | refine zB ?_ _)); refine zL ?_ NB413_414.out _; (with_reducible repeat (first | refine zC ?_ _ | refine zD ?_ | refine zB ?_ _)); refine zL ?_ NB413_414.out _; (with_reducible repeat (first | refine zC ?_ _ | refine zD ?_ | refine zB ?_ _)); refine zL ?_ NB413_414.out _; (with_reducible repeat (first | refine zC ?_ _ | refine zD ?_ | refine zB ?_ _)); refine zL ?_ NB413_414.out _; (with_reducible repeat (first | refine zC ?_ _ | refine zD ?_ | refine zB ?_ _)); exact BK413.out))⟩; have n1_ : zA (w13.heap[gb414]? = some (.cells #[.int .i64 a1, .int .i64 a2, .int .i64 t415, .int .u8 a3] 54 (0, 0))) := ⟨(by rw [hw]; exact (by (with_reducible repeat (first | refine zC ?_ _ | refine zD ?_ | refine zB ?_ _)); refine blk_put (cs := #[.int .i64 a1, .int .i64 a2, .int .i64 t415, .int .u8 0]) ?_ 3 _ rfl; (with_reducible repeat (first | refine zC ?_ _ | refine zD ?_ | refine zB ?_ _)); refine blk_put (cs := #[.int .i64 a1, .int .i64 a2, .int .i64 0, .int .u8 0]) ?_ 2 _ rfl; (with_reducible repeat (first | refine zC ?_ _ | refine zD ?_ | refine zB ?_ _)); refine blk_put (cs := #[.int .i64 a1, .int .i64 0, .int .i64 0, .int .u8 0]) ?_ 1 _ rfl; (with_reducible repeat (first | refine zC ?_ _ | refine zD ?_ | refine zB ?_ _)); refine blk_put (cs := #[.int .i64 0, .int .i64 0, .int .i64 0, .int .u8 0]) ?_ 0 _ rfl; (with_reducible repeat (first | refine zC ?_ _ | refine zD ?_ | refine zB ?_ _)); exact BK414.out))⟩; have n2_ : zA (Below w.heap.size w w13) := ⟨(by rw [hw]; exact (by repeat (first | (with_reducible first | exact HB.out | apply zJ | apply zG | apply zI | refine zF ?_ GE413.out | refine zF ?_ GE414.out) | exact HB.out)))⟩; clear hw; clear BK413; clear BK414; clear HB; have BK413 := n0_; have BK414 := n1_; have HB := n2_; clear n0_ n1_ n2_))
  refine bodyPost_ret (results_cell_row rfl _ _ gb414 54 #[.int .i64 a1, .int .i64 a2, .int .i64 t415, .int .u8 a3] (0, 0) _ rfl (by (with_reducible repeat (first | refine zC ?_ _ | refine zD ?_ | refine zB ?_ _)); exact BK414.out) Try.underlying54 rfl (by kernel_rfl)) rfl ?_
  exact ⟨by first | rfl | (simp [errW_none, errW_some] <;> rfl) | (simp [*, errW_none, errW_some] <;> rfl), by repeat (first | (with_reducible first | exact HB.out | apply zJ | apply zG | apply zI | refine zF ?_ GE413.out | refine zF ?_ GE414.out) | exact HB.out)⟩
def r2_Of.f (a0 : Int) (a1 : Int) : Option Nat := some (fop .quo (floatOfInt .f64 a0) (floatOfInt .f64 a1))
set_option maxHeartbeats 8000000 in
set_option maxRecDepth 100000 in
theorem r2_Of.calls (a0 : Int) (a1 : Int) (r : Nat) (w : World) (h : r2_Of.f a0 a1 = some r) :
    Calls Try.prog 33 #[.int .i64 a0, .int .i64 a1] w fun e w' => ∃ b_ : Nat, e = .returned (.float .f64 b_) ∧ Drawn0 w w' ∧ FR r b_ := by
  have hu3 : (Try.prog.underlying 3).isSome = true := by kernel_rfl
  have hu24 := Try.underlying24; obtain rfl := Option.some.inj h
  obtain ⟨b, m, hrun, hb⟩ := run_rough (P := Try.prog) w .quo (by simp) 24 (floatOfInt .f64 a0) (floatOfInt .f64 a1)
  go_enter Try.func33, Try.ntmps33
  go_wp2
  go_ret
  exact ⟨b, rfl, ⟨⟨m, rfl⟩⟩, fr_fop hb⟩
def r3_Gaps.l0 : Nat → Int → Int → Int → Int → List (S66) → List Int → Option (Int)
  | 0, _, _, _, _, _, _ => none
  | k + 1, x1, x2, x7, x8, x417000, x417001 => (r3_Trim.f k x417000 x417001 x1 x2).bind fun t417 => (if x8 < t417 then (if 0 ≤ x8 then (if x8 < (x417000.length : Int) then (if ((rd_T66 x417000 x8).f3) = 1 then (r3_Gaps.l0 k x1 x2 (wrap64 (x7 + 1)) (wrap64 (x8 + 1)) x417000 x417001) else (r3_Gaps.l0 k x1 x2 x7 (wrap64 (x8 + 1)) x417000 x417001)) else (none)) else (none)) else (some x7))
def r3_Gaps.f (k : Nat) (l0_0 : List (S66)) (l0_1 : List Int) (a1 : Int) (a2 : Int) : Option (Int) := r3_Gaps.l0 k a1 a2 0 a1 l0_0 l0_1
theorem r3_Gaps.mono_l : ∀ k, (∀ y0 y1 y2 y3 y4 y5, LeO (r3_Gaps.l0 k y0 y1 y2 y3 y4 y5) (r3_Gaps.l0 (k + 1) y0 y1 y2 y3 y4 y5))
  | 0 => fun _ _ _ _ _ _ r h => by simp [r3_Gaps.l0] at h
  | k + 1 => by
    have ih0 := r3_Gaps.mono_l k
    · intro y0 y1 y2 y3 y4 y5
      unfold r3_Gaps.l0
      repeat' (with_reducible first | exact ih0 _ _ _ _ _ _ | exact r3_Trim.mono _ _ _ _ _ | exact LeO.refl _ | exact LeO.none _ | refine LeO.ite ?_ ?_ | refine LeO.bind ?_ (fun _ => ?_))
theorem r3_Gaps.mono : ∀ a0 a1 a2 a3 k, LeO (r3_Gaps.f k a0 a1 a2 a3) (r3_Gaps.f (k + 1) a0 a1 a2 a3) := by
  intro a0 a1 a2 a3 k
  have ih0 := r3_Gaps.mono_l k; unfold r3_Gaps.f
  repeat' (with_reducible first | exact ih0 _ _ _ _ _ _ | exact r3_Trim.mono _ _ _ _ _ | exact LeO.refl _ | exact LeO.none _ | refine LeO.ite ?_ ?_ | refine LeO.bind ?_ (fun _ => ?_))
set_option maxHeartbeats 8000000 in
set_option maxRecDepth 100000 in
theorem r3_Gaps.calls (k : Nat) (A0_0 : Option Addr) (c0_0 : Nat) (l0_0 : List (S66)) (A0_1 : Option Addr) (c0_1 : Nat) (l0_1 : List Int) (a1 : Int) (a2 : Int) (r : Int) (w : World) (hr0_0 : Kd.C k66 w A0_0 l0_0.length l0_0) (hc0_0 : l0_0.length ≤ c0_0) (hr0_1 : Kd.C (Kd.int .u8) w A0_1 l0_1.length l0_1) (hc0_1 : l0_1.length ≤ c0_1) (h : r3_Gaps.f k l0_0 l0_1 a1 a2 = some r) :
    Calls Try.prog 34 #[.agg #[.slice A0_0 l0_0.length c0_0, .slice A0_1 l0_1.length c0_1], .int .i64 a1, .int .i64 a2] w fun e w' => e = .returned (.int .i64 r) ∧ Below w.heap.size w w' := by
  have hu31 := Try.underlying31; have HR0_0 := zA.mk hr0_0; have HC0_0 := zA.mk hc0_0; clear hr0_0 hc0_0; have HR0_1 := zA.mk hr0_1; have HC0_1 := zA.mk hc0_1; clear hr0_1 hc0_1; have HB := zA.mk (Below.refl w.heap.size w); have H : (r3_Gaps.l0 k a1 a2 0 a1 l0_0 l0_1) = some r := h
  clear h; have H' := zA.mk H
  clear H; go_enter Try.func34, Try.ntmps34
  go_wp2_with (first | ((with_reducible refine gate_dst (N := 3) rfl ?_); refine box_event ?hg (N := 3) ?hd (cs := #[.slice A0_0 l0_0.length c0_0, .slice A0_1 l0_1.length c0_1]) (t := 31) ?hr ?_; (case hd => rfl); (case hg => rfl); (case hr => first | (go_simp; done) | (go_simp; rfl)); intro gb416 hg w4 hbox hb; have n0_ := zA.mk (zN (by repeat (first | (with_reducible first | exact HB.out | apply zJ | apply zG | apply zI) | exact HB.out)) hb); have n1_ := zA.mk (hbox); have n2_ := zA.mk ((by rw [hg]; exact (zP (by repeat (first | (with_reducible first | exact HB.out | apply zJ | apply zG | apply zI) | exact HB.out))) : w.heap.size ≤ gb416)); have n3_ := n2_; clear HB; have HB := n0_; have BK416 := n1_; have GW416 := n2_; have GE416 := n3_; clear n0_ n1_ n2_ n3_; clear hb hbox hg))
  go_loopg [7, 8] k (fun kq v7 v8 w' => ∃ (x7_1 : Int) (x8_1 : Int), v7 = .int .i64 x7_1 ∧ v8 = .int .i64 x8_1 ∧ zA (r3_Gaps.l0 kq a1 a2 x7_1 x8_1 l0_0 l0_1 = some r) ∧ zA (kq ≤ k) ∧ zA (w'.heap[gb416]? = some (.cells #[(.slice A0_0 l0_0.length c0_0), (.slice A0_1 l0_1.length c0_1)] 31 (0, 0))) ∧ zA (Below w.heap.size w w'))
  case atStart => exact ⟨(0), (a1), (by first | rfl | (simp; done) | (simp [*]; done)), (by first | rfl | (simp; done) | (simp [*]; done)), H', ⟨Nat.le_refl _⟩, ⟨by (with_reducible repeat (first | refine zC ?_ _ | refine zD ?_ | refine zB ?_ _)); exact BK416.out⟩, ⟨by repeat (first | (with_reducible first | exact HB.out | apply zJ | apply zG | apply zI | refine zF ?_ GE416.out) | exact HB.out)⟩⟩
  clear H'; obtain ⟨x7_1, x8_1, rfl, rfl, HA, HK1, BK416, HB⟩ := hrel; cases gk with
  | zero => exact absurd HA.out (by simp [r3_Gaps.l0])
  | succ k1 =>
    have H := HA.out; clear HA; simp only [r3_Gaps.l0] at H; replace H := Option.bind_eq_some_iff.mp H; obtain ⟨t417, A50, H⟩ := H; replace H : (if x8_1 < t417 then (if 0 ≤ x8_1 then (if x8_1 < (l0_0.length : Int) then (if ((rd_T66 l0_0 x8_1).f3) = 1 then (r3_Gaps.l0 k1 a1 a2 (wrap64 (x7_1 + 1)) (wrap64 (x8_1 + 1)) l0_0 l0_1) else (r3_Gaps.l0 k1 a1 a2 x7_1 (wrap64 (x8_1 + 1)) l0_0 l0_1)) else (none)) else (none)) else (some x7_1)) = some r := H; have A5 := zA.mk A50; clear A50; by_cases c6 : x8_1 < t417
    rotate_left
    · rw [if_neg c6] at H
      have c6b0 : decide (x8_1 < t417) = false := decide_eq_false c6
      clear c6; obtain rfl := Option.some.inj H
      have hcz16_0 : wr.cell? ⟨gb416, 0, none⟩ = some (.slice A0_0 l0_0.length c0_0) := (zE BK416.out 0).trans rfl
      have hcz16_1 : wr.cell? ⟨gb416, 1, none⟩ = some (.slice A0_1 l0_1.length c0_1) := (zE BK416.out 1).trans rfl
      have hfz16_0 := zH BK416.out 0; have hfz16_1 := zH BK416.out 1; go_wp2_with (first | ((with_reducible refine gate_callee (f := 45) rfl ?_); refine goesL_ (some 14) rfl rfl Try.func45 (by kernel_rfl) rfl #[.agg #[.slice A0_0 l0_0.length c0_0, .slice A0_1 l0_1.length c0_1], .int .i64 a1, .int .i64 a2] rfl (by (try simp only [List.map_toArray, List.map_cons, List.map_nil]); first | done | rfl | (simp only [List.length_drop, List.length_take]; rfl)) ?_; (with_reducible refine (r3_Trim.calls k1 _ _ l0_0 _ _ l0_1 a1 a2 t417 _ ?side1 ?side2 ?side3 ?side4 A5.out).mono ?_); (case side1 => repeat (first | exact (Kd.zW HR0_0.out HB.out) | (with_reducible refine Kd.zT ?_ _) | (with_reducible refine Kd.zU ?_ _) | (with_reducible refine Kd.zV ?_))); (case side2 => exact HC0_0.out); (case side3 => repeat (first | exact (Kd.zW HR0_1.out HB.out) | (with_reducible refine Kd.zT ?_ _) | (with_reducible refine Kd.zU ?_ _) | (with_reducible refine Kd.zV ?_))); (case side4 => exact HC0_1.out); rintro e w17 ⟨rfl, hb⟩; refine ⟨_, rfl, ?_⟩; replace BK416 := zA.mk (zK (by (with_reducible repeat (first | refine zC ?_ _ | refine zD ?_ | refine zB ?_ _)); exact BK416.out) hb); replace HB := zA.mk (zN (by repeat (first | (with_reducible first | exact HB.out | apply zJ | apply zG | apply zI | refine zF ?_ GE416.out) | exact HB.out)) hb); (try clear hb); (try clear hb2); (try clear hk); (try clear hi)))
      go_ret
      exact ⟨by first | rfl | (simp [errW_none, errW_some] <;> rfl) | (simp [*, errW_none, errW_some] <;> rfl), by repeat (first | (with_reducible first | exact HB.out | apply zJ | apply zG | apply zI | refine zF ?_ GE416.out) | exact HB.out)⟩
    rw [if_pos c6] at H; have c6b0 : decide (x8_1 < t417) = true := decide_eq_true c6
    clear c6; by_cases c7 : 0 ≤ x8_1
    rotate_left
    · rw [if_neg c7] at H
      exact absurd H (by simp)
    rw [if_pos c7] at H; have c7b0 : decide (0 ≤ x8_1) = true := decide_eq_true c7
    clear c7; by_cases c8 : x8_1 < (l0_0.length : Int)
    rotate_left
    · rw [if_neg c8] at H
      exact absurd H (by simp)
    rw [if_pos c8] at H; have c8b0 : decide (x8_1 < (l0_0.length : Int)) = true := decide_eq_true c8
    clear c8; by_cases c9 : ((rd_T66 l0_0 x8_1).f3) = 1
    · rw [if_pos c9] at H
      have c9b0 : (((rd_T66 l0_0 x8_1).f3) == 1) = true := beq_iff_eq.mpr c9
      have c9b1 : (((rd_T66 l0_0 x8_1).f3) != 1) = false := bne_eq_false_iff_eq.mpr c9
      clear c9; have H' := zA.mk H
      clear H; have hcz10_0 : wr.cell? ⟨gb416, 0, none⟩ = some (.slice A0_0 l0_0.length c0_0) := (zE BK416.out 0).trans rfl
      have hcz10_1 : wr.cell? ⟨gb416, 1, none⟩ = some (.slice A0_1 l0_1.length c0_1) := (zE BK416.out 1).trans rfl
      have hfz10_0 := zH BK416.out 0; have hfz10_1 := zH BK416.out 1; go_wp2_with (first | ((with_reducible refine gate_callee (f := 45) rfl ?_); refine goesL_ (some 14) rfl rfl Try.func45 (by kernel_rfl) rfl #[.agg #[.slice A0_0 l0_0.length c0_0, .slice A0_1 l0_1.length c0_1], .int .i64 a1, .int .i64 a2] rfl (by (try simp only [List.map_toArray, List.map_cons, List.map_nil]); first | done | rfl | (simp only [List.length_drop, List.length_take]; rfl)) ?_; (with_reducible refine (r3_Trim.calls k1 _ _ l0_0 _ _ l0_1 a1 a2 t417 _ ?side1 ?side2 ?side3 ?side4 A5.out).mono ?_); (case side1 => repeat (first | exact (Kd.zW HR0_0.out HB.out) | (with_reducible refine Kd.zT ?_ _) | (with_reducible refine Kd.zU ?_ _) | (with_reducible refine Kd.zV ?_))); (case side2 => exact HC0_0.out); (case side3 => repeat (first | exact (Kd.zW HR0_1.out HB.out) | (with_reducible refine Kd.zT ?_ _) | (with_reducible refine Kd.zU ?_ _) | (with_reducible refine Kd.zV ?_))); (case side4 => exact HC0_1.out); rintro e w11 ⟨rfl, hb⟩; refine ⟨_, rfl, ?_⟩; replace BK416 := zA.mk (zK (by (with_reducible repeat (first | refine zC ?_ _ | refine zD ?_ | refine zB ?_ _)); exact BK416.out) hb); replace HB := zA.mk (zN (by repeat (first | (with_reducible first | exact HB.out | apply zJ | apply zG | apply zI | refine zF ?_ GE416.out) | exact HB.out)) hb); (try clear hb); (try clear hb2); (try clear hk); (try clear hi); have hcz12_0 : w11.cell? ⟨gb416, 0, none⟩ = some (.slice A0_0 l0_0.length c0_0) := (zE BK416.out 0).trans rfl; have hcz12_1 : w11.cell? ⟨gb416, 1, none⟩ = some (.slice A0_1 l0_1.length c0_1) := (zE BK416.out 1).trans rfl; have hfz12_0 := zH BK416.out 0; have hfz12_1 := zH BK416.out 1; have p418 : 0 ≤ (x8_1 : Int) := of_decide_eq_true (by first | (with_reducible assumption) | assumption); have q418 : x8_1 < (l0_0.length : Int) := of_decide_eq_true (by first | (with_reducible assumption) | assumption); obtain ⟨ad418, e418, hx418_0, hx418_1, hx418_2, hx418_3⟩ := at_T66 HR0_0.out x8_1 p418 q418; cases e418; replace hx418_0 := (HB.out.cell (World.block_lt_of_cell? w _ hx418_0)).trans hx418_0; replace hx418_1 := (HB.out.cell (World.block_lt_of_cell? w _ hx418_1)).trans hx418_1; replace hx418_2 := (HB.out.cell (World.block_lt_of_cell? w _ hx418_2)).trans hx418_2; replace hx418_3 := (HB.out.cell (World.block_lt_of_cell? w _ hx418_3)).trans hx418_3; replace p418 := eq_true p418; replace q418 := eq_true q418))
      go_roundg k1
      case measure => have := HK1.out; omega
      case rel => exact ⟨(wrap64 (x7_1 + 1)), (wrap64 (x8_1 + 1)), (by first | rfl | (simp; done) | (simp [*]; done)), (by first | rfl | (simp; done) | (simp [*]; done)), H', ⟨by have := HK1.out; omega⟩, ⟨by (with_reducible repeat (first | refine zC ?_ _ | refine zD ?_ | refine zB ?_ _)); exact BK416.out⟩, ⟨by repeat (first | (with_reducible first | exact HB.out | apply zJ | apply zG | apply zI | refine zF ?_ GE416.out) | exact HB.out)⟩⟩
    rw [if_neg c9] at H; have c9b0 : (((rd_T66 l0_0 x8_1).f3) == 1) = false := beq_eq_false_iff_ne.mpr c9
    have c9b1 : (((rd_T66 l0_0 x8_1).f3) != 1) = true := bne_iff_ne.mpr c9
    have H' := zA.mk H
    clear H; have hcz13_0 : wr.cell? ⟨gb416, 0, none⟩ = some (.slice A0_0 l0_0.length c0_0) := (zE BK416.out 0).trans rfl
    have hcz13_1 : wr.cell? ⟨gb416, 1, none⟩ = some (.slice A0_1 l0_1.length c0_1) := (zE BK416.out 1).trans rfl
    have hfz13_0 := zH BK416.out 0; have hfz13_1 := zH BK416.out 1; go_wp2_with (first | ((with_reducible refine gate_callee (f := 45) rfl ?_); refine goesL_ (some 14) rfl rfl Try.func45 (by kernel_rfl) rfl #[.agg #[.slice A0_0 l0_0.length c0_0, .slice A0_1 l0_1.length c0_1], .int .i64 a1, .int .i64 a2] rfl (by (try simp only [List.map_toArray, List.map_cons, List.map_nil]); first | done | rfl | (simp only [List.length_drop, List.length_take]; rfl)) ?_; (with_reducible refine (r3_Trim.calls k1 _ _ l0_0 _ _ l0_1 a1 a2 t417 _ ?side1 ?side2 ?side3 ?side4 A5.out).mono ?_); (case side1 => repeat (first | exact (Kd.zW HR0_0.out HB.out) | (with_reducible refine Kd.zT ?_ _) | (with_reducible refine Kd.zU ?_ _) | (with_reducible refine Kd.zV ?_))); (case side2 => exact HC0_0.out); (case side3 => repeat (first | exact (Kd.zW HR0_1.out HB.out) | (with_reducible refine Kd.zT ?_ _) | (with_reducible refine Kd.zU ?_ _) | (with_reducible refine Kd.zV ?_))); (case side4 => exact HC0_1.out); rintro e w14 ⟨rfl, hb⟩; refine ⟨_, rfl, ?_⟩; replace BK416 := zA.mk (zK (by (with_reducible repeat (first | refine zC ?_ _ | refine zD ?_ | refine zB ?_ _)); exact BK416.out) hb); replace HB := zA.mk (zN (by repeat (first | (with_reducible first | exact HB.out | apply zJ | apply zG | apply zI | refine zF ?_ GE416.out) | exact HB.out)) hb); (try clear hb); (try clear hb2); (try clear hk); (try clear hi); have hcz15_0 : w14.cell? ⟨gb416, 0, none⟩ = some (.slice A0_0 l0_0.length c0_0) := (zE BK416.out 0).trans rfl; have hcz15_1 : w14.cell? ⟨gb416, 1, none⟩ = some (.slice A0_1 l0_1.length c0_1) := (zE BK416.out 1).trans rfl; have hfz15_0 := zH BK416.out 0; have hfz15_1 := zH BK416.out 1; have p418 : 0 ≤ (x8_1 : Int) := of_decide_eq_true (by first | (with_reducible assumption) | assumption); have q418 : x8_1 < (l0_0.length : Int) := of_decide_eq_true (by first | (with_reducible assumption) | assumption); obtain ⟨ad418, e418, hx418_0, hx418_1, hx418_2, hx418_3⟩ := at_T66 HR0_0.out x8_1 p418 q418; cases e418; replace hx418_0 := (HB.out.cell (World.block_lt_of_cell? w _ hx418_0)).trans hx418_0; replace hx418_1 := (HB.out.cell (World.block_lt_of_cell? w _ hx418_1)).trans hx418_1; replace hx418_2 := (HB.out.cell (World.block_lt_of_cell? w _ hx418_2)).trans hx418_2; replace hx418_3 := (HB.out.cell (World.block_lt_of_cell? w _ hx418_3)).trans hx418_3; replace p418 := eq_true p418; replace q418 := eq_true q418))
    go_roundg k1
    case measure => have := HK1.out; omega
    case rel => exact ⟨(x7_1), (wrap64 (x8_1 + 1)), (by first | rfl | (simp; done) | (simp [*]; done)), (by first | rfl | (simp; done) | (simp [*]; done)), H', ⟨by have := HK1.out; omega⟩, ⟨by (with_reducible repeat (first | refine zC ?_ _ | refine zD ?_ | refine zB ?_ _)); exact BK416.out⟩, ⟨by repeat (first | (with_reducible first | exact HB.out | apply zJ | apply zG | apply zI | refine zF ?_ GE416.out) | exact HB.out)⟩⟩
def r2_None.f (a0 : Nat) : Option (Bool) := some (FloatKind.f64.format.order a0 a0 != some .eq)
set_option maxHeartbeats 8000000 in
set_option maxRecDepth 100000 in
theorem r2_None.calls (a0 : Nat) (r : Bool) (w : World) (h : r2_None.f a0 = some r) :
    Calls Try.prog 46 #[.float .f64 a0] w fun e w' => e = .returned (.bool r) ∧ Drawn0 w w' := by
  have H : (some (FloatKind.f64.format.order a0 a0 != some .eq)) = some r := h
  clear h; obtain rfl := Option.some.inj H
  go_enter Try.func46, Try.ntmps46
  go_wp2
  go_ret
  exact ⟨by first | rfl | (simp; done) | (simp [*]; done), by repeat (first | exact Drawn0.refl _ | apply Drawn0.step)⟩
def r2_Minus.f (a0 : Nat) : Option Bool := some ((a0 : Int) / 9223372036854775808 == 1)
set_option maxHeartbeats 8000000 in
set_option maxRecDepth 100000 in
theorem r2_Minus.calls (a0 : Nat) (r : Bool) (w : World) (h : r2_Minus.f a0 = some r) :
    Calls Try.prog 47 #[.float .f64 a0] w fun e w' => e = .returned (.bool r) ∧ Drawn0 w w' := by
  have hu24 := Try.underlying24; have hu86 := Try.underlying86; have hA : ∀ (b : Nat) (W : World), (callFunc 56 #[.float .f64 b]).run Try.prog W = .ok (.value (.int .u64 b)) W := fun b W => by rw [run_callFunc_extern (fn := Try.f56) (e := Extern.MathFloatBits.float64bits) (by kernel_rfl) (by kernel_rfl) (by kernel_rfl) (by rfl) (by rfl)]; rfl
  obtain rfl := Option.some.inj h
  go_enter Try.func47, Try.ntmps47
  go_wp2
  go_ret
  exact ⟨rfl, Drawn0.refl _⟩
def rabs (x : Nat) : Nat := if ((x : Int) / 9223372036854775808 == 1) = true then Op.negFloat .f64 x else x
def rcube (x : Nat) : Nat := fop .mul (fop .mul (fop .mul 4636737291354636288 (rabs x)) (rabs x)) (rabs x)
def r2_Badness.l0 : Nat → Nat → Int → Option Int
  | 0, _, _ => none
  | k + 1, z, n => if (FloatKind.f64.format.order (floatOfInt .f64 (wrap64 (n + 1))) z == some .lt || FloatKind.f64.format.order (floatOfInt .f64 (wrap64 (n + 1))) z == some .eq) = true then r2_Badness.l0 k z (wrap64 (n + 1)) else some n
def r2_Badness.f (k : Nat) (a0 : Nat) : Option Int := if isNan a0 = true then some 0 else if (FloatKind.f64.format.order (rcube a0) 4666723172467343360 == some .gt || FloatKind.f64.format.order (rcube a0) 4666723172467343360 == some .eq) = true then some 10000 else if isNan (rcube a0) = true then some 10000 else r2_Badness.l0 k (rcube a0) 0
theorem r2_Badness.mono : ∀ a0 k, LeO (r2_Badness.f k a0) (r2_Badness.f (k + 1) a0) := by
  intro a0 k
  have ih : ∀ k, (∀ y0 y1, LeO (r2_Badness.l0 k y0 y1) (r2_Badness.l0 (k + 1) y0 y1)) := by
    intro k
    induction k with
    | zero => exact fun _ _ r h => by simp [r2_Badness.l0] at h
    | succ k ih =>
      intro y0 y1
      unfold r2_Badness.l0
      exact LeO.ite (ih _ _) (LeO.refl _)
  unfold r2_Badness.f
  exact LeO.ite (LeO.refl _) (LeO.ite (LeO.refl _) (LeO.ite (LeO.refl _) (ih _ _ _)))
theorem none_nan (b : Nat) : r2_None.f b = some (isNan b) := by
  unfold r2_None.f
  cases h : isNan b with
  | true => rw [order_nan_l h]; rfl
  | false => rw [order_self h]; rfl
theorem bad_step (x z : Nat) : (FloatKind.f64.format.order x z = some .lt ∨ FloatKind.f64.format.order x z = some .eq) ∨ (FloatKind.f64.format.order x z = none ∨ FloatKind.f64.format.order x z = some .gt) := by
  cases FloatKind.f64.format.order x z with
  | none => exact .inr (.inl rfl)
  | some o => cases o <;> simp
set_option maxHeartbeats 8000000 in
set_option maxRecDepth 100000 in
theorem r2_Badness.calls (k : Nat) (a0 : Nat) (r : Int) (w : World) (h : r2_Badness.f k a0 = some r) {b0_ : Nat} (hf0_ : zA (FR a0 b0_) := by first | assumption | exact ⟨FR.same _⟩) :
    Calls Try.prog 35 #[.float .f64 b0_] w fun e w' => e = .returned (.int .i64 r) ∧ Drawn0 w w' := by
  have hu24 := Try.underlying24; have hu3 := Try.underlying3; unfold r2_Badness.f at h
  have hn := none_nan b0_; rw [← hf0_.out.nan] at hn; by_cases hx : isNan a0 = true
  · rw [if_pos hx] at h
    rw [hx] at hn; obtain rfl := Option.some.inj h
    have H' := zA.mk hn
    clear hn; go_enter Try.func35, Try.ntmps35
    go_wp2_with (first | ((with_reducible refine gate_callee (f := 46) rfl ?_); refine goesL_ (some 9) rfl rfl Try.func46 (by kernel_rfl) rfl #[.float .f64 b0_] rfl (by (try simp only [List.map_toArray, List.map_cons, List.map_nil]); first | done | rfl | (simp only [List.length_drop, List.length_take]; rfl)) ?_; (with_reducible refine (r2_None.calls b0_ true _ H'.out).mono ?_); rintro e w' ⟨rfl, ⟨⟨nd, rfl⟩⟩⟩; refine ⟨_, rfl, ?_⟩))
    go_ret
    exact ⟨rfl, ⟨⟨_, rfl⟩⟩⟩
  rw [if_neg hx] at h; have hx' : isNan a0 = false := by simpa using hx
  rw [hx'] at hn; obtain rfl := hf0_.out.eq_of hx'
  have H0 := zA.mk hn; clear hn; have H1 : zA (r2_Minus.f a0 = some ((a0 : Int) / 9223372036854775808 == 1)) := ⟨rfl⟩
  have hneg : ∀ W : World, (Op.unary .neg (.float .f64 a0)).run Try.prog W = .ok (.float .f64 (Op.negFloat .f64 a0)) W := fun W => rfl
  obtain ⟨p, hp⟩ := Classical.axiomOfChoice (fun x : World × Nat × Nat => run_rough (P := Try.prog) x.1 .mul (by simp) 24 x.2.1 x.2.2)
  obtain ⟨m, hm⟩ := Classical.axiomOfChoice hp; have hr : ∀ (W : World) (x y : Nat), (binOp .mul 24 (.float .f64 x) (.float .f64 y)).run Try.prog W = .ok (.float .f64 (p (W, x, y))) (W.drewN (m (W, x, y))) := fun W x y => (hm (W, x, y)).1
  have hf : ∀ (W : World) (x y : Nat), FR (fop .mul x y) (p (W, x, y)) := fun W x y => fr_fop (hm (W, x, y)).2
  clear hp; have hf := zA.mk hf; have hm := zA.mk hm; cases hs : ((a0 : Int) / 9223372036854775808 == 1) with
  | true =>
    rw [hs] at H1; have ha : rabs a0 = (Op.negFloat .f64 a0) := by unfold rabs; rw [hs]; rfl
    go_enter Try.func35, Try.ntmps35
    go_upto_region 9 with (first | ((with_reducible refine gate_callee (f := 46) rfl ?_); refine goesL_ (some 9) rfl rfl Try.func46 (by kernel_rfl) rfl #[.float .f64 a0] rfl (by (try simp only [List.map_toArray, List.map_cons, List.map_nil]); first | done | rfl | (simp only [List.length_drop, List.length_take]; rfl)) ?_; (with_reducible refine (r2_None.calls a0 false _ H0.out).mono ?_); rintro e w' ⟨rfl, ⟨⟨nd0, rfl⟩⟩⟩; refine ⟨_, rfl, ?_⟩) | ((with_reducible refine gate_callee (f := 47) rfl ?_); refine goesL_ (some 12) rfl rfl Try.func47 (by kernel_rfl) rfl #[.float .f64 a0] rfl (by (try simp only [List.map_toArray, List.map_cons, List.map_nil]); first | done | rfl | (simp only [List.length_drop, List.length_take]; rfl)) ?_; (with_reducible refine (r2_Minus.calls a0 true _ H1.out).mono ?_); rintro e w' ⟨rfl, ⟨⟨nd1, rfl⟩⟩⟩; refine ⟨_, rfl, ?_⟩))
    generalize hp1 : p (w.drewN (nd0 + nd1), 4636737291354636288, (Op.negFloat .f64 a0)) = p1
    generalize m (w.drewN (nd0 + nd1), 4636737291354636288, (Op.negFloat .f64 a0)) = m1
    generalize hp2 : p (w.drewN (nd0 + nd1 + m1), p1, (Op.negFloat .f64 a0)) = p2
    generalize m (w.drewN (nd0 + nd1 + m1), p1, (Op.negFloat .f64 a0)) = m2
    generalize hp3 : p (w.drewN (nd0 + nd1 + m1 + m2), p2, (Op.negFloat .f64 a0)) = p3
    generalize m (w.drewN (nd0 + nd1 + m1 + m2), p2, (Op.negFloat .f64 a0)) = m3
    have hz : FR (rcube a0) p3 := by
      unfold rcube
      rw [ha]; exact ((show FR (fop .mul 4636737291354636288 (Op.negFloat .f64 a0)) p1 from hp1 ▸ hf.out _ _ _).fop_l (show FR (fop .mul p1 (Op.negFloat .f64 a0)) p2 from hp2 ▸ hf.out _ _ _)).fop_l (show FR (fop .mul p2 (Op.negFloat .f64 a0)) p3 from hp3 ▸ hf.out _ _ _)
    clear hp1 hp2 hp3 hf hm hr; have hoz := hz.order_l 4666723172467343360; rw [← hoz] at h; clear hoz; have hnz := none_nan p3; rw [← hz.nan] at hnz; have hge : (FloatKind.f64.format.order p3 4666723172467343360 = some .gt ∨ FloatKind.f64.format.order p3 4666723172467343360 = some .eq) ∨ (FloatKind.f64.format.order p3 4666723172467343360 = none ∨ FloatKind.f64.format.order p3 4666723172467343360 = some .lt) := by
      cases FloatKind.f64.format.order p3 4666723172467343360 with
      | none => exact .inr (.inl rfl)
      | some o => cases o <;> simp
    rcases hge with ho | ho
    · have h2 : r = 10000 := by rcases ho with ho | ho <;> (rw [ho] at h; exact (Option.some.inj h).symm)
      subst h2; clear h hz hnz; rcases ho with ho | ho <;> (go_wp2; go_ret; exact ⟨rfl, ⟨⟨_, rfl⟩⟩⟩)
    have h2 : (if isNan (rcube a0) = true then some 10000 else r2_Badness.l0 k (rcube a0) 0) = some r := by rcases ho with ho | ho <;> (rw [ho] at h; exact h)
    clear h; by_cases hnn : isNan (rcube a0) = true
    · rw [if_pos hnn] at h2
      rw [hnn] at hnz; obtain rfl := Option.some.inj h2
      have H2 := zA.mk hnz; clear hnz hz hnn; rcases ho with ho | ho <;> (go_wp2_with (first | (((with_reducible refine gate_callee (f := 46) rfl ?_); (refine gate_guard (by rfl) ?_; dsimp only); refine goesL_ (some 27) rfl rfl Try.func46 (by kernel_rfl) rfl #[.float .f64 p3] rfl (by (try simp only [List.map_toArray, List.map_cons, List.map_nil]); first | done | rfl | (simp only [List.length_drop, List.length_take]; rfl)) ?_; (with_reducible refine (r2_None.calls p3 true _ H2.out).mono ?_); rintro e w' ⟨rfl, ⟨⟨nd2, rfl⟩⟩⟩; refine ⟨_, rfl, ?_⟩))); go_ret; exact ⟨rfl, ⟨⟨_, rfl⟩⟩⟩)
    rw [if_neg hnn] at h2; have hnn' : isNan (rcube a0) = false := by simpa using hnn
    rw [hnn'] at hnz; have H2 := zA.mk hnz; clear hnz; obtain rfl := hz.eq_of hnn'
    have H' := zA.mk h2
    clear h2 hnn hnn' hz; generalize rcube a0 = z at *
    rcases ho with ho | ho <;> (go_wp2_with (first | (((with_reducible refine gate_callee (f := 46) rfl ?_); (refine gate_guard (by rfl) ?_; dsimp only); refine goesL_ (some 27) rfl rfl Try.func46 (by kernel_rfl) rfl #[.float .f64 z] rfl (by (try simp only [List.map_toArray, List.map_cons, List.map_nil]); first | done | rfl | (simp only [List.length_drop, List.length_take]; rfl)) ?_; (with_reducible refine (r2_None.calls z false _ H2.out).mono ?_); rintro e w' ⟨rfl, ⟨⟨nd2, rfl⟩⟩⟩; refine ⟨_, rfl, ?_⟩))); clear ho; go_loopg [7] k (fun kq v7 w' => ∃ (x7_1 : Int), v7 = .int .i64 x7_1 ∧ zA (r2_Badness.l0 kq z x7_1 = some r) ∧ zA (kq ≤ k) ∧ zA (Drawn0 w w')); (case atStart => exact ⟨0, rfl, H', ⟨Nat.le_refl _⟩, ⟨⟨⟨_, rfl⟩⟩⟩⟩); clear H'; obtain ⟨n, rfl, HA, HK1, HB⟩ := hrel; cases gk with
      | zero => exact absurd HA.out (by simp [r2_Badness.l0])
      | succ k1 =>
        have H := HA.out; clear HA; simp only [r2_Badness.l0] at H; rcases bad_step (floatOfInt .f64 (wrap64 (n + 1))) z with ho | ho
        · have H2 : r2_Badness.l0 k1 z (wrap64 (n + 1)) = some r := by rcases ho with ho | ho <;> (rw [ho] at H; exact H)
          have H' := zA.mk H2
          clear H H2; rcases ho with ho | ho <;> (go_wp2; go_roundg k1; (case measure => have := HK1.out; omega); (case rel => exact ⟨wrap64 (n + 1), rfl, H', ⟨by have := HK1.out; omega⟩, ⟨by repeat (first | exact HB.out | apply Drawn0.step)⟩⟩))
        · have H2 : n = r := by rcases ho with ho | ho <;> (rw [ho] at H; exact Option.some.inj H)
          subst H2; clear H; rcases ho with ho | ho <;> (go_wp2; go_ret; exact ⟨rfl, by repeat (first | exact HB.out | apply Drawn0.step)⟩))
  | false =>
    rw [hs] at H1; have ha : rabs a0 = a0 := by unfold rabs; rw [hs]; rfl
    go_enter Try.func35, Try.ntmps35
    go_upto_region 9 with (first | ((with_reducible refine gate_callee (f := 46) rfl ?_); refine goesL_ (some 9) rfl rfl Try.func46 (by kernel_rfl) rfl #[.float .f64 a0] rfl (by (try simp only [List.map_toArray, List.map_cons, List.map_nil]); first | done | rfl | (simp only [List.length_drop, List.length_take]; rfl)) ?_; (with_reducible refine (r2_None.calls a0 false _ H0.out).mono ?_); rintro e w' ⟨rfl, ⟨⟨nd0, rfl⟩⟩⟩; refine ⟨_, rfl, ?_⟩) | ((with_reducible refine gate_callee (f := 47) rfl ?_); refine goesL_ (some 12) rfl rfl Try.func47 (by kernel_rfl) rfl #[.float .f64 a0] rfl (by (try simp only [List.map_toArray, List.map_cons, List.map_nil]); first | done | rfl | (simp only [List.length_drop, List.length_take]; rfl)) ?_; (with_reducible refine (r2_Minus.calls a0 false _ H1.out).mono ?_); rintro e w' ⟨rfl, ⟨⟨nd1, rfl⟩⟩⟩; refine ⟨_, rfl, ?_⟩))
    generalize hp1 : p (w.drewN (nd0 + nd1), 4636737291354636288, a0) = p1
    generalize m (w.drewN (nd0 + nd1), 4636737291354636288, a0) = m1
    generalize hp2 : p (w.drewN (nd0 + nd1 + m1), p1, a0) = p2
    generalize m (w.drewN (nd0 + nd1 + m1), p1, a0) = m2
    generalize hp3 : p (w.drewN (nd0 + nd1 + m1 + m2), p2, a0) = p3
    generalize m (w.drewN (nd0 + nd1 + m1 + m2), p2, a0) = m3
    have hz : FR (rcube a0) p3 := by
      unfold rcube
      rw [ha]; exact ((show FR (fop .mul 4636737291354636288 a0) p1 from hp1 ▸ hf.out _ _ _).fop_l (show FR (fop .mul p1 a0) p2 from hp2 ▸ hf.out _ _ _)).fop_l (show FR (fop .mul p2 a0) p3 from hp3 ▸ hf.out _ _ _)
    clear hp1 hp2 hp3 hf hm hr; have hoz := hz.order_l 4666723172467343360; rw [← hoz] at h; clear hoz; have hnz := none_nan p3; rw [← hz.nan] at hnz; have hge : (FloatKind.f64.format.order p3 4666723172467343360 = some .gt ∨ FloatKind.f64.format.order p3 4666723172467343360 = some .eq) ∨ (FloatKind.f64.format.order p3 4666723172467343360 = none ∨ FloatKind.f64.format.order p3 4666723172467343360 = some .lt) := by
      cases FloatKind.f64.format.order p3 4666723172467343360 with
      | none => exact .inr (.inl rfl)
      | some o => cases o <;> simp
    rcases hge with ho | ho
    · have h2 : r = 10000 := by rcases ho with ho | ho <;> (rw [ho] at h; exact (Option.some.inj h).symm)
      subst h2; clear h hz hnz; rcases ho with ho | ho <;> (go_wp2; go_ret; exact ⟨rfl, ⟨⟨_, rfl⟩⟩⟩)
    have h2 : (if isNan (rcube a0) = true then some 10000 else r2_Badness.l0 k (rcube a0) 0) = some r := by rcases ho with ho | ho <;> (rw [ho] at h; exact h)
    clear h; by_cases hnn : isNan (rcube a0) = true
    · rw [if_pos hnn] at h2
      rw [hnn] at hnz; obtain rfl := Option.some.inj h2
      have H2 := zA.mk hnz; clear hnz hz hnn; rcases ho with ho | ho <;> (go_wp2_with (first | (((with_reducible refine gate_callee (f := 46) rfl ?_); (refine gate_guard (by rfl) ?_; dsimp only); refine goesL_ (some 27) rfl rfl Try.func46 (by kernel_rfl) rfl #[.float .f64 p3] rfl (by (try simp only [List.map_toArray, List.map_cons, List.map_nil]); first | done | rfl | (simp only [List.length_drop, List.length_take]; rfl)) ?_; (with_reducible refine (r2_None.calls p3 true _ H2.out).mono ?_); rintro e w' ⟨rfl, ⟨⟨nd2, rfl⟩⟩⟩; refine ⟨_, rfl, ?_⟩))); go_ret; exact ⟨rfl, ⟨⟨_, rfl⟩⟩⟩)
    rw [if_neg hnn] at h2; have hnn' : isNan (rcube a0) = false := by simpa using hnn
    rw [hnn'] at hnz; have H2 := zA.mk hnz; clear hnz; obtain rfl := hz.eq_of hnn'
    have H' := zA.mk h2
    clear h2 hnn hnn' hz; generalize rcube a0 = z at *
    rcases ho with ho | ho <;> (go_wp2_with (first | (((with_reducible refine gate_callee (f := 46) rfl ?_); (refine gate_guard (by rfl) ?_; dsimp only); refine goesL_ (some 27) rfl rfl Try.func46 (by kernel_rfl) rfl #[.float .f64 z] rfl (by (try simp only [List.map_toArray, List.map_cons, List.map_nil]); first | done | rfl | (simp only [List.length_drop, List.length_take]; rfl)) ?_; (with_reducible refine (r2_None.calls z false _ H2.out).mono ?_); rintro e w' ⟨rfl, ⟨⟨nd2, rfl⟩⟩⟩; refine ⟨_, rfl, ?_⟩))); clear ho; go_loopg [7] k (fun kq v7 w' => ∃ (x7_1 : Int), v7 = .int .i64 x7_1 ∧ zA (r2_Badness.l0 kq z x7_1 = some r) ∧ zA (kq ≤ k) ∧ zA (Drawn0 w w')); (case atStart => exact ⟨0, rfl, H', ⟨Nat.le_refl _⟩, ⟨⟨⟨_, rfl⟩⟩⟩⟩); clear H'; obtain ⟨n, rfl, HA, HK1, HB⟩ := hrel; cases gk with
      | zero => exact absurd HA.out (by simp [r2_Badness.l0])
      | succ k1 =>
        have H := HA.out; clear HA; simp only [r2_Badness.l0] at H; rcases bad_step (floatOfInt .f64 (wrap64 (n + 1))) z with ho | ho
        · have H2 : r2_Badness.l0 k1 z (wrap64 (n + 1)) = some r := by rcases ho with ho | ho <;> (rw [ho] at H; exact H)
          have H' := zA.mk H2
          clear H H2; rcases ho with ho | ho <;> (go_wp2; go_roundg k1; (case measure => have := HK1.out; omega); (case rel => exact ⟨wrap64 (n + 1), rfl, H', ⟨by have := HK1.out; omega⟩, ⟨by repeat (first | exact HB.out | apply Drawn0.step)⟩⟩))
        · have H2 : n = r := by rcases ho with ho | ho <;> (rw [ho] at H; exact Option.some.inj H)
          subst H2; clear H; rcases ho with ho | ho <;> (go_wp2; go_ret; exact ⟨rfl, by repeat (first | exact HB.out | apply Drawn0.step)⟩))
mutual
def r3_Cost.j0 : Nat → Int → Int → Bool → Bool → List (S66) → List Int → Int → Int → Int → Int → Int → Nat → Option (Int × Bool)
  | 0, _, _, _, _, _, _, _, _, _, _, _, _ => none
  | k + 1, x1, x2, x3, x26, x420000, x420001, x421000, x421001, x421002, x421003, x421004, x421005 => if x26 = true then (some (0, false)) else (if 0 ≤ x2 then (if x2 < (x420001.length : Int) then ((r3_Cells.f k x420000 x420001 x1 x2 (rd x420001 x2) x421001).bind fun t423 => (if t423 > x421000 then (some (0, false)) else (if x3 = true then (r3_Cost.j1 k x1 x2 0 x420000 x420001 x421000 x421001 x421002 x421003 x421004 x421005) else ((r3_Gaps.f k x420000 x420001 x1 x2).bind fun t424 => ((r2_Of.f (wrap64 (x421000 - t423)) t424).bind fun t425 => (if (FloatKind.f64.format.order t425 x421005 == some .gt) = true then (some (0, false)) else ((r2_Badness.f k t425).bind fun t426 => (r3_Cost.j1 k x1 x2 t426 x420000 x420001 x421000 x421001 x421002 x421003 x421004 x421005)))))))) else (none)) else (none))
def r3_Cost.j1 : Nat → Int → Int → Int → List (S66) → List Int → Int → Int → Int → Int → Int → Nat → Option (Int × Bool)
  | 0, _, _, _, _, _, _, _, _, _, _, _ => none
  | k + 1, x1, x2, x13, x420000, x420001, x421000, x421001, x421002, x421003, x421004, x421005 => if 0 ≤ x2 then (if x2 < (x420001.length : Int) then (if (rd x420001 x2) = 3 then (if 0 ≤ x1 then (if x1 < (x420001.length : Int) then (if (rd x420001 x1) = 3 then (some (wrap64 ((wrap64 ((wrap64 ((wrap64 (100 + (wrap64 (20 * x13)))) + (wrap64 (x13 * x13)))) + x421003)) + x421004), true)) else (some (wrap64 ((wrap64 ((wrap64 (100 + (wrap64 (20 * x13)))) + (wrap64 (x13 * x13)))) + x421003), true))) else (none)) else (none)) else (some (wrap64 ((wrap64 (100 + (wrap64 (20 * x13)))) + (wrap64 (x13 * x13))), true))) else (none)) else (none)
end
def r3_Cost.f (k : Nat) (l0_0 : List (S66)) (l0_1 : List Int) (a1 : Int) (a2 : Int) (a3 : Bool) (a4_0 : Int) (a4_1 : Int) (a4_2 : Int) (a4_3 : Int) (a4_4 : Int) (a4_5 : Nat) : Option (Int × Bool) := if a2 ≤ a1 then (r3_Cost.j0 k a1 a2 a3 true l0_0 l0_1 a4_0 a4_1 a4_2 a4_3 a4_4 a4_5) else (if 0 ≤ a2 then (if a2 < (l0_1.length : Int) then (r3_Cost.j0 k a1 a2 a3 ((rd l0_1 a2) == 0) l0_0 l0_1 a4_0 a4_1 a4_2 a4_3 a4_4 a4_5) else (none)) else (none))
theorem r3_Cost.mono_l : ∀ k, (∀ y0 y1 y2 y3 y4 y5 y6 y7 y8 y9 y10 y11, LeO (r3_Cost.j0 k y0 y1 y2 y3 y4 y5 y6 y7 y8 y9 y10 y11) (r3_Cost.j0 (k + 1) y0 y1 y2 y3 y4 y5 y6 y7 y8 y9 y10 y11)) ∧ (∀ y0 y1 y2 y3 y4 y5 y6 y7 y8 y9 y10, LeO (r3_Cost.j1 k y0 y1 y2 y3 y4 y5 y6 y7 y8 y9 y10) (r3_Cost.j1 (k + 1) y0 y1 y2 y3 y4 y5 y6 y7 y8 y9 y10))
  | 0 => ⟨fun _ _ _ _ _ _ _ _ _ _ _ _ r h => by simp [r3_Cost.j0] at h, fun _ _ _ _ _ _ _ _ _ _ _ r h => by simp [r3_Cost.j1] at h⟩
  | k + 1 => by
    obtain ⟨ih0, ih1⟩ := r3_Cost.mono_l k; refine ⟨?_, ?_⟩
    · intro y0 y1 y2 y3 y4 y5 y6 y7 y8 y9 y10 y11
      unfold r3_Cost.j0
      repeat' (with_reducible first | exact ih0 _ _ _ _ _ _ _ _ _ _ _ _ | exact ih1 _ _ _ _ _ _ _ _ _ _ _ | exact r2_Badness.mono _ _ | exact r3_Cells.mono _ _ _ _ _ _ _ | exact r3_Gaps.mono _ _ _ _ _ | exact LeO.refl _ | exact LeO.none _ | refine LeO.ite ?_ ?_ | refine LeO.bind ?_ (fun _ => ?_))
    · intro y0 y1 y2 y3 y4 y5 y6 y7 y8 y9 y10
      unfold r3_Cost.j1
      repeat' (with_reducible first | exact ih0 _ _ _ _ _ _ _ _ _ _ _ _ | exact ih1 _ _ _ _ _ _ _ _ _ _ _ | exact r2_Badness.mono _ _ | exact r3_Cells.mono _ _ _ _ _ _ _ | exact r3_Gaps.mono _ _ _ _ _ | exact LeO.refl _ | exact LeO.none _ | refine LeO.ite ?_ ?_ | refine LeO.bind ?_ (fun _ => ?_))
theorem r3_Cost.mono : ∀ a0 a1 a2 a3 a4 a5 a6 a7 a8 a9 a10 k, LeO (r3_Cost.f k a0 a1 a2 a3 a4 a5 a6 a7 a8 a9 a10) (r3_Cost.f (k + 1) a0 a1 a2 a3 a4 a5 a6 a7 a8 a9 a10) := by
  intro a0 a1 a2 a3 a4 a5 a6 a7 a8 a9 a10 k
  obtain ⟨ih0, ih1⟩ := r3_Cost.mono_l k; unfold r3_Cost.f
  repeat' (with_reducible first | exact ih0 _ _ _ _ _ _ _ _ _ _ _ _ | exact ih1 _ _ _ _ _ _ _ _ _ _ _ | exact r2_Badness.mono _ _ | exact r3_Cells.mono _ _ _ _ _ _ _ | exact r3_Gaps.mono _ _ _ _ _ | exact LeO.refl _ | exact LeO.none _ | refine LeO.ite ?_ ?_ | refine LeO.bind ?_ (fun _ => ?_))
def r3_Cost.T3 : Bool × List (List Nat × List Nat) := (true, [([], []), ([], []), ([], []), ([], []), ([3], [3]), ([], []), ([4, 5], [4, 5]), ([6], [6]), ([], []), ([8], [8]), ([0, 1, 2, 7, 9], [0, 1, 2, 7, 9]), ([10, 10, 0, 1, 2, 3, 4, 5, 6, 7, 8, 9, 10], [10])])
def r3_Cost.B3 : List Nat := [0, 0, 0, 0, 8, 0, 56, 120, 0, 256, 1023, 2047]
theorem r3_Cost.tab3 : rtab .any (opsOf Try.f25 3) = r3_Cost.T3 := by kernel_rfl
theorem r3_Cost.bits3 : waitsOk r3_Cost.T3.2 r3_Cost.B3 = true := by kernel_rfl
def r3_Cost.T8 : Bool × List (List Nat × List Nat) := (true, [([], []), ([0], [0]), ([], []), ([1, 2], [1, 2]), ([], []), ([], []), ([], []), ([4, 5, 6], [4, 5, 6]), ([3, 7, 7], [3, 7]), ([8, 8, 0, 1, 2, 3, 4, 5, 6, 7, 8], [8])])
def r3_Cost.B8 : List Nat := [0, 1, 0, 7, 0, 0, 0, 112, 255, 511]
theorem r3_Cost.tab8 : rtab .any (opsOf Try.f25 8) = r3_Cost.T8 := by kernel_rfl
theorem r3_Cost.bits8 : waitsOk r3_Cost.T8.2 r3_Cost.B8 = true := by kernel_rfl
set_option maxHeartbeats 8000000 in
set_option maxRecDepth 100000 in
theorem r3_Cost.calls (k : Nat) (A0_0 : Option Addr) (c0_0 : Nat) (l0_0 : List (S66)) (A0_1 : Option Addr) (c0_1 : Nat) (l0_1 : List Int) (a1 : Int) (a2 : Int) (a3 : Bool) (a4_0 : Int) (a4_1 : Int) (a4_2 : Int) (a4_3 : Int) (a4_4 : Int) (a4_5 : Nat) (r1 : Int) (r2 : Bool) (w : World) (hr0_0 : Kd.C k66 w A0_0 l0_0.length l0_0) (hc0_0 : l0_0.length ≤ c0_0) (hr0_1 : Kd.C (Kd.int .u8) w A0_1 l0_1.length l0_1) (hc0_1 : l0_1.length ≤ c0_1) (h : r3_Cost.f k l0_0 l0_1 a1 a2 a3 a4_0 a4_1 a4_2 a4_3 a4_4 a4_5 = some (r1, r2)) :
    Calls Try.prog 25 #[.agg #[.slice A0_0 l0_0.length c0_0, .slice A0_1 l0_1.length c0_1], .int .i64 a1, .int .i64 a2, .bool a3, .agg #[.int .i64 a4_0, .int .i64 a4_1, .int .u8 a4_2, .int .i64 a4_3, .int .i64 a4_4, .float .f64 a4_5]] w fun e w' => e = .returned (.tuple #[.int .i64 r1, .bool r2]) ∧ Below w.heap.size w w' := by
  have hu31 := Try.underlying31; have hu35 := Try.underlying35; have HR0_0 := zA.mk hr0_0; have HC0_0 := zA.mk hc0_0; clear hr0_0 hc0_0; have HR0_1 := zA.mk hr0_1; have HC0_1 := zA.mk hc0_1; clear hr0_1 hc0_1; have HB := zA.mk (Below.refl w.heap.size w); have H : (if a2 ≤ a1 then (r3_Cost.j0 k a1 a2 a3 true l0_0 l0_1 a4_0 a4_1 a4_2 a4_3 a4_4 a4_5) else (if 0 ≤ a2 then (if a2 < (l0_1.length : Int) then (r3_Cost.j0 k a1 a2 a3 ((rd l0_1 a2) == 0) l0_0 l0_1 a4_0 a4_1 a4_2 a4_3 a4_4 a4_5) else (none)) else (none))) = some (r1, r2) := h
  clear h; have HC6 := zA.mk H; clear H; go_enter Try.func25, Try.ntmps25
  go_upto_region 1 with (first | ((with_reducible refine gate_dst (N := 5) rfl ?_); refine box_event ?hg (N := 5) ?hd (cs := #[.slice A0_0 l0_0.length c0_0, .slice A0_1 l0_1.length c0_1]) (t := 31) ?hr ?_; (case hd => rfl); (case hg => rfl); (case hr => first | (go_simp; done) | (go_simp; rfl)); intro gb419 hg w7 hbox hb; have n0_ := zA.mk (zN (by repeat (first | (with_reducible first | exact HB.out | apply zJ | apply zG | apply zI) | exact HB.out)) hb); have n1_ := zA.mk (hbox); have n2_ := zA.mk ((by rw [hg]; exact (zP (by repeat (first | (with_reducible first | exact HB.out | apply zJ | apply zG | apply zI) | exact HB.out))) : w.heap.size ≤ gb419)); have n3_ := n2_; clear HB; have HB := n0_; have BK419 := n1_; have GW419 := n2_; have GE419 := n3_; clear n0_ n1_ n2_ n3_; clear hb hbox hg) | ((with_reducible refine gate_dst (N := 9) rfl ?_); refine box_event ?hg (N := 9) ?hd (cs := #[.int .i64 a4_0, .int .i64 a4_1, .int .u8 a4_2, .int .i64 a4_3, .int .i64 a4_4, .float .f64 a4_5]) (t := 35) ?hr ?_; (case hd => rfl); (case hg => rfl); (case hr => first | (go_simp; done) | (go_simp; rfl)); intro gb420 hg w8 hbox hb; have n0_ := zA.mk (zK (by (with_reducible repeat (first | refine zC ?_ _ | refine zD ?_ | refine zB ?_ _)); exact BK419.out) hb); have n1_ := zA.mk (zN (by repeat (first | (with_reducible first | exact HB.out | apply zJ | apply zG | apply zI | refine zF ?_ GE419.out) | exact HB.out)) hb); have n2_ := zA.mk (hbox); have n3_ := zA.mk ((by rw [hg]; exact (zP (by repeat (first | (with_reducible first | exact HB.out | apply zJ | apply zG | apply zI | refine zF ?_ GE419.out) | exact HB.out))) : w.heap.size ≤ gb420)); have n4_ := n3_; have n5_ := zA.mk ((by rw [hg]; exact Nat.ne_of_lt (blk_lt (by (with_reducible repeat (first | refine zC ?_ _ | refine zD ?_ | refine zB ?_ _)); exact BK419.out)) : gb419 ≠ gb420)); have n6_ := zA.mk n5_.out.symm; clear BK419; clear HB; have BK419 := n0_; have HB := n1_; have BK420 := n2_; have GW420 := n3_; have GE420 := n4_; have NB419_420 := n5_; have NB420_419 := n6_; clear n0_ n1_ n2_ n3_ n4_ n5_ n6_; clear hb hbox hg))
  (try simp only [Act.put, sA_, sB_, sC_])
  go_cut [26] (fun v26 wc => ∃ (kq : Nat) (x26_5 : Bool), v26 = .bool x26_5 ∧ zA (r3_Cost.j0 kq a1 a2 a3 x26_5 l0_0 l0_1 a4_0 a4_1 a4_2 a4_3 a4_4 a4_5 = some (r1, r2)) ∧ zA (kq ≤ k) ∧ zA (wc.heap[gb419]? = some (.cells #[(.slice A0_0 l0_0.length c0_0), (.slice A0_1 l0_1.length c0_1)] 31 (0, 0))) ∧ zA (wc.heap[gb420]? = some (.cells #[.int .i64 a4_0, .int .i64 a4_1, .int .u8 a4_2, .int .i64 a4_3, .int .i64 a4_4, .float .f64 a4_5] 35 (0, 0))) ∧ zA (Below w.heap.size w wc))
  case first =>
    have H := HC6.out; clear HC6; by_cases c9 : a2 ≤ a1
    · rw [if_pos c9] at H
      have c9b0 : decide (a2 ≤ a1) = true := decide_eq_true c9
      clear c9; (first | rw [c9b0] | (simp only [zM, zO]; rw [c9b0]) | skip)
      have H' := zA.mk H
      clear H; go_wp2
      go_meet
      case rel => exact ⟨_, (true), (by first | rfl | (simp; done) | (simp [*]; done)), H', ⟨by first | omega | exact Nat.le_refl _⟩, ⟨by (with_reducible repeat (first | refine zC ?_ _ | refine zD ?_ | refine zB ?_ _)); exact BK419.out⟩, ⟨by (with_reducible repeat (first | refine zC ?_ _ | refine zD ?_ | refine zB ?_ _)); exact BK420.out⟩, ⟨by repeat (first | (with_reducible first | exact HB.out | apply zJ | apply zG | apply zI | refine zF ?_ GE419.out | refine zF ?_ GE420.out) | exact HB.out)⟩⟩
    rw [if_neg c9] at H; have c9b0 : decide (a2 ≤ a1) = false := decide_eq_false c9
    clear c9; (first | rw [c9b0] | (simp only [zM, zO]; rw [c9b0]) | skip)
    by_cases c10 : 0 ≤ a2
    rotate_left
    · rw [if_neg c10] at H
      exact absurd H (by simp)
    rw [if_pos c10] at H; have c10b0 : decide (0 ≤ a2) = true := decide_eq_true c10
    clear c10; by_cases c11 : a2 < (l0_1.length : Int)
    rotate_left
    · rw [if_neg c11] at H
      exact absurd H (by simp)
    rw [if_pos c11] at H; have c11b0 : decide (a2 < (l0_1.length : Int)) = true := decide_eq_true c11
    clear c11; have H' := zA.mk H
    clear H; have hnb12 := NB419_420.out; have hnc12 := NB420_419.out; have hcz13_0 : w8.cell? ⟨gb419, 0, none⟩ = some (.slice A0_0 l0_0.length c0_0) := (zE BK419.out 0).trans rfl
    have hcz13_1 : w8.cell? ⟨gb419, 1, none⟩ = some (.slice A0_1 l0_1.length c0_1) := (zE BK419.out 1).trans rfl
    have hfz13_0 := zH BK419.out 0; have hfz13_1 := zH BK419.out 1; have p421 : 0 ≤ (a2 : Int) := of_decide_eq_true (by first | (with_reducible assumption) | assumption)
    have q421 : a2 < (l0_1.length : Int) := of_decide_eq_true (by first | (with_reducible assumption) | assumption)
    obtain ⟨ad421, e421, hx421_0⟩ := Kd.at_int HR0_1.out a2 p421 q421; cases e421
    replace hx421_0 := (HB.out.cell (World.block_lt_of_cell? w _ hx421_0)).trans hx421_0; replace p421 := eq_true p421; replace q421 := eq_true q421; go_wp2
    go_meet
    case rel => exact ⟨_, (((rd l0_1 a2) == 0)), (by first | rfl | (simp; done) | (simp [*]; done)), H', ⟨by first | omega | exact Nat.le_refl _⟩, ⟨by (with_reducible repeat (first | refine zC ?_ _ | refine zD ?_ | refine zB ?_ _)); exact BK419.out⟩, ⟨by (with_reducible repeat (first | refine zC ?_ _ | refine zD ?_ | refine zB ?_ _)); exact BK420.out⟩, ⟨by repeat (first | (with_reducible first | exact HB.out | apply zJ | apply zG | apply zI | refine zF ?_ GE419.out | refine zF ?_ GE420.out) | exact HB.out)⟩⟩
  clear HC6; obtain ⟨kq, x26_5, rfl, HA, HJ5, BK419, BK420, HB⟩ := hcut; cases kq with
  | zero => exact absurd HA.out (by simp [r3_Cost.j0])
  | succ kj5 =>
    have H := HA.out; clear HA; simp only [r3_Cost.j0] at H; by_cases c14 : x26_5 = true
    · subst c14
      have H1 : (some (0, false)) = some (r1, r2) := by rw [if_pos rfl] at H; exact H
      clear H; have H := H1; clear H1; simp only [Option.some.injEq, Prod.mk.injEq] at H; obtain ⟨rfl, rfl⟩ := H; go_wp2
      go_ret2
      exact ⟨by first | rfl | (simp [errW_none, errW_some] <;> rfl) | (simp [*, errW_none, errW_some] <;> rfl), by repeat (first | (with_reducible first | exact HB.out | apply zJ | apply zG | apply zI | refine zF ?_ GE419.out | refine zF ?_ GE420.out) | exact HB.out)⟩
    replace c14 := Bool.eq_false_iff.mpr c14; subst c14; have H1 : (if 0 ≤ a2 then (if a2 < (l0_1.length : Int) then ((r3_Cells.f kj5 l0_0 l0_1 a1 a2 (rd l0_1 a2) a4_1).bind fun t423 => (if t423 > a4_0 then (some (0, false)) else (if a3 = true then (r3_Cost.j1 kj5 a1 a2 0 l0_0 l0_1 a4_0 a4_1 a4_2 a4_3 a4_4 a4_5) else ((r3_Gaps.f kj5 l0_0 l0_1 a1 a2).bind fun t424 => ((r2_Of.f (wrap64 (a4_0 - t423)) t424).bind fun t425 => (if (FloatKind.f64.format.order t425 a4_5 == some .gt) = true then (some (0, false)) else ((r2_Badness.f kj5 t425).bind fun t426 => (r3_Cost.j1 kj5 a1 a2 t426 l0_0 l0_1 a4_0 a4_1 a4_2 a4_3 a4_4 a4_5)))))))) else (none)) else (none)) = some (r1, r2) := by rw [if_neg (show ¬ (false = true) by decide)] at H; exact H
    clear H; have H := H1; clear H1; by_cases c15 : 0 ≤ a2
    rotate_left
    · rw [if_neg c15] at H
      exact absurd H (by simp)
    rw [if_pos c15] at H; have c15b0 : decide (0 ≤ a2) = true := decide_eq_true c15
    clear c15; by_cases c16 : a2 < (l0_1.length : Int)
    rotate_left
    · rw [if_neg c16] at H
      exact absurd H (by simp)
    rw [if_pos c16] at H; have c16b0 : decide (a2 < (l0_1.length : Int)) = true := decide_eq_true c16
    clear c16; replace H := Option.bind_eq_some_iff.mp H; obtain ⟨t423, A170, H⟩ := H; replace H : (if t423 > a4_0 then (some (0, false)) else (if a3 = true then (r3_Cost.j1 kj5 a1 a2 0 l0_0 l0_1 a4_0 a4_1 a4_2 a4_3 a4_4 a4_5) else ((r3_Gaps.f kj5 l0_0 l0_1 a1 a2).bind fun t424 => ((r2_Of.f (wrap64 (a4_0 - t423)) t424).bind fun t425 => (if (FloatKind.f64.format.order t425 a4_5 == some .gt) = true then (some (0, false)) else ((r2_Badness.f kj5 t425).bind fun t426 => (r3_Cost.j1 kj5 a1 a2 t426 l0_0 l0_1 a4_0 a4_1 a4_2 a4_3 a4_4 a4_5))))))) = some (r1, r2) := H
    have A17 := zA.mk A170; clear A170; by_cases c18 : t423 > a4_0
    · rw [if_pos c18] at H
      have c18b0 : decide (a4_0 < t423) = true := decide_eq_true c18
      clear c18; simp only [Option.some.injEq, Prod.mk.injEq] at H; obtain ⟨rfl, rfl⟩ := H; try go_wp2
      replace BK419 := zA.mk (zD BK419.out); replace BK420 := zA.mk (zD BK420.out); replace HB := zA.mk (zI HB.out); have p422 : 0 ≤ (a2 : Int) := of_decide_eq_true (by first | (with_reducible assumption) | assumption)
      have q422 : a2 < (l0_1.length : Int) := of_decide_eq_true (by first | (with_reducible assumption) | assumption)
      obtain ⟨ad422, e422, hx422_0⟩ := Kd.at_int HR0_1.out a2 p422 q422; have hw422_0 := hx422_0; cases e422
      replace hx422_0 := (HB.out.cell (World.block_lt_of_cell? w _ hx422_0)).trans hx422_0; replace p422 := eq_true p422; replace q422 := eq_true q422; refine start_ (n := 12) (S := fun w' => w'.cell? ⟨gb419, 0, none⟩ = some (.slice A0_0 l0_0.length c0_0) ∧ w'.cell? ⟨gb419, 1, none⟩ = some (.slice (some ad422) l0_1.length c0_1) ∧ w'.cell? ⟨gb420, 0, none⟩ = some (.int .i64 a4_0) ∧ w'.cell? ⟨gb420, 1, none⟩ = some (.int .i64 a4_1) ∧ w'.cell? ⟨gb420, 2, none⟩ = some (.int .u8 a4_2) ∧ w'.cell? ⟨gb420, 3, none⟩ = some (.int .i64 a4_3) ∧ w'.cell? ⟨gb420, 4, none⟩ = some (.int .i64 a4_4) ∧ w'.cell? ⟨gb420, 5, none⟩ = some (.float .f64 a4_5) ∧ w'.cell? (ad422.add (a2).toNat) = some (.int .u8 (rd l0_1 a2))) (ds := []) #[false, false, false, false, false, false, false, false, false, false, false, false] (by kernel_rfl) rfl rfl ⟨(zE BK419.out 0).trans rfl, (zE BK419.out 1).trans rfl, (zE BK420.out 0).trans rfl, (zE BK420.out 1).trans rfl, (zE BK420.out 2).trans rfl, (zE BK420.out 3).trans rfl, (zE BK420.out 4).trans rfl, (zE BK420.out 5).trans rfl, ((HB.out.cell (World.block_lt_of_cell? w _ hw422_0)).trans hw422_0)⟩ (fun hHeld => ?_); refine with_tabW r3_Cost.tab3 r3_Cost.bits3 (fun HT_ HW_ => ?_)
      generalize wc.drew = w19 at BK419 BK420 HB hx422_0 hHeld ⊢
      refine pure_ (i := 1) (N := some 28) (v := ?_) (a' := ?_) (tb_ 2 12) rfl rfl (any_of HT_.out (by kernel_rfl)) (fun _ _ _ h => h) (Or.inl ⟨by rfl, ?_⟩) ?_ ?_
      rotate_left
      · intro w'
        go_simp
        with_reducible rfl
      rotate_left
      · simp only [Act.put, sA_, sB_, sC_, zM, zO]
        rfl
      refine pure_ (i := 2) (N := some 29) (v := ?_) (a' := ?_) (tb_ 6 12) rfl rfl (any_of HT_.out (by kernel_rfl)) (fun _ _ _ h => h) (Or.inl ⟨by rfl, ?_⟩) ?_ ?_
      rotate_left
      · intro w'
        go_simp
        with_reducible rfl
      rotate_left
      · simp only [Act.put, sA_, sB_, sC_, zM, zO]
        rfl
      refine pure_ (i := 3) (N := some 30) (v := ?_) (a' := ?_) (tb_ 14 12) rfl rfl (any_of HT_.out (by kernel_rfl)) (fun _ _ _ h => h) (Or.inl ⟨by rfl, ?_⟩) ?_ ?_
      rotate_left
      · intro w'
        go_simp
        with_reducible rfl
      rotate_left
      · simp only [Act.put, sA_, sB_, sC_, zM, zO]
        rfl
      refine pure_ (i := 5) (N := some 32) (v := ?_) (a' := ?_) (tb_ 46 12) rfl rfl (any_of HT_.out (by kernel_rfl)) (fun _ _ _ h => h) (Or.inl ⟨by rfl, ?_⟩) ?_ ?_
      rotate_left
      · intro w'
        go_simp
        with_reducible rfl
      rotate_left
      · simp only [Act.put, sA_, sB_, sC_, zM, zO]
        rfl
      refine pure_ (i := 8) (N := some 35) (v := ?_) (a' := ?_) (tb_ 302 12) rfl rfl (any_of HT_.out (by kernel_rfl)) (fun _ _ _ h => h) (Or.inl ⟨by rfl, ?_⟩) ?_ ?_
      rotate_left
      · intro w'
        go_simp
        with_reducible rfl
      rotate_left
      · simp only [Act.put, sA_, sB_, sC_, zM, zO]
        rfl
      refine take_ (i := 0) (N := some 27) (v := ?_) (a' := ?_) (tb_ 303 12) rfl rfl (take_ofW HT_.out HW_.out (by kernel_rfl)) (fun _ _ _ h => h) (Or.inl ⟨by rfl, ?_⟩) hHeld ?_ ?_
      rotate_left
      · rintro w' ⟨s0, s1, s2, s3, s4, s5, s6, s7, s8⟩
        go_simp
        with_reducible rfl
      rotate_left
      · simp only [Act.put, sA_, sB_, sC_, zM, zO]
        rfl
      refine take_ (i := 4) (N := some 31) (v := ?_) (a' := ?_) (tb_ 319 12) rfl rfl (take_ofW HT_.out HW_.out (by kernel_rfl)) (fun _ _ _ h => h) (Or.inl ⟨by rfl, ?_⟩) hHeld ?_ ?_
      rotate_left
      · rintro w' ⟨s0, s1, s2, s3, s4, s5, s6, s7, s8⟩
        go_simp
        with_reducible rfl
      rotate_left
      · simp only [Act.put, sA_, sB_, sC_, zM, zO]
        rfl
      refine pure_ (i := 6) (N := some 33) (v := ?_) (a' := ?_) (tb_ 383 12) rfl rfl (any_of HT_.out (by kernel_rfl)) (fun _ _ _ h => h) (Or.inl ⟨by rfl, ?_⟩) ?_ ?_
      rotate_left
      · intro w'
        go_simp
        with_reducible rfl
      rotate_left
      · simp only [Act.put, sA_, sB_, sC_, zM, zO]
        rfl
      refine take_ (i := 7) (N := some 34) (v := ?_) (a' := ?_) (tf_ 9 12) rfl rfl (take_ofW HT_.out HW_.out (by kernel_rfl)) (fun _ _ _ h => h) (Or.inl ⟨by rfl, ?_⟩) hHeld ?_ ?_
      rotate_left
      · rintro w' ⟨s0, s1, s2, s3, s4, s5, s6, s7, s8⟩
        go_simp
        with_reducible rfl
      rotate_left
      · simp only [Act.put, sA_, sB_, sC_, zM, zO]
        rfl
      refine take_ (i := 9) (N := some 36) (v := ?_) (a' := ?_) (tf_ 10 12) rfl rfl (take_ofW HT_.out HW_.out (by kernel_rfl)) (fun _ _ _ h => h) (Or.inl ⟨by rfl, ?_⟩) hHeld ?_ ?_
      rotate_left
      · rintro w' ⟨s0, s1, s2, s3, s4, s5, s6, s7, s8⟩
        go_simp
        with_reducible rfl
      rotate_left
      · simp only [Act.put, sA_, sB_, sC_, zM, zO]
        rfl
      refine one_ (i := 10) (N := some 37) (tb_ 2047 12) rfl rfl (one_of HT_.out (by kernel_rfl)) (by decide) (fun K hK => ?_)
      refine goes_ Try.func32 (by kernel_rfl) rfl #[.agg #[.slice A0_0 l0_0.length c0_0, .slice (some ad422) l0_1.length c0_1], .int .i64 a1, .int .i64 a2, .int .u8 (rd l0_1 a2), .int .i64 a4_1] (by rfl) rfl rfl (by (try simp only [List.map_toArray, List.map_cons, List.map_nil]); first | done | rfl | (simp only [List.length_drop, List.length_take]; rfl)) ?_
      with_reducible refine (r3_Cells.calls kj5 _ _ l0_0 _ _ l0_1 a1 a2 (rd l0_1 a2) a4_1 t423 _ ?side1 ?side2 ?side3 ?side4 A17.out).mono ?_
      (case side1 => repeat (first | exact (Kd.zW HR0_0.out HB.out) | (with_reducible refine Kd.zT ?_ _) | (with_reducible refine Kd.zU ?_ _) | (with_reducible refine Kd.zV ?_)))
      (case side2 => exact HC0_0.out)
      (case side3 => repeat (first | exact (Kd.zW HR0_1.out HB.out) | (with_reducible refine Kd.zT ?_ _) | (with_reducible refine Kd.zU ?_ _) | (with_reducible refine Kd.zV ?_)))
      (case side4 => exact HC0_1.out)
      rintro e w20 ⟨rfl, hb⟩
      refine ⟨_, rfl, ?_⟩
      replace BK419 := zA.mk (zK (by (with_reducible repeat (first | refine zC ?_ _ | refine zD ?_ | refine zB ?_ _)); exact BK419.out) hb)
      replace BK420 := zA.mk (zK (by (with_reducible repeat (first | refine zC ?_ _ | refine zD ?_ | refine zB ?_ _)); exact BK420.out) hb)
      replace HB := zA.mk (zN (by repeat (first | (with_reducible first | exact HB.out | apply zJ | apply zG | apply zI | refine zF ?_ GE419.out | refine zF ?_ GE420.out) | exact HB.out)) hb)
      (try clear hb)
      (try clear hb2)
      (try clear hk)
      (try clear hi)
      refine hK.out _ _ ⟨(zE BK419.out 0).trans rfl, (zE BK419.out 1).trans rfl, (zE BK420.out 0).trans rfl, (zE BK420.out 1).trans rfl, (zE BK420.out 2).trans rfl, (zE BK420.out 3).trans rfl, (zE BK420.out 4).trans rfl, (zE BK420.out 5).trans rfl, ((HB.out.cell (World.block_lt_of_cell? w _ hw422_0)).trans hw422_0)⟩ (fun hHeld => ?_)
      clear hK K; refine norm_ (a' := ?_) ?_ ?_
      rotate_left
      · show Act.put _ (some 37) _ = _
        simp only [Act.put, sA_, sB_, sC_, zM, zO]; rfl
      refine pure_ (i := 11) (N := some 12) (v := ?_) (a' := ?_) (tb_ 4095 12) rfl rfl (any_of HT_.out (by kernel_rfl)) (fun _ _ _ h => h) (Or.inl ⟨by rfl, ?_⟩) ?_ ?_
      rotate_left
      · intro w'
        go_simp
        with_reducible rfl
      rotate_left
      · simp only [Act.put, sA_, sB_, sC_, zM, zO]
        rfl
      refine done_ (done_of HT_.out (by kernel_rfl)) ?_
      have hnb21 := NB420_419.out; have hnc21 := NB419_420.out; have hcz22_0 : w20.cell? ⟨gb420, 0, none⟩ = some (.int .i64 a4_0) := (zE BK420.out 0).trans rfl
      have hcz22_1 : w20.cell? ⟨gb420, 1, none⟩ = some (.int .i64 a4_1) := (zE BK420.out 1).trans rfl
      have hcz22_2 : w20.cell? ⟨gb420, 2, none⟩ = some (.int .u8 a4_2) := (zE BK420.out 2).trans rfl
      have hcz22_3 : w20.cell? ⟨gb420, 3, none⟩ = some (.int .i64 a4_3) := (zE BK420.out 3).trans rfl
      have hcz22_4 : w20.cell? ⟨gb420, 4, none⟩ = some (.int .i64 a4_4) := (zE BK420.out 4).trans rfl
      have hcz22_5 : w20.cell? ⟨gb420, 5, none⟩ = some (.float .f64 a4_5) := (zE BK420.out 5).trans rfl
      have hfz22_0 := zH BK420.out 0; have hfz22_1 := zH BK420.out 1; have hfz22_2 := zH BK420.out 2; have hfz22_3 := zH BK420.out 3; have hfz22_4 := zH BK420.out 4; have hfz22_5 := zH BK420.out 5; try go_wp2
      go_ret2
      exact ⟨by first | rfl | (simp [errW_none, errW_some] <;> rfl) | (simp [*, errW_none, errW_some] <;> rfl), by repeat (first | (with_reducible first | exact HB.out | apply zJ | apply zG | apply zI | refine zF ?_ GE419.out | refine zF ?_ GE420.out) | exact HB.out)⟩
    rw [if_neg c18] at H; have c18b0 : decide (a4_0 < t423) = false := decide_eq_false c18
    clear c18; have HC23 := zA.mk H; clear H; try go_wp2
    replace BK419 := zA.mk (zD BK419.out); replace BK420 := zA.mk (zD BK420.out); replace HB := zA.mk (zI HB.out); have p422 : 0 ≤ (a2 : Int) := of_decide_eq_true (by first | (with_reducible assumption) | assumption)
    have q422 : a2 < (l0_1.length : Int) := of_decide_eq_true (by first | (with_reducible assumption) | assumption)
    obtain ⟨ad422, e422, hx422_0⟩ := Kd.at_int HR0_1.out a2 p422 q422; have hw422_0 := hx422_0; cases e422
    replace hx422_0 := (HB.out.cell (World.block_lt_of_cell? w _ hx422_0)).trans hx422_0; replace p422 := eq_true p422; replace q422 := eq_true q422; refine start_ (n := 12) (S := fun w' => w'.cell? ⟨gb419, 0, none⟩ = some (.slice A0_0 l0_0.length c0_0) ∧ w'.cell? ⟨gb419, 1, none⟩ = some (.slice (some ad422) l0_1.length c0_1) ∧ w'.cell? ⟨gb420, 0, none⟩ = some (.int .i64 a4_0) ∧ w'.cell? ⟨gb420, 1, none⟩ = some (.int .i64 a4_1) ∧ w'.cell? ⟨gb420, 2, none⟩ = some (.int .u8 a4_2) ∧ w'.cell? ⟨gb420, 3, none⟩ = some (.int .i64 a4_3) ∧ w'.cell? ⟨gb420, 4, none⟩ = some (.int .i64 a4_4) ∧ w'.cell? ⟨gb420, 5, none⟩ = some (.float .f64 a4_5) ∧ w'.cell? (ad422.add (a2).toNat) = some (.int .u8 (rd l0_1 a2))) (ds := []) #[false, false, false, false, false, false, false, false, false, false, false, false] (by kernel_rfl) rfl rfl ⟨(zE BK419.out 0).trans rfl, (zE BK419.out 1).trans rfl, (zE BK420.out 0).trans rfl, (zE BK420.out 1).trans rfl, (zE BK420.out 2).trans rfl, (zE BK420.out 3).trans rfl, (zE BK420.out 4).trans rfl, (zE BK420.out 5).trans rfl, ((HB.out.cell (World.block_lt_of_cell? w _ hw422_0)).trans hw422_0)⟩ (fun hHeld => ?_); refine with_tabW r3_Cost.tab3 r3_Cost.bits3 (fun HT_ HW_ => ?_)
    generalize wc.drew = w24 at BK419 BK420 HB hx422_0 hHeld ⊢
    refine pure_ (i := 1) (N := some 28) (v := ?_) (a' := ?_) (tb_ 2 12) rfl rfl (any_of HT_.out (by kernel_rfl)) (fun _ _ _ h => h) (Or.inl ⟨by rfl, ?_⟩) ?_ ?_
    rotate_left
    · intro w'
      go_simp
      with_reducible rfl
    rotate_left
    · simp only [Act.put, sA_, sB_, sC_, zM, zO]
      rfl
    refine pure_ (i := 2) (N := some 29) (v := ?_) (a' := ?_) (tb_ 6 12) rfl rfl (any_of HT_.out (by kernel_rfl)) (fun _ _ _ h => h) (Or.inl ⟨by rfl, ?_⟩) ?_ ?_
    rotate_left
    · intro w'
      go_simp
      with_reducible rfl
    rotate_left
    · simp only [Act.put, sA_, sB_, sC_, zM, zO]
      rfl
    refine pure_ (i := 3) (N := some 30) (v := ?_) (a' := ?_) (tb_ 14 12) rfl rfl (any_of HT_.out (by kernel_rfl)) (fun _ _ _ h => h) (Or.inl ⟨by rfl, ?_⟩) ?_ ?_
    rotate_left
    · intro w'
      go_simp
      with_reducible rfl
    rotate_left
    · simp only [Act.put, sA_, sB_, sC_, zM, zO]
      rfl
    refine pure_ (i := 5) (N := some 32) (v := ?_) (a' := ?_) (tb_ 46 12) rfl rfl (any_of HT_.out (by kernel_rfl)) (fun _ _ _ h => h) (Or.inl ⟨by rfl, ?_⟩) ?_ ?_
    rotate_left
    · intro w'
      go_simp
      with_reducible rfl
    rotate_left
    · simp only [Act.put, sA_, sB_, sC_, zM, zO]
      rfl
    refine pure_ (i := 8) (N := some 35) (v := ?_) (a' := ?_) (tb_ 302 12) rfl rfl (any_of HT_.out (by kernel_rfl)) (fun _ _ _ h => h) (Or.inl ⟨by rfl, ?_⟩) ?_ ?_
    rotate_left
    · intro w'
      go_simp
      with_reducible rfl
    rotate_left
    · simp only [Act.put, sA_, sB_, sC_, zM, zO]
      rfl
    refine take_ (i := 0) (N := some 27) (v := ?_) (a' := ?_) (tb_ 303 12) rfl rfl (take_ofW HT_.out HW_.out (by kernel_rfl)) (fun _ _ _ h => h) (Or.inl ⟨by rfl, ?_⟩) hHeld ?_ ?_
    rotate_left
    · rintro w' ⟨s0, s1, s2, s3, s4, s5, s6, s7, s8⟩
      go_simp
      with_reducible rfl
    rotate_left
    · simp only [Act.put, sA_, sB_, sC_, zM, zO]
      rfl
    refine take_ (i := 4) (N := some 31) (v := ?_) (a' := ?_) (tb_ 319 12) rfl rfl (take_ofW HT_.out HW_.out (by kernel_rfl)) (fun _ _ _ h => h) (Or.inl ⟨by rfl, ?_⟩) hHeld ?_ ?_
    rotate_left
    · rintro w' ⟨s0, s1, s2, s3, s4, s5, s6, s7, s8⟩
      go_simp
      with_reducible rfl
    rotate_left
    · simp only [Act.put, sA_, sB_, sC_, zM, zO]
      rfl
    refine pure_ (i := 6) (N := some 33) (v := ?_) (a' := ?_) (tb_ 383 12) rfl rfl (any_of HT_.out (by kernel_rfl)) (fun _ _ _ h => h) (Or.inl ⟨by rfl, ?_⟩) ?_ ?_
    rotate_left
    · intro w'
      go_simp
      with_reducible rfl
    rotate_left
    · simp only [Act.put, sA_, sB_, sC_, zM, zO]
      rfl
    refine take_ (i := 7) (N := some 34) (v := ?_) (a' := ?_) (tf_ 9 12) rfl rfl (take_ofW HT_.out HW_.out (by kernel_rfl)) (fun _ _ _ h => h) (Or.inl ⟨by rfl, ?_⟩) hHeld ?_ ?_
    rotate_left
    · rintro w' ⟨s0, s1, s2, s3, s4, s5, s6, s7, s8⟩
      go_simp
      with_reducible rfl
    rotate_left
    · simp only [Act.put, sA_, sB_, sC_, zM, zO]
      rfl
    refine take_ (i := 9) (N := some 36) (v := ?_) (a' := ?_) (tf_ 10 12) rfl rfl (take_ofW HT_.out HW_.out (by kernel_rfl)) (fun _ _ _ h => h) (Or.inl ⟨by rfl, ?_⟩) hHeld ?_ ?_
    rotate_left
    · rintro w' ⟨s0, s1, s2, s3, s4, s5, s6, s7, s8⟩
      go_simp
      with_reducible rfl
    rotate_left
    · simp only [Act.put, sA_, sB_, sC_, zM, zO]
      rfl
    refine one_ (i := 10) (N := some 37) (tb_ 2047 12) rfl rfl (one_of HT_.out (by kernel_rfl)) (by decide) (fun K hK => ?_)
    refine goes_ Try.func32 (by kernel_rfl) rfl #[.agg #[.slice A0_0 l0_0.length c0_0, .slice (some ad422) l0_1.length c0_1], .int .i64 a1, .int .i64 a2, .int .u8 (rd l0_1 a2), .int .i64 a4_1] (by rfl) rfl rfl (by (try simp only [List.map_toArray, List.map_cons, List.map_nil]); first | done | rfl | (simp only [List.length_drop, List.length_take]; rfl)) ?_
    with_reducible refine (r3_Cells.calls kj5 _ _ l0_0 _ _ l0_1 a1 a2 (rd l0_1 a2) a4_1 t423 _ ?side1 ?side2 ?side3 ?side4 A17.out).mono ?_
    (case side1 => repeat (first | exact (Kd.zW HR0_0.out HB.out) | (with_reducible refine Kd.zT ?_ _) | (with_reducible refine Kd.zU ?_ _) | (with_reducible refine Kd.zV ?_)))
    (case side2 => exact HC0_0.out)
    (case side3 => repeat (first | exact (Kd.zW HR0_1.out HB.out) | (with_reducible refine Kd.zT ?_ _) | (with_reducible refine Kd.zU ?_ _) | (with_reducible refine Kd.zV ?_)))
    (case side4 => exact HC0_1.out)
    rintro e w25 ⟨rfl, hb⟩
    refine ⟨_, rfl, ?_⟩
    replace BK419 := zA.mk (zK (by (with_reducible repeat (first | refine zC ?_ _ | refine zD ?_ | refine zB ?_ _)); exact BK419.out) hb)
    replace BK420 := zA.mk (zK (by (with_reducible repeat (first | refine zC ?_ _ | refine zD ?_ | refine zB ?_ _)); exact BK420.out) hb)
    replace HB := zA.mk (zN (by repeat (first | (with_reducible first | exact HB.out | apply zJ | apply zG | apply zI | refine zF ?_ GE419.out | refine zF ?_ GE420.out) | exact HB.out)) hb)
    (try clear hb)
    (try clear hb2)
    (try clear hk)
    (try clear hi)
    refine hK.out _ _ ⟨(zE BK419.out 0).trans rfl, (zE BK419.out 1).trans rfl, (zE BK420.out 0).trans rfl, (zE BK420.out 1).trans rfl, (zE BK420.out 2).trans rfl, (zE BK420.out 3).trans rfl, (zE BK420.out 4).trans rfl, (zE BK420.out 5).trans rfl, ((HB.out.cell (World.block_lt_of_cell? w _ hw422_0)).trans hw422_0)⟩ (fun hHeld => ?_)
    clear hK K; refine norm_ (a' := ?_) ?_ ?_
    rotate_left
    · show Act.put _ (some 37) _ = _
      simp only [Act.put, sA_, sB_, sC_, zM, zO]; rfl
    refine pure_ (i := 11) (N := some 12) (v := ?_) (a' := ?_) (tb_ 4095 12) rfl rfl (any_of HT_.out (by kernel_rfl)) (fun _ _ _ h => h) (Or.inl ⟨by rfl, ?_⟩) ?_ ?_
    rotate_left
    · intro w'
      go_simp
      with_reducible rfl
    rotate_left
    · simp only [Act.put, sA_, sB_, sC_, zM, zO]
      rfl
    refine done_ (done_of HT_.out (by kernel_rfl)) ?_
    have hnb26 := NB420_419.out; have hnc26 := NB419_420.out; have hcz27_0 : w25.cell? ⟨gb420, 0, none⟩ = some (.int .i64 a4_0) := (zE BK420.out 0).trans rfl
    have hcz27_1 : w25.cell? ⟨gb420, 1, none⟩ = some (.int .i64 a4_1) := (zE BK420.out 1).trans rfl
    have hcz27_2 : w25.cell? ⟨gb420, 2, none⟩ = some (.int .u8 a4_2) := (zE BK420.out 2).trans rfl
    have hcz27_3 : w25.cell? ⟨gb420, 3, none⟩ = some (.int .i64 a4_3) := (zE BK420.out 3).trans rfl
    have hcz27_4 : w25.cell? ⟨gb420, 4, none⟩ = some (.int .i64 a4_4) := (zE BK420.out 4).trans rfl
    have hcz27_5 : w25.cell? ⟨gb420, 5, none⟩ = some (.float .f64 a4_5) := (zE BK420.out 5).trans rfl
    have hfz27_0 := zH BK420.out 0; have hfz27_1 := zH BK420.out 1; have hfz27_2 := zH BK420.out 2; have hfz27_3 := zH BK420.out 3; have hfz27_4 := zH BK420.out 4; have hfz27_5 := zH BK420.out 5; go_upto_if 43 with (fail)
    go_cut [13] (fun v13 wc => ∃ (kq : Nat) (x13_22 : Int), v13 = .int .i64 x13_22 ∧ zA (r3_Cost.j1 kq a1 a2 x13_22 l0_0 l0_1 a4_0 a4_1 a4_2 a4_3 a4_4 a4_5 = some (r1, r2)) ∧ zA (kq ≤ kj5) ∧ zA (wc.heap[gb419]? = some (.cells #[(.slice A0_0 l0_0.length c0_0), (.slice (some ad422) l0_1.length c0_1)] 31 (0, 0))) ∧ zA (wc.heap[gb420]? = some (.cells #[.int .i64 a4_0, .int .i64 a4_1, .int .u8 a4_2, .int .i64 a4_3, .int .i64 a4_4, .float .f64 a4_5] 35 (0, 0))) ∧ zA (Below w.heap.size w wc))
    case first =>
      have H := HC23.out; clear HC23; by_cases c28 : a3 = true
      · subst c28
        have H1 : (r3_Cost.j1 kj5 a1 a2 0 l0_0 l0_1 a4_0 a4_1 a4_2 a4_3 a4_4 a4_5) = some (r1, r2) := by rw [if_pos rfl] at H; exact H
        clear H; have H := H1; clear H1; have H' := zA.mk H
        clear H; go_wp2
        go_meet
        case rel => exact ⟨_, (0), (by first | rfl | (simp; done) | (simp [*]; done)), H', ⟨by have := HJ5.out; first | omega | exact Nat.le_refl _⟩, ⟨by (with_reducible repeat (first | refine zC ?_ _ | refine zD ?_ | refine zB ?_ _)); exact BK419.out⟩, ⟨by (with_reducible repeat (first | refine zC ?_ _ | refine zD ?_ | refine zB ?_ _)); exact BK420.out⟩, ⟨by repeat (first | (with_reducible first | exact HB.out | apply zJ | apply zG | apply zI | refine zF ?_ GE419.out | refine zF ?_ GE420.out) | exact HB.out)⟩⟩
      replace c28 := Bool.eq_false_iff.mpr c28; subst c28; have H1 : ((r3_Gaps.f kj5 l0_0 l0_1 a1 a2).bind fun t424 => ((r2_Of.f (wrap64 (a4_0 - t423)) t424).bind fun t425 => (if (FloatKind.f64.format.order t425 a4_5 == some .gt) = true then (some (0, false)) else ((r2_Badness.f kj5 t425).bind fun t426 => (r3_Cost.j1 kj5 a1 a2 t426 l0_0 l0_1 a4_0 a4_1 a4_2 a4_3 a4_4 a4_5))))) = some (r1, r2) := by rw [if_neg (show ¬ (false = true) by decide)] at H; exact H
      clear H; have H := H1; clear H1; replace H := Option.bind_eq_some_iff.mp H; obtain ⟨t424, A290, H⟩ := H; replace H : ((r2_Of.f (wrap64 (a4_0 - t423)) t424).bind fun t425 => (if (FloatKind.f64.format.order t425 a4_5 == some .gt) = true then (some (0, false)) else ((r2_Badness.f kj5 t425).bind fun t426 => (r3_Cost.j1 kj5 a1 a2 t426 l0_0 l0_1 a4_0 a4_1 a4_2 a4_3 a4_4 a4_5)))) = some (r1, r2) := H
      have A29 := zA.mk A290; clear A290; replace H := Option.bind_eq_some_iff.mp H; obtain ⟨t425, A300, H⟩ := H; replace H : (if (FloatKind.f64.format.order t425 a4_5 == some .gt) = true then (some (0, false)) else ((r2_Badness.f kj5 t425).bind fun t426 => (r3_Cost.j1 kj5 a1 a2 t426 l0_0 l0_1 a4_0 a4_1 a4_2 a4_3 a4_4 a4_5))) = some (r1, r2) := H
      have A30 := zA.mk A300; clear A300; by_cases c31 : (FloatKind.f64.format.order t425 a4_5 == some .gt) = true
      · rw [if_pos c31] at H
        have c31b0 : (FloatKind.f64.format.order t425 a4_5 == some .gt) = true := c31
        (try (have c31b1 : decide (FloatKind.f64.format.order t425 a4_5 = some .gt) = true := by simpa using c31))
        (try (have c31b2 : (FloatKind.f64.format.order t425 a4_5 == some .gt) = true := by simpa using c31))
        clear c31; (first | rw [c31b0] | (simp only [zM, zO]; rw [c31b0]) | skip)
        simp only [Option.some.injEq, Prod.mk.injEq] at H; obtain ⟨rfl, rfl⟩ := H; try go_wp2
        replace BK419 := zA.mk (zD BK419.out); replace BK420 := zA.mk (zD BK420.out); replace HB := zA.mk (zI HB.out); refine start_ (n := 10) (S := fun w' => w'.cell? ⟨gb420, 0, none⟩ = some (.int .i64 a4_0) ∧ w'.cell? ⟨gb420, 1, none⟩ = some (.int .i64 a4_1) ∧ w'.cell? ⟨gb420, 2, none⟩ = some (.int .u8 a4_2) ∧ w'.cell? ⟨gb420, 3, none⟩ = some (.int .i64 a4_3) ∧ w'.cell? ⟨gb420, 4, none⟩ = some (.int .i64 a4_4) ∧ w'.cell? ⟨gb420, 5, none⟩ = some (.float .f64 a4_5) ∧ w'.cell? ⟨gb419, 0, none⟩ = some (.slice A0_0 l0_0.length c0_0) ∧ w'.cell? ⟨gb419, 1, none⟩ = some (.slice (some ad422) l0_1.length c0_1)) (ds := []) #[false, false, false, false, false, false, false, false, false, false] (by kernel_rfl) rfl rfl ⟨(zE BK420.out 0).trans rfl, (zE BK420.out 1).trans rfl, (zE BK420.out 2).trans rfl, (zE BK420.out 3).trans rfl, (zE BK420.out 4).trans rfl, (zE BK420.out 5).trans rfl, (zE BK419.out 0).trans rfl, (zE BK419.out 1).trans rfl⟩ (fun hHeld => ?_); refine with_tabW r3_Cost.tab8 r3_Cost.bits8 (fun HT_ HW_ => ?_)
        generalize w25.drew = w32 at BK419 BK420 HB hHeld ⊢
        refine pure_ (i := 0) (N := some 44) (v := ?_) (a' := ?_) (tf_ 1 10) rfl rfl (any_of HT_.out (by kernel_rfl)) (fun _ _ _ h => h) (Or.inl ⟨by rfl, ?_⟩) ?_ ?_
        rotate_left
        · intro w'
          go_simp
          with_reducible rfl
        rotate_left
        · simp only [Act.put, sA_, sB_, sC_, zM, zO]
          rfl
        refine pure_ (i := 2) (N := some 46) (v := ?_) (a' := ?_) (tb_ 5 10) rfl rfl (any_of HT_.out (by kernel_rfl)) (fun _ _ _ h => h) (Or.inl ⟨by rfl, ?_⟩) ?_ ?_
        rotate_left
        · intro w'
          go_simp
          with_reducible rfl
        rotate_left
        · simp only [Act.put, sA_, sB_, sC_, zM, zO]
          rfl
        refine pure_ (i := 5) (N := some 49) (v := ?_) (a' := ?_) (tb_ 37 10) rfl rfl (any_of HT_.out (by kernel_rfl)) (fun _ _ _ h => h) (Or.inl ⟨by rfl, ?_⟩) ?_ ?_
        rotate_left
        · intro w'
          go_simp
          with_reducible rfl
        rotate_left
        · simp only [Act.put, sA_, sB_, sC_, zM, zO]
          rfl
        refine pure_ (i := 6) (N := some 50) (v := ?_) (a' := ?_) (tb_ 101 10) rfl rfl (any_of HT_.out (by kernel_rfl)) (fun _ _ _ h => h) (Or.inl ⟨by rfl, ?_⟩) ?_ ?_
        rotate_left
        · intro w'
          go_simp
          with_reducible rfl
        rotate_left
        · simp only [Act.put, sA_, sB_, sC_, zM, zO]
          rfl
        refine take_ (i := 1) (N := some 45) (v := ?_) (a' := ?_) (tb_ 103 10) rfl rfl (take_ofW HT_.out HW_.out (by kernel_rfl)) (fun _ _ _ h => h) (Or.inl ⟨by rfl, ?_⟩) hHeld ?_ ?_
        rotate_left
        · rintro w' ⟨s0, s1, s2, s3, s4, s5, s6, s7⟩
          go_simp
          with_reducible rfl
        rotate_left
        · simp only [Act.put, sA_, sB_, sC_, zM, zO]
          rfl
        refine pure_ (i := 3) (N := some 47) (v := ?_) (a' := ?_) (tb_ 111 10) rfl rfl (any_of HT_.out (by kernel_rfl)) (fun _ _ _ h => h) (Or.inl ⟨by rfl, ?_⟩) ?_ ?_
        rotate_left
        · intro w'
          go_simp
          with_reducible rfl
        rotate_left
        · simp only [Act.put, sA_, sB_, sC_, zM, zO]
          rfl
        refine take_ (i := 4) (N := some 48) (v := ?_) (a' := ?_) (tf_ 7 10) rfl rfl (take_ofW HT_.out HW_.out (by kernel_rfl)) (fun _ _ _ h => h) (Or.inl ⟨by rfl, ?_⟩) hHeld ?_ ?_
        rotate_left
        · rintro w' ⟨s0, s1, s2, s3, s4, s5, s6, s7⟩
          go_simp
          with_reducible rfl
        rotate_left
        · simp only [Act.put, sA_, sB_, sC_, zM, zO]
          rfl
        refine one_ (i := 7) (N := some 51) (tb_ 255 10) rfl rfl (one_of HT_.out (by kernel_rfl)) (by decide) (fun K hK => ?_)
        refine goes_ Try.func34 (by kernel_rfl) rfl #[.agg #[.slice A0_0 l0_0.length c0_0, .slice (some ad422) l0_1.length c0_1], .int .i64 a1, .int .i64 a2] (by rfl) rfl rfl (by (try simp only [List.map_toArray, List.map_cons, List.map_nil]); first | done | rfl | (simp only [List.length_drop, List.length_take]; rfl)) ?_
        with_reducible refine (r3_Gaps.calls kj5 _ _ l0_0 _ _ l0_1 a1 a2 t424 _ ?side1 ?side2 ?side3 ?side4 A29.out).mono ?_
        (case side1 => repeat (first | exact (Kd.zW HR0_0.out HB.out) | (with_reducible refine Kd.zT ?_ _) | (with_reducible refine Kd.zU ?_ _) | (with_reducible refine Kd.zV ?_)))
        (case side2 => exact HC0_0.out)
        (case side3 => repeat (first | exact (Kd.zW HR0_1.out HB.out) | (with_reducible refine Kd.zT ?_ _) | (with_reducible refine Kd.zU ?_ _) | (with_reducible refine Kd.zV ?_)))
        (case side4 => exact HC0_1.out)
        rintro e w33 ⟨rfl, hb⟩
        refine ⟨_, rfl, ?_⟩
        replace BK419 := zA.mk (zK (by (with_reducible repeat (first | refine zC ?_ _ | refine zD ?_ | refine zB ?_ _)); exact BK419.out) hb)
        replace BK420 := zA.mk (zK (by (with_reducible repeat (first | refine zC ?_ _ | refine zD ?_ | refine zB ?_ _)); exact BK420.out) hb)
        replace HB := zA.mk (zN (by repeat (first | (with_reducible first | exact HB.out | apply zJ | apply zG | apply zI | refine zF ?_ GE419.out | refine zF ?_ GE420.out) | exact HB.out)) hb)
        (try clear hb)
        (try clear hb2)
        (try clear hk)
        (try clear hi)
        refine hK.out _ _ ⟨(zE BK420.out 0).trans rfl, (zE BK420.out 1).trans rfl, (zE BK420.out 2).trans rfl, (zE BK420.out 3).trans rfl, (zE BK420.out 4).trans rfl, (zE BK420.out 5).trans rfl, (zE BK419.out 0).trans rfl, (zE BK419.out 1).trans rfl⟩ (fun hHeld => ?_)
        clear hK K; refine norm_ (a' := ?_) ?_ ?_
        rotate_left
        · show Act.put _ (some 51) _ = _
          simp only [Act.put, sA_, sB_, sC_, zM, zO]; rfl
        refine one_ (i := 8) (N := some 52) (tb_ 511 10) rfl rfl (one_of HT_.out (by kernel_rfl)) (by decide) (fun K hK => ?_)
        refine goes_ Try.func33 (by kernel_rfl) rfl #[.int .i64 (wrap64 (a4_0 - t423)), .int .i64 t424] (by rfl) rfl rfl (by (try simp only [List.map_toArray, List.map_cons, List.map_nil]); first | done | rfl | (simp only [List.length_drop, List.length_take]; rfl)) ?_
        with_reducible refine (r2_Of.calls (wrap64 (a4_0 - t423)) t424 t425 _ A30.out).mono ?_
        rintro e w' ⟨bt_t425, rfl, ⟨nd, rfl⟩, hfr_⟩; have HF_t425 := zA.mk hfr_; clear hfr_; have c31b0r : (FloatKind.f64.format.order bt_t425 a4_5 == some .gt) = true := (by first | (rw [HF_t425.out.order_l]; exact c31b0) | (rw [HF_t425.out.order_r]; exact c31b0)); have c31b1r : decide (FloatKind.f64.format.order bt_t425 a4_5 = some .gt) = true := (by first | (rw [HF_t425.out.order_l]; exact c31b1) | (rw [HF_t425.out.order_r]; exact c31b1)); have c31b2r : (FloatKind.f64.format.order bt_t425 a4_5 == some .gt) = true := (by first | (rw [HF_t425.out.order_l]; exact c31b2) | (rw [HF_t425.out.order_r]; exact c31b2))
        refine ⟨_, rfl, ?_⟩
        refine hK.out _ _ ⟨(zE BK420.out 0).trans rfl, (zE BK420.out 1).trans rfl, (zE BK420.out 2).trans rfl, (zE BK420.out 3).trans rfl, (zE BK420.out 4).trans rfl, (zE BK420.out 5).trans rfl, (zE BK419.out 0).trans rfl, (zE BK419.out 1).trans rfl⟩ (fun hHeld => ?_)
        clear hK K; refine norm_ (a' := ?_) ?_ ?_
        rotate_left
        · show Act.put _ (some 52) _ = _
          simp only [Act.put, sA_, sB_, sC_, zM, zO]; rfl
        refine pure_ (i := 9) (N := some 14) (v := ?_) (a' := ?_) (tb_ 1023 10) rfl rfl (any_of HT_.out (by kernel_rfl)) (fun _ _ _ h => h) (Or.inl ⟨by rfl, ?_⟩) ?_ ?_
        rotate_left
        · intro w'
          go_simp
          with_reducible rfl
        rotate_left
        · simp only [Act.put, sA_, sB_, sC_, zM, zO]
          rfl
        refine done_ (done_of HT_.out (by kernel_rfl)) ?_
        have hnb34 := NB420_419.out; have hnc34 := NB419_420.out; have hcz35_0 : w33.cell? ⟨gb420, 0, none⟩ = some (.int .i64 a4_0) := (zE BK420.out 0).trans rfl
        have hcz35_1 : w33.cell? ⟨gb420, 1, none⟩ = some (.int .i64 a4_1) := (zE BK420.out 1).trans rfl
        have hcz35_2 : w33.cell? ⟨gb420, 2, none⟩ = some (.int .u8 a4_2) := (zE BK420.out 2).trans rfl
        have hcz35_3 : w33.cell? ⟨gb420, 3, none⟩ = some (.int .i64 a4_3) := (zE BK420.out 3).trans rfl
        have hcz35_4 : w33.cell? ⟨gb420, 4, none⟩ = some (.int .i64 a4_4) := (zE BK420.out 4).trans rfl
        have hcz35_5 : w33.cell? ⟨gb420, 5, none⟩ = some (.float .f64 a4_5) := (zE BK420.out 5).trans rfl
        have hfz35_0 := zH BK420.out 0; have hfz35_1 := zH BK420.out 1; have hfz35_2 := zH BK420.out 2; have hfz35_3 := zH BK420.out 3; have hfz35_4 := zH BK420.out 4; have hfz35_5 := zH BK420.out 5; try go_wp2
        go_ret2
        exact ⟨by first | rfl | (simp [errW_none, errW_some] <;> rfl) | (simp [*, errW_none, errW_some] <;> rfl), by repeat (first | (with_reducible first | exact HB.out | apply zJ | apply zG | apply zI | refine zF ?_ GE419.out | refine zF ?_ GE420.out) | exact HB.out)⟩
      rw [if_neg c31] at H; have c31b0 : (FloatKind.f64.format.order t425 a4_5 == some .gt) = false := by simpa using c31
      (try (have c31b1 : decide (FloatKind.f64.format.order t425 a4_5 = some .gt) = false := by simpa using c31))
      (try (have c31b2 : (FloatKind.f64.format.order t425 a4_5 == some .gt) = false := by simpa using c31))
      (try (have c31b3 : ¬ (FloatKind.f64.format.order t425 a4_5 = some .gt) := by simpa using c31))
      clear c31; (first | rw [c31b0] | (simp only [zM, zO]; rw [c31b0]) | skip)
      replace H := Option.bind_eq_some_iff.mp H; obtain ⟨t426, A360, H⟩ := H; replace H : (r3_Cost.j1 kj5 a1 a2 t426 l0_0 l0_1 a4_0 a4_1 a4_2 a4_3 a4_4 a4_5) = some (r1, r2) := H; have A36 := zA.mk A360; clear A360; have H' := zA.mk H
      clear H; try go_wp2
      replace BK419 := zA.mk (zD BK419.out); replace BK420 := zA.mk (zD BK420.out); replace HB := zA.mk (zI HB.out); refine start_ (n := 10) (S := fun w' => w'.cell? ⟨gb420, 0, none⟩ = some (.int .i64 a4_0) ∧ w'.cell? ⟨gb420, 1, none⟩ = some (.int .i64 a4_1) ∧ w'.cell? ⟨gb420, 2, none⟩ = some (.int .u8 a4_2) ∧ w'.cell? ⟨gb420, 3, none⟩ = some (.int .i64 a4_3) ∧ w'.cell? ⟨gb420, 4, none⟩ = some (.int .i64 a4_4) ∧ w'.cell? ⟨gb420, 5, none⟩ = some (.float .f64 a4_5) ∧ w'.cell? ⟨gb419, 0, none⟩ = some (.slice A0_0 l0_0.length c0_0) ∧ w'.cell? ⟨gb419, 1, none⟩ = some (.slice (some ad422) l0_1.length c0_1)) (ds := []) #[false, false, false, false, false, false, false, false, false, false] (by kernel_rfl) rfl rfl ⟨(zE BK420.out 0).trans rfl, (zE BK420.out 1).trans rfl, (zE BK420.out 2).trans rfl, (zE BK420.out 3).trans rfl, (zE BK420.out 4).trans rfl, (zE BK420.out 5).trans rfl, (zE BK419.out 0).trans rfl, (zE BK419.out 1).trans rfl⟩ (fun hHeld => ?_); refine with_tabW r3_Cost.tab8 r3_Cost.bits8 (fun HT_ HW_ => ?_)
      generalize w25.drew = w37 at BK419 BK420 HB hHeld ⊢
      refine pure_ (i := 0) (N := some 44) (v := ?_) (a' := ?_) (tf_ 1 10) rfl rfl (any_of HT_.out (by kernel_rfl)) (fun _ _ _ h => h) (Or.inl ⟨by rfl, ?_⟩) ?_ ?_
      rotate_left
      · intro w'
        go_simp
        with_reducible rfl
      rotate_left
      · simp only [Act.put, sA_, sB_, sC_, zM, zO]
        rfl
      refine pure_ (i := 2) (N := some 46) (v := ?_) (a' := ?_) (tb_ 5 10) rfl rfl (any_of HT_.out (by kernel_rfl)) (fun _ _ _ h => h) (Or.inl ⟨by rfl, ?_⟩) ?_ ?_
      rotate_left
      · intro w'
        go_simp
        with_reducible rfl
      rotate_left
      · simp only [Act.put, sA_, sB_, sC_, zM, zO]
        rfl
      refine pure_ (i := 5) (N := some 49) (v := ?_) (a' := ?_) (tb_ 37 10) rfl rfl (any_of HT_.out (by kernel_rfl)) (fun _ _ _ h => h) (Or.inl ⟨by rfl, ?_⟩) ?_ ?_
      rotate_left
      · intro w'
        go_simp
        with_reducible rfl
      rotate_left
      · simp only [Act.put, sA_, sB_, sC_, zM, zO]
        rfl
      refine pure_ (i := 6) (N := some 50) (v := ?_) (a' := ?_) (tb_ 101 10) rfl rfl (any_of HT_.out (by kernel_rfl)) (fun _ _ _ h => h) (Or.inl ⟨by rfl, ?_⟩) ?_ ?_
      rotate_left
      · intro w'
        go_simp
        with_reducible rfl
      rotate_left
      · simp only [Act.put, sA_, sB_, sC_, zM, zO]
        rfl
      refine take_ (i := 1) (N := some 45) (v := ?_) (a' := ?_) (tb_ 103 10) rfl rfl (take_ofW HT_.out HW_.out (by kernel_rfl)) (fun _ _ _ h => h) (Or.inl ⟨by rfl, ?_⟩) hHeld ?_ ?_
      rotate_left
      · rintro w' ⟨s0, s1, s2, s3, s4, s5, s6, s7⟩
        go_simp
        with_reducible rfl
      rotate_left
      · simp only [Act.put, sA_, sB_, sC_, zM, zO]
        rfl
      refine pure_ (i := 3) (N := some 47) (v := ?_) (a' := ?_) (tb_ 111 10) rfl rfl (any_of HT_.out (by kernel_rfl)) (fun _ _ _ h => h) (Or.inl ⟨by rfl, ?_⟩) ?_ ?_
      rotate_left
      · intro w'
        go_simp
        with_reducible rfl
      rotate_left
      · simp only [Act.put, sA_, sB_, sC_, zM, zO]
        rfl
      refine take_ (i := 4) (N := some 48) (v := ?_) (a' := ?_) (tf_ 7 10) rfl rfl (take_ofW HT_.out HW_.out (by kernel_rfl)) (fun _ _ _ h => h) (Or.inl ⟨by rfl, ?_⟩) hHeld ?_ ?_
      rotate_left
      · rintro w' ⟨s0, s1, s2, s3, s4, s5, s6, s7⟩
        go_simp
        with_reducible rfl
      rotate_left
      · simp only [Act.put, sA_, sB_, sC_, zM, zO]
        rfl
      refine one_ (i := 7) (N := some 51) (tb_ 255 10) rfl rfl (one_of HT_.out (by kernel_rfl)) (by decide) (fun K hK => ?_)
      refine goes_ Try.func34 (by kernel_rfl) rfl #[.agg #[.slice A0_0 l0_0.length c0_0, .slice (some ad422) l0_1.length c0_1], .int .i64 a1, .int .i64 a2] (by rfl) rfl rfl (by (try simp only [List.map_toArray, List.map_cons, List.map_nil]); first | done | rfl | (simp only [List.length_drop, List.length_take]; rfl)) ?_
      with_reducible refine (r3_Gaps.calls kj5 _ _ l0_0 _ _ l0_1 a1 a2 t424 _ ?side1 ?side2 ?side3 ?side4 A29.out).mono ?_
      (case side1 => repeat (first | exact (Kd.zW HR0_0.out HB.out) | (with_reducible refine Kd.zT ?_ _) | (with_reducible refine Kd.zU ?_ _) | (with_reducible refine Kd.zV ?_)))
      (case side2 => exact HC0_0.out)
      (case side3 => repeat (first | exact (Kd.zW HR0_1.out HB.out) | (with_reducible refine Kd.zT ?_ _) | (with_reducible refine Kd.zU ?_ _) | (with_reducible refine Kd.zV ?_)))
      (case side4 => exact HC0_1.out)
      rintro e w38 ⟨rfl, hb⟩
      refine ⟨_, rfl, ?_⟩
      replace BK419 := zA.mk (zK (by (with_reducible repeat (first | refine zC ?_ _ | refine zD ?_ | refine zB ?_ _)); exact BK419.out) hb)
      replace BK420 := zA.mk (zK (by (with_reducible repeat (first | refine zC ?_ _ | refine zD ?_ | refine zB ?_ _)); exact BK420.out) hb)
      replace HB := zA.mk (zN (by repeat (first | (with_reducible first | exact HB.out | apply zJ | apply zG | apply zI | refine zF ?_ GE419.out | refine zF ?_ GE420.out) | exact HB.out)) hb)
      (try clear hb)
      (try clear hb2)
      (try clear hk)
      (try clear hi)
      refine hK.out _ _ ⟨(zE BK420.out 0).trans rfl, (zE BK420.out 1).trans rfl, (zE BK420.out 2).trans rfl, (zE BK420.out 3).trans rfl, (zE BK420.out 4).trans rfl, (zE BK420.out 5).trans rfl, (zE BK419.out 0).trans rfl, (zE BK419.out 1).trans rfl⟩ (fun hHeld => ?_)
      clear hK K; refine norm_ (a' := ?_) ?_ ?_
      rotate_left
      · show Act.put _ (some 51) _ = _
        simp only [Act.put, sA_, sB_, sC_, zM, zO]; rfl
      refine one_ (i := 8) (N := some 52) (tb_ 511 10) rfl rfl (one_of HT_.out (by kernel_rfl)) (by decide) (fun K hK => ?_)
      refine goes_ Try.func33 (by kernel_rfl) rfl #[.int .i64 (wrap64 (a4_0 - t423)), .int .i64 t424] (by rfl) rfl rfl (by (try simp only [List.map_toArray, List.map_cons, List.map_nil]); first | done | rfl | (simp only [List.length_drop, List.length_take]; rfl)) ?_
      with_reducible refine (r2_Of.calls (wrap64 (a4_0 - t423)) t424 t425 _ A30.out).mono ?_
      rintro e w' ⟨bt_t425, rfl, ⟨nd, rfl⟩, hfr_⟩; have HF_t425 := zA.mk hfr_; clear hfr_; have c31b0r : (FloatKind.f64.format.order bt_t425 a4_5 == some .gt) = false := (by first | (rw [HF_t425.out.order_l]; exact c31b0) | (rw [HF_t425.out.order_r]; exact c31b0)); have c31b1r : decide (FloatKind.f64.format.order bt_t425 a4_5 = some .gt) = false := (by first | (rw [HF_t425.out.order_l]; exact c31b1) | (rw [HF_t425.out.order_r]; exact c31b1)); have c31b2r : (FloatKind.f64.format.order bt_t425 a4_5 == some .gt) = false := (by first | (rw [HF_t425.out.order_l]; exact c31b2) | (rw [HF_t425.out.order_r]; exact c31b2)); have c31b3r : ¬ (FloatKind.f64.format.order bt_t425 a4_5 = some .gt) := (by first | (rw [HF_t425.out.order_l]; exact c31b3) | (rw [HF_t425.out.order_r]; exact c31b3))
      refine ⟨_, rfl, ?_⟩
      refine hK.out _ _ ⟨(zE BK420.out 0).trans rfl, (zE BK420.out 1).trans rfl, (zE BK420.out 2).trans rfl, (zE BK420.out 3).trans rfl, (zE BK420.out 4).trans rfl, (zE BK420.out 5).trans rfl, (zE BK419.out 0).trans rfl, (zE BK419.out 1).trans rfl⟩ (fun hHeld => ?_)
      clear hK K; refine norm_ (a' := ?_) ?_ ?_
      rotate_left
      · show Act.put _ (some 52) _ = _
        simp only [Act.put, sA_, sB_, sC_, zM, zO]; rfl
      refine pure_ (i := 9) (N := some 14) (v := ?_) (a' := ?_) (tb_ 1023 10) rfl rfl (any_of HT_.out (by kernel_rfl)) (fun _ _ _ h => h) (Or.inl ⟨by rfl, ?_⟩) ?_ ?_
      rotate_left
      · intro w'
        go_simp
        with_reducible rfl
      rotate_left
      · simp only [Act.put, sA_, sB_, sC_, zM, zO]
        rfl
      refine done_ (done_of HT_.out (by kernel_rfl)) ?_
      have hnb39 := NB420_419.out; have hnc39 := NB419_420.out; have hcz40_0 : w38.cell? ⟨gb420, 0, none⟩ = some (.int .i64 a4_0) := (zE BK420.out 0).trans rfl
      have hcz40_1 : w38.cell? ⟨gb420, 1, none⟩ = some (.int .i64 a4_1) := (zE BK420.out 1).trans rfl
      have hcz40_2 : w38.cell? ⟨gb420, 2, none⟩ = some (.int .u8 a4_2) := (zE BK420.out 2).trans rfl
      have hcz40_3 : w38.cell? ⟨gb420, 3, none⟩ = some (.int .i64 a4_3) := (zE BK420.out 3).trans rfl
      have hcz40_4 : w38.cell? ⟨gb420, 4, none⟩ = some (.int .i64 a4_4) := (zE BK420.out 4).trans rfl
      have hcz40_5 : w38.cell? ⟨gb420, 5, none⟩ = some (.float .f64 a4_5) := (zE BK420.out 5).trans rfl
      have hfz40_0 := zH BK420.out 0; have hfz40_1 := zH BK420.out 1; have hfz40_2 := zH BK420.out 2; have hfz40_3 := zH BK420.out 3; have hfz40_4 := zH BK420.out 4; have hfz40_5 := zH BK420.out 5; try go_wp2_with (first | ((with_reducible refine gate_callee (f := 35) rfl ?_); refine goesL_ (some 58) rfl rfl Try.func35 (by kernel_rfl) rfl #[.float .f64 bt_t425] rfl (by (try simp only [List.map_toArray, List.map_cons, List.map_nil]); first | done | rfl | (simp only [List.length_drop, List.length_take]; rfl)) ?_; (with_reducible refine (r2_Badness.calls kj5 t425 t426 _ A36.out).mono ?_); rintro e w' ⟨rfl, ⟨nd, rfl⟩⟩; refine ⟨_, rfl, ?_⟩))
      go_meet
      case rel => exact ⟨_, (t426), (by first | rfl | (simp; done) | (simp [*]; done)), H', ⟨by have := HJ5.out; first | omega | exact Nat.le_refl _⟩, ⟨by (with_reducible repeat (first | refine zC ?_ _ | refine zD ?_ | refine zB ?_ _)); exact BK419.out⟩, ⟨by (with_reducible repeat (first | refine zC ?_ _ | refine zD ?_ | refine zB ?_ _)); exact BK420.out⟩, ⟨by repeat (first | (with_reducible first | exact HB.out | apply zJ | apply zG | apply zI | refine zF ?_ GE419.out | refine zF ?_ GE420.out) | exact HB.out)⟩⟩
    clear HC23; obtain ⟨kq, x13_22, rfl, HA, HJ22, BK419, BK420, HB⟩ := hcut; cases kq with
    | zero => exact absurd HA.out (by simp [r3_Cost.j1])
    | succ kj22 =>
      have H := HA.out; clear HA; simp only [r3_Cost.j1] at H; by_cases c41 : 0 ≤ a2
      rotate_left
      · rw [if_neg c41] at H
        exact absurd H (by simp)
      rw [if_pos c41] at H; have c41b0 : decide (0 ≤ a2) = true := decide_eq_true c41
      clear c41; by_cases c42 : a2 < (l0_1.length : Int)
      rotate_left
      · rw [if_neg c42] at H
        exact absurd H (by simp)
      rw [if_pos c42] at H; have c42b0 : decide (a2 < (l0_1.length : Int)) = true := decide_eq_true c42
      clear c42; by_cases c43 : (rd l0_1 a2) = 3
      rotate_left
      · rw [if_neg c43] at H
        have c43b0 : ((rd l0_1 a2) == 3) = false := beq_eq_false_iff_ne.mpr c43
        have c43b1 : ((rd l0_1 a2) != 3) = true := bne_iff_ne.mpr c43
        simp only [Option.some.injEq, Prod.mk.injEq] at H; obtain ⟨rfl, rfl⟩ := H; have hnb53 := NB419_420.out; have hnc53 := NB420_419.out; have hcz54_0 : wc.cell? ⟨gb419, 0, none⟩ = some (.slice A0_0 l0_0.length c0_0) := (zE BK419.out 0).trans rfl
        have hcz54_1 : wc.cell? ⟨gb419, 1, none⟩ = some (.slice (some ad422) l0_1.length c0_1) := (zE BK419.out 1).trans rfl
        have hfz54_0 := zH BK419.out 0; have hfz54_1 := zH BK419.out 1; have p427 : 0 ≤ (a2 : Int) := of_decide_eq_true (by first | (with_reducible assumption) | assumption)
        have q427 : a2 < (l0_1.length : Int) := of_decide_eq_true (by first | (with_reducible assumption) | assumption)
        obtain ⟨ad427, e427, hx427_0⟩ := Kd.at_int HR0_1.out a2 p427 q427; obtain rfl : ad422 = ad427 := (by injection e427)
        replace hx427_0 := (HB.out.cell (World.block_lt_of_cell? w _ hx427_0)).trans hx427_0; replace p427 := eq_true p427; replace q427 := eq_true q427; go_wp2
        go_ret2
        exact ⟨by first | rfl | (simp [errW_none, errW_some] <;> rfl) | (simp [*, errW_none, errW_some] <;> rfl), by repeat (first | (with_reducible first | exact HB.out | apply zJ | apply zG | apply zI | refine zF ?_ GE419.out | refine zF ?_ GE420.out) | exact HB.out)⟩
      rw [if_pos c43] at H; have c43b0 : ((rd l0_1 a2) == 3) = true := beq_iff_eq.mpr c43
      have c43b1 : ((rd l0_1 a2) != 3) = false := bne_eq_false_iff_eq.mpr c43
      clear c43; by_cases c44 : 0 ≤ a1
      rotate_left
      · rw [if_neg c44] at H
        exact absurd H (by simp)
      rw [if_pos c44] at H; have c44b0 : decide (0 ≤ a1) = true := decide_eq_true c44
      clear c44; by_cases c45 : a1 < (l0_1.length : Int)
      rotate_left
      · rw [if_neg c45] at H
        exact absurd H (by simp)
      rw [if_pos c45] at H; have c45b0 : decide (a1 < (l0_1.length : Int)) = true := decide_eq_true c45
      clear c45; by_cases c46 : (rd l0_1 a1) = 3
      · rw [if_pos c46] at H
        have c46b0 : ((rd l0_1 a1) == 3) = true := beq_iff_eq.mpr c46
        have c46b1 : ((rd l0_1 a1) != 3) = false := bne_eq_false_iff_eq.mpr c46
        clear c46; simp only [Option.some.injEq, Prod.mk.injEq] at H; obtain ⟨rfl, rfl⟩ := H; have hnb47 := NB419_420.out; have hnc47 := NB420_419.out; have hcz48_0 : wc.cell? ⟨gb419, 0, none⟩ = some (.slice A0_0 l0_0.length c0_0) := (zE BK419.out 0).trans rfl
        have hcz48_1 : wc.cell? ⟨gb419, 1, none⟩ = some (.slice (some ad422) l0_1.length c0_1) := (zE BK419.out 1).trans rfl
        have hfz48_0 := zH BK419.out 0; have hfz48_1 := zH BK419.out 1; have p427 : 0 ≤ (a2 : Int) := of_decide_eq_true (by first | (with_reducible assumption) | assumption)
        have q427 : a2 < (l0_1.length : Int) := of_decide_eq_true (by first | (with_reducible assumption) | assumption)
        obtain ⟨ad427, e427, hx427_0⟩ := Kd.at_int HR0_1.out a2 p427 q427; obtain rfl : ad422 = ad427 := (by injection e427)
        replace hx427_0 := (HB.out.cell (World.block_lt_of_cell? w _ hx427_0)).trans hx427_0; replace p427 := eq_true p427; replace q427 := eq_true q427; have hcz49_0 : wc.cell? ⟨gb420, 0, none⟩ = some (.int .i64 a4_0) := (zE BK420.out 0).trans rfl
        have hcz49_1 : wc.cell? ⟨gb420, 1, none⟩ = some (.int .i64 a4_1) := (zE BK420.out 1).trans rfl
        have hcz49_2 : wc.cell? ⟨gb420, 2, none⟩ = some (.int .u8 a4_2) := (zE BK420.out 2).trans rfl
        have hcz49_3 : wc.cell? ⟨gb420, 3, none⟩ = some (.int .i64 a4_3) := (zE BK420.out 3).trans rfl
        have hcz49_4 : wc.cell? ⟨gb420, 4, none⟩ = some (.int .i64 a4_4) := (zE BK420.out 4).trans rfl
        have hcz49_5 : wc.cell? ⟨gb420, 5, none⟩ = some (.float .f64 a4_5) := (zE BK420.out 5).trans rfl
        have hfz49_0 := zH BK420.out 0; have hfz49_1 := zH BK420.out 1; have hfz49_2 := zH BK420.out 2; have hfz49_3 := zH BK420.out 3; have hfz49_4 := zH BK420.out 4; have hfz49_5 := zH BK420.out 5; have p428 : 0 ≤ (a1 : Int) := of_decide_eq_true (by first | (with_reducible assumption) | assumption)
        have q428 : a1 < (l0_1.length : Int) := of_decide_eq_true (by first | (with_reducible assumption) | assumption)
        obtain ⟨ad428, e428, hx428_0⟩ := Kd.at_int HR0_1.out a1 p428 q428; obtain rfl : ad422 = ad428 := (by injection e428)
        replace hx428_0 := (HB.out.cell (World.block_lt_of_cell? w _ hx428_0)).trans hx428_0; replace p428 := eq_true p428; replace q428 := eq_true q428; go_wp2
        go_ret2
        exact ⟨by first | rfl | (simp [errW_none, errW_some] <;> rfl) | (simp [*, errW_none, errW_some] <;> rfl), by repeat (first | (with_reducible first | exact HB.out | apply zJ | apply zG | apply zI | refine zF ?_ GE419.out | refine zF ?_ GE420.out) | exact HB.out)⟩
      rw [if_neg c46] at H; have c46b0 : ((rd l0_1 a1) == 3) = false := beq_eq_false_iff_ne.mpr c46
      have c46b1 : ((rd l0_1 a1) != 3) = true := bne_iff_ne.mpr c46
      simp only [Option.some.injEq, Prod.mk.injEq] at H; obtain ⟨rfl, rfl⟩ := H; have hnb50 := NB419_420.out; have hnc50 := NB420_419.out; have hcz51_0 : wc.cell? ⟨gb419, 0, none⟩ = some (.slice A0_0 l0_0.length c0_0) := (zE BK419.out 0).trans rfl
      have hcz51_1 : wc.cell? ⟨gb419, 1, none⟩ = some (.slice (some ad422) l0_1.length c0_1) := (zE BK419.out 1).trans rfl
      have hfz51_0 := zH BK419.out 0; have hfz51_1 := zH BK419.out 1; have p427 : 0 ≤ (a2 : Int) := of_decide_eq_true (by first | (with_reducible assumption) | assumption)
      have q427 : a2 < (l0_1.length : Int) := of_decide_eq_true (by first | (with_reducible assumption) | assumption)
      obtain ⟨ad427, e427, hx427_0⟩ := Kd.at_int HR0_1.out a2 p427 q427; obtain rfl : ad422 = ad427 := (by injection e427)
      replace hx427_0 := (HB.out.cell (World.block_lt_of_cell? w _ hx427_0)).trans hx427_0; replace p427 := eq_true p427; replace q427 := eq_true q427; have hcz52_0 : wc.cell? ⟨gb420, 0, none⟩ = some (.int .i64 a4_0) := (zE BK420.out 0).trans rfl
      have hcz52_1 : wc.cell? ⟨gb420, 1, none⟩ = some (.int .i64 a4_1) := (zE BK420.out 1).trans rfl
      have hcz52_2 : wc.cell? ⟨gb420, 2, none⟩ = some (.int .u8 a4_2) := (zE BK420.out 2).trans rfl
      have hcz52_3 : wc.cell? ⟨gb420, 3, none⟩ = some (.int .i64 a4_3) := (zE BK420.out 3).trans rfl
      have hcz52_4 : wc.cell? ⟨gb420, 4, none⟩ = some (.int .i64 a4_4) := (zE BK420.out 4).trans rfl
      have hcz52_5 : wc.cell? ⟨gb420, 5, none⟩ = some (.float .f64 a4_5) := (zE BK420.out 5).trans rfl
      have hfz52_0 := zH BK420.out 0; have hfz52_1 := zH BK420.out 1; have hfz52_2 := zH BK420.out 2; have hfz52_3 := zH BK420.out 3; have hfz52_4 := zH BK420.out 4; have hfz52_5 := zH BK420.out 5; have p428 : 0 ≤ (a1 : Int) := of_decide_eq_true (by first | (with_reducible assumption) | assumption)
      have q428 : a1 < (l0_1.length : Int) := of_decide_eq_true (by first | (with_reducible assumption) | assumption)
      obtain ⟨ad428, e428, hx428_0⟩ := Kd.at_int HR0_1.out a1 p428 q428; obtain rfl : ad422 = ad428 := (by injection e428)
      replace hx428_0 := (HB.out.cell (World.block_lt_of_cell? w _ hx428_0)).trans hx428_0; replace p428 := eq_true p428; replace q428 := eq_true q428; go_wp2
      go_ret2
      exact ⟨by first | rfl | (simp [errW_none, errW_some] <;> rfl) | (simp [*, errW_none, errW_some] <;> rfl), by repeat (first | (with_reducible first | exact HB.out | apply zJ | apply zG | apply zI | refine zF ?_ GE419.out | refine zF ?_ GE420.out) | exact HB.out)⟩
mutual
def l6_LinesEach.j0 : Nat → List (S63) → List Int → Bool → Int → Int → Int → Int → Int → Nat → Option (Bool)
  | 0, _, _, _, _, _, _, _, _, _ => none
  | k + 1, x0, x2, x29, x430000, x430001, x430002, x430003, x430004, x430005 => if x29 = true then (some true) else ((h3_Para.f k x0).bind fun bt431 => ((h3_Config.f x430000 x430001 x430002 x430003 x430004 x430005).bind fun bt437 => (l6_LinesEach.l0 k ([] : List (S54)) 0 0 true x2 (x2.length : Int) 0 bt431.1 bt431.2 bt437.1 bt437.2.1 bt437.2.2.1 bt437.2.2.2.1 bt437.2.2.2.2.1 bt437.2.2.2.2.2)))
def l6_LinesEach.l0 : Nat → List (S54) → Int → Int → Bool → List Int → Int → Int → List (S66) → List Int → Int → Int → Int → Int → Int → Nat → Option (Bool)
  | 0, _, _, _, _, _, _, _, _, _, _, _, _, _, _, _ => none
  | k + 1, x9, x10, x11, x12, x34, x35, x36, x444000, x444001, x445000, x445001, x445002, x445003, x445004, x445005 => if x36 < x35 then (if 0 ≤ x36 then (if x36 < (x34.length : Int) then (if x10 = (x444000.length : Int) then ((lines_Cost.f k x444000 x444001 x9 x445000 x445001 x445002 x445003 x445004 x445005).bind fun bt448 => (if (bt448.2 == x12) = true then (if x12 = true then (if bt448.1 = x11 then (some true) else (some false)) else (some (bt448.1 == 0))) else (some false))) else (if (IntKind.u64.wrap (wrap64 ((x444000.length : Int) - x10))) = 0 then (none) else (if 0 ≤ (wrap64 ((wrap64 (x10 + 1)) + (wrap64 (Int.tmod (IntKind.u64.wrap (rd x34 x36)) (IntKind.u64.wrap (wrap64 ((x444000.length : Int) - x10))))))) then (if (wrap64 ((wrap64 (x10 + 1)) + (wrap64 (Int.tmod (IntKind.u64.wrap (rd x34 x36)) (IntKind.u64.wrap (wrap64 ((x444000.length : Int) - x10))))))) < (x444001.length : Int) then ((r3_Line.f k x444000 x444001 x10 (wrap64 ((wrap64 (x10 + 1)) + (wrap64 (Int.tmod (IntKind.u64.wrap (rd x34 x36)) (IntKind.u64.wrap (wrap64 ((x444000.length : Int) - x10))))))) (rd x444001 (wrap64 ((wrap64 (x10 + 1)) + (wrap64 (Int.tmod (IntKind.u64.wrap (rd x34 x36)) (IntKind.u64.wrap (wrap64 ((x444000.length : Int) - x10)))))))) x445001).bind fun bt451 => (if x9.length < 4398046511104 then ((some (x9 ++ [(⟨bt451.1, bt451.2.1, bt451.2.2.1, bt451.2.2.2⟩ : S54)] : List (S54))).bind fun y455 => ((r3_Cost.f k x444000 x444001 x10 (wrap64 ((wrap64 (x10 + 1)) + (wrap64 (Int.tmod (IntKind.u64.wrap (rd x34 x36)) (IntKind.u64.wrap (wrap64 ((x444000.length : Int) - x10))))))) ((rd x444001 (wrap64 ((wrap64 (x10 + 1)) + (wrap64 (Int.tmod (IntKind.u64.wrap (rd x34 x36)) (IntKind.u64.wrap (wrap64 ((x444000.length : Int) - x10)))))))) == 2) x445000 x445001 x445002 x445003 x445004 x445005).bind fun bt459 => (if x12 = true then (l6_LinesEach.l0 k y455 (wrap64 ((wrap64 (x10 + 1)) + (wrap64 (Int.tmod (IntKind.u64.wrap (rd x34 x36)) (IntKind.u64.wrap (wrap64 ((x444000.length : Int) - x10))))))) (wrap64 (x11 + bt459.1)) bt459.2 x34 x35 (wrap64 (x36 + 1)) x444000 x444001 x445000 x445001 x445002 x445003 x445004 x445005) else (l6_LinesEach.l0 k y455 (wrap64 ((wrap64 (x10 + 1)) + (wrap64 (Int.tmod (IntKind.u64.wrap (rd x34 x36)) (IntKind.u64.wrap (wrap64 ((x444000.length : Int) - x10))))))) (wrap64 (x11 + bt459.1)) false x34 x35 (wrap64 (x36 + 1)) x444000 x444001 x445000 x445001 x445002 x445003 x445004 x445005)))) else (none))) else (none)) else (none)))) else (none)) else (none)) else ((lines_Cost.f k x444000 x444001 x9 x445000 x445001 x445002 x445003 x445004 x445005).bind fun bt445 => (if (bt445.2 == x12) = true then (if x12 = true then (if bt445.1 = x11 then (some true) else (some false)) else (some (bt445.1 == 0))) else (some false)))
end
def l6_LinesEach.f (k : Nat) (l0 : List (S63)) (a1_0 : Int) (a1_1 : Int) (a1_2 : Int) (a1_3 : Int) (a1_4 : Int) (a1_5 : Nat) (l2 : List Int) : Option (Bool) := (l6_Awake.f k).bind fun t430 => (if t430 = true then (if (l0.length : Int) > 300 then (l6_LinesEach.j0 k l0 l2 true a1_0 a1_1 a1_2 a1_3 a1_4 a1_5) else (l6_LinesEach.j0 k l0 l2 (decide ((l2.length : Int) > 100)) a1_0 a1_1 a1_2 a1_3 a1_4 a1_5)) else (some false))
theorem l6_LinesEach.mono_l : ∀ k, (∀ y0 y1 y2 y3 y4 y5 y6 y7 y8, LeO (l6_LinesEach.j0 k y0 y1 y2 y3 y4 y5 y6 y7 y8) (l6_LinesEach.j0 (k + 1) y0 y1 y2 y3 y4 y5 y6 y7 y8)) ∧ (∀ y0 y1 y2 y3 y4 y5 y6 y7 y8 y9 y10 y11 y12 y13 y14, LeO (l6_LinesEach.l0 k y0 y1 y2 y3 y4 y5 y6 y7 y8 y9 y10 y11 y12 y13 y14) (l6_LinesEach.l0 (k + 1) y0 y1 y2 y3 y4 y5 y6 y7 y8 y9 y10 y11 y12 y13 y14))
  | 0 => ⟨fun _ _ _ _ _ _ _ _ _ r h => by simp [l6_LinesEach.j0] at h, fun _ _ _ _ _ _ _ _ _ _ _ _ _ _ _ r h => by simp [l6_LinesEach.l0] at h⟩
  | k + 1 => by
    obtain ⟨ih0, ih1⟩ := l6_LinesEach.mono_l k; refine ⟨?_, ?_⟩
    · intro y0 y1 y2 y3 y4 y5 y6 y7 y8
      unfold l6_LinesEach.j0
      repeat' (with_reducible first | exact ih0 _ _ _ _ _ _ _ _ _ | exact ih1 _ _ _ _ _ _ _ _ _ _ _ _ _ _ _ | exact lines_Cost.mono _ _ _ _ _ _ _ _ _ _ | exact h3_Para.mono _ _ | exact l6_Awake.mono _ | exact r3_Cost.mono _ _ _ _ _ _ _ _ _ _ _ _ | exact r3_Line.mono _ _ _ _ _ _ _ | exact LeO.refl _ | exact LeO.none _ | refine LeO.ite ?_ ?_ | refine LeO.bind ?_ (fun _ => ?_))
    · intro y0 y1 y2 y3 y4 y5 y6 y7 y8 y9 y10 y11 y12 y13 y14
      unfold l6_LinesEach.l0
      repeat' (with_reducible first | exact ih0 _ _ _ _ _ _ _ _ _ | exact ih1 _ _ _ _ _ _ _ _ _ _ _ _ _ _ _ | exact lines_Cost.mono _ _ _ _ _ _ _ _ _ _ | exact h3_Para.mono _ _ | exact l6_Awake.mono _ | exact r3_Cost.mono _ _ _ _ _ _ _ _ _ _ _ _ | exact r3_Line.mono _ _ _ _ _ _ _ | exact LeO.refl _ | exact LeO.none _ | refine LeO.ite ?_ ?_ | refine LeO.bind ?_ (fun _ => ?_))
theorem l6_LinesEach.mono : ∀ a0 a1 a2 a3 a4 a5 a6 a7 k, LeO (l6_LinesEach.f k a0 a1 a2 a3 a4 a5 a6 a7) (l6_LinesEach.f (k + 1) a0 a1 a2 a3 a4 a5 a6 a7) := by
  intro a0 a1 a2 a3 a4 a5 a6 a7 k
  obtain ⟨ih0, ih1⟩ := l6_LinesEach.mono_l k; unfold l6_LinesEach.f
  repeat' (with_reducible first | exact ih0 _ _ _ _ _ _ _ _ _ | exact ih1 _ _ _ _ _ _ _ _ _ _ _ _ _ _ _ | exact lines_Cost.mono _ _ _ _ _ _ _ _ _ _ | exact h3_Para.mono _ _ | exact l6_Awake.mono _ | exact r3_Cost.mono _ _ _ _ _ _ _ _ _ _ _ _ | exact r3_Line.mono _ _ _ _ _ _ _ | exact LeO.refl _ | exact LeO.none _ | refine LeO.ite ?_ ?_ | refine LeO.bind ?_ (fun _ => ?_))
def l6_LinesEach.T5 : Bool × List (List Nat × List Nat) := (true, [([], []), ([0], [0]), ([], []), ([2, 1], [2]), ([], []), ([], []), ([4, 1, 3, 0, 1, 4, 5], [1, 4]), ([5, 3, 6, 0, 1, 2, 3, 4, 5, 6], [3, 5])])
def l6_LinesEach.B5 : List Nat := [0, 1, 0, 7, 0, 0, 63, 127]
theorem l6_LinesEach.tab5 : rtab .any (opsOf Try.f8 5) = l6_LinesEach.T5 := by kernel_rfl
theorem l6_LinesEach.bits5 : waitsOk l6_LinesEach.T5.2 l6_LinesEach.B5 = true := by kernel_rfl
def l6_LinesEach.T14 : Bool × List (List Nat × List Nat) := (true, [([], []), ([], []), ([], []), ([], []), ([], []), ([4], [4]), ([], []), ([5, 6], [5, 6]), ([7], [7]), ([], []), ([9], [9]), ([1, 2, 3, 8, 10], [1, 2, 3, 8, 10]), ([11], [11]), ([0, 12, 11], [0, 12]), ([13, 13, 0, 1, 2, 3, 4, 5, 6, 7, 8, 9, 10, 11, 12, 13], [0, 13])])
def l6_LinesEach.B14 : List Nat := [0, 0, 0, 0, 0, 16, 0, 112, 240, 0, 512, 2046, 4094, 8191, 16383]
theorem l6_LinesEach.tab14 : rtab .any (opsOf Try.f8 14) = l6_LinesEach.T14 := by kernel_rfl
theorem l6_LinesEach.bits14 : waitsOk l6_LinesEach.T14.2 l6_LinesEach.B14 = true := by kernel_rfl
def l6_LinesEach.T15 : Bool × List (List Nat × List Nat) := (true, [([], []), ([], []), ([], []), ([], []), ([3], [3]), ([], []), ([4, 5], [4, 5]), ([6], [6]), ([7], [7]), ([], []), ([0, 1, 2, 8, 9], [0, 1, 2, 8, 9]), ([10], [10]), ([11], [11]), ([11], [11]), ([12, 10, 0, 1, 2, 3, 4, 5, 6, 7, 8, 9, 10, 11, 12], [12]), ([13, 14, 0, 1, 2, 3, 4, 5, 6, 7, 8, 9, 10, 11, 12, 13, 14], [13])])
def l6_LinesEach.B15 : List Nat := [0, 0, 0, 0, 8, 0, 56, 120, 248, 0, 1023, 2047, 4095, 4095, 8191, 32767]
theorem l6_LinesEach.tab15 : rtab .any (opsOf Try.f8 15) = l6_LinesEach.T15 := by kernel_rfl
theorem l6_LinesEach.bits15 : waitsOk l6_LinesEach.T15.2 l6_LinesEach.B15 = true := by kernel_rfl
set_option maxHeartbeats 8000000 in
set_option maxRecDepth 100000 in
theorem l6_LinesEach.calls (k : Nat) (A0 : Option Addr) (c0 : Nat) (l0 : List (S63)) (a1_0 : Int) (a1_1 : Int) (a1_2 : Int) (a1_3 : Int) (a1_4 : Int) (a1_5 : Nat) (A2 : Option Addr) (c2 : Nat) (l2 : List Int) (r : Bool) (w : World) (hr0 : Kd.C k63 w A0 l0.length l0) (hc0 : l0.length ≤ c0) (hr2 : Kd.C (Kd.int .i64) w A2 l2.length l2) (hc2 : l2.length ≤ c2) (h : l6_LinesEach.f k l0 a1_0 a1_1 a1_2 a1_3 a1_4 a1_5 l2 = some r) (hrt_ : zA (r = true)) :
    Calls Try.prog 8 #[.slice A0 l0.length c0, .agg #[.int .u8 a1_0, .int .u8 a1_1, .int .u8 a1_2, .int .u16 a1_3, .int .u16 a1_4, .float .f64 a1_5], .slice A2 l2.length c2] w fun e w' => e = .returned (.bool r) ∧ Below w.heap.size w w' := by
  have hu26 := Try.underlying26; have hu31 := Try.underlying31; have hu35 := Try.underlying35; have HR0 := zA.mk hr0; have HC0 := zA.mk hc0; clear hr0 hc0; have HR2 := zA.mk hr2; have HC2 := zA.mk hc2; clear hr2 hc2; have HB := zA.mk (Below.refl w.heap.size w); have H : ((l6_Awake.f k).bind fun t430 => (if t430 = true then (if (l0.length : Int) > 300 then (l6_LinesEach.j0 k l0 l2 true a1_0 a1_1 a1_2 a1_3 a1_4 a1_5) else (l6_LinesEach.j0 k l0 l2 (decide ((l2.length : Int) > 100)) a1_0 a1_1 a1_2 a1_3 a1_4 a1_5)) else (some false))) = some r := h
  clear h; replace H := Option.bind_eq_some_iff.mp H; obtain ⟨t430, A40, H⟩ := H; replace H : (if t430 = true then (if (l0.length : Int) > 300 then (l6_LinesEach.j0 k l0 l2 true a1_0 a1_1 a1_2 a1_3 a1_4 a1_5) else (l6_LinesEach.j0 k l0 l2 (decide ((l2.length : Int) > 100)) a1_0 a1_1 a1_2 a1_3 a1_4 a1_5)) else (some false)) = some r := H; have A4 := zA.mk A40; clear A40; by_cases c5 : t430 = true
  rotate_left
  · replace c5 := Bool.eq_false_iff.mpr c5
    subst c5; have H1 : (some false) = some r := by rw [if_neg (show ¬ (false = true) by decide)] at H; exact H
    clear H; have H := H1; clear H1; exact absurd ((Option.some.inj H).trans hrt_.out) (by decide)
  subst c5; have H1 : (if (l0.length : Int) > 300 then (l6_LinesEach.j0 k l0 l2 true a1_0 a1_1 a1_2 a1_3 a1_4 a1_5) else (l6_LinesEach.j0 k l0 l2 (decide ((l2.length : Int) > 100)) a1_0 a1_1 a1_2 a1_3 a1_4 a1_5)) = some r := by rw [if_pos rfl] at H; exact H
  clear H; have H := H1; clear H1; have HC6 := zA.mk H; clear H; go_enter Try.func8, Try.ntmps8
  go_upto_region 3 with (first | ((with_reducible refine gate_dst (N := 4) rfl ?_); (try (refine gate_guard (by rfl) ?_; dsimp only)); refine box_event ?hg (N := 4) ?hd (cs := #[.int .u8 a1_0, .int .u8 a1_1, .int .u8 a1_2, .int .u16 a1_3, .int .u16 a1_4, .float .f64 a1_5]) (t := 26) ?hr ?_; (case hd => rfl); (case hg => rfl); (case hr => first | (go_simp; done) | (go_simp; rfl)); intro gb429 hg w7 hbox hb; have n0_ := zA.mk (zN (by repeat (first | (with_reducible first | exact HB.out | apply zJ | apply zG | apply zI) | exact HB.out)) hb); have n1_ := zA.mk (hbox); have n2_ := zA.mk ((by rw [hg]; exact (zP (by repeat (first | (with_reducible first | exact HB.out | apply zJ | apply zG | apply zI) | exact HB.out))) : w.heap.size ≤ gb429)); have n3_ := zA.mk ((by rw [hg]; exact (zP (by repeat (first | (with_reducible first | exact HB.out | apply zJ | apply zG | apply zI) | exact HB.out))) : w.heap.size ≤ gb429)); clear HB; have HB := n0_; have BK429 := n1_; have GW429 := n2_; have GE429 := n3_; clear n0_ n1_ n2_ n3_; clear hb hbox hg) | ((with_reducible refine gate_callee (f := 9) rfl ?_); refine goesL_ (some 20) rfl rfl Try.func9 (by kernel_rfl) rfl #[] rfl (by (try simp only [List.map_toArray, List.map_cons, List.map_nil]); first | done | rfl | (simp only [List.length_drop, List.length_take]; rfl)) ?_; (with_reducible refine (l6_Awake.calls k  true _ A4.out (by first | exact ⟨rfl⟩ | exact hrt_)).mono ?_); rintro e w8 ⟨rfl, hb⟩; refine ⟨_, rfl, ?_⟩; have n0_ := zA.mk (zK (g := gb429) (o := .cells #[.int .u8 a1_0, .int .u8 a1_1, .int .u8 a1_2, .int .u16 a1_3, .int .u16 a1_4, .float .f64 a1_5] 26 (0, 0)) (by (with_reducible repeat (first | refine zC ?_ _ | refine zD ?_ | refine zB ?_ _)); exact BK429.out) hb); have n1_ := zA.mk (zN (by repeat (first | (with_reducible first | exact HB.out | apply zJ | apply zG | apply zI | refine zF ?_ GE429.out) | exact HB.out)) hb); clear BK429; clear HB; have BK429 := n0_; have HB := n1_; clear n0_ n1_; (try clear hb); (try clear hb2); (try clear hk); (try clear hi)))
  (try simp only [Act.put, sA_, sB_, sC_])
  go_cut [29] (fun v29 wc => ∃ (kq : Nat) (x29_5 : Bool), v29 = .bool x29_5 ∧ zA (l6_LinesEach.j0 kq l0 l2 x29_5 a1_0 a1_1 a1_2 a1_3 a1_4 a1_5 = some r) ∧ zA (kq ≤ k) ∧ zA (wc.heap[gb429]? = some (.cells #[.int .u8 a1_0, .int .u8 a1_1, .int .u8 a1_2, .int .u16 a1_3, .int .u16 a1_4, .float .f64 a1_5] 26 (0, 0))) ∧ zA (Below w.heap.size w wc))
  case first =>
    have H := HC6.out; clear HC6; by_cases c9 : (l0.length : Int) > 300
    · rw [if_pos c9] at H
      have c9b0 : decide (300 < (l0.length : Int)) = true := decide_eq_true c9
      have c9b1 : decide (300 < l0.length) = true := decide_eq_true (by omega)
      clear c9; (first | rw [c9b0] | (simp only [zM, zO]; rw [c9b0]) | skip)
      have H' := zA.mk H
      clear H; go_wp2
      go_meet
      case rel => exact ⟨_, (true), (by first | rfl | (simp; done) | (simp [*]; done)), H', ⟨by first | omega | exact Nat.le_refl _⟩, ⟨by (with_reducible repeat (first | refine zC ?_ _ | refine zD ?_ | refine zB ?_ _)); exact BK429.out⟩, ⟨by repeat (first | (with_reducible first | exact HB.out | apply zJ | apply zG | apply zI | refine zF ?_ GE429.out) | exact HB.out)⟩⟩
    rw [if_neg c9] at H; have c9b0 : decide (300 < (l0.length : Int)) = false := decide_eq_false c9
    have c9b1 : decide (300 < l0.length) = false := decide_eq_false (by omega)
    clear c9; (first | rw [c9b0] | (simp only [zM, zO]; rw [c9b0]) | skip)
    have H' := zA.mk H
    clear H; go_wp2
    go_meet
    case rel => exact ⟨_, (decide ((l2.length : Int) > 100)), (by first | rfl | (simp; done) | (simp [*]; done)), H', ⟨by first | omega | exact Nat.le_refl _⟩, ⟨by (with_reducible repeat (first | refine zC ?_ _ | refine zD ?_ | refine zB ?_ _)); exact BK429.out⟩, ⟨by repeat (first | (with_reducible first | exact HB.out | apply zJ | apply zG | apply zI | refine zF ?_ GE429.out) | exact HB.out)⟩⟩
  clear HC6; try clear c2
  try clear p2
  try clear c5
  try clear c8
  try clear c9
  try clear c9b0
  try clear c9b1
  obtain ⟨kq, x29_5, rfl, HA, HJ5, BK429, HB⟩ := hcut; cases kq with
  | zero => exact absurd HA.out (by simp [l6_LinesEach.j0])
  | succ kj5 =>
    have H := HA.out; clear HA; simp only [l6_LinesEach.j0] at H; by_cases c10 : x29_5 = true
    · subst c10
      have H1 : (some true) = some r := by rw [if_pos rfl] at H; exact H
      clear H; have H := H1; clear H1; obtain rfl := Option.some.inj H
      go_wp2
      go_ret
      exact ⟨by first | rfl | (simp [errW_none, errW_some] <;> rfl) | (simp [*, errW_none, errW_some] <;> rfl), by repeat (first | (with_reducible first | exact HB.out | apply zJ | apply zG | apply zI | refine zF ?_ GE429.out) | exact HB.out)⟩
    replace c10 := Bool.eq_false_iff.mpr c10; subst c10; have H1 : ((h3_Para.f kj5 l0).bind fun bt431 => ((h3_Config.f a1_0 a1_1 a1_2 a1_3 a1_4 a1_5).bind fun bt437 => (l6_LinesEach.l0 kj5 ([] : List (S54)) 0 0 true l2 (l2.length : Int) 0 bt431.1 bt431.2 bt437.1 bt437.2.1 bt437.2.2.1 bt437.2.2.2.1 bt437.2.2.2.2.1 bt437.2.2.2.2.2))) = some r := by rw [if_neg (show ¬ (false = true) by decide)] at H; exact H
    clear H; have H := H1; clear H1; replace H := Option.bind_eq_some_iff.mp H; obtain ⟨⟨t431, t434⟩, A110, H⟩ := H; replace H : ((h3_Config.f a1_0 a1_1 a1_2 a1_3 a1_4 a1_5).bind fun bt437 => (l6_LinesEach.l0 kj5 ([] : List (S54)) 0 0 true l2 (l2.length : Int) 0 t431 t434 bt437.1 bt437.2.1 bt437.2.2.1 bt437.2.2.2.1 bt437.2.2.2.2.1 bt437.2.2.2.2.2)) = some r := H
    have A11 := zA.mk A110; clear A110; replace H := Option.bind_eq_some_iff.mp H; obtain ⟨⟨t437, t438, t439, t440, t441, t442⟩, A120, H⟩ := H; replace H : (l6_LinesEach.l0 kj5 ([] : List (S54)) 0 0 true l2 (l2.length : Int) 0 t431 t434 t437 t438 t439 t440 t441 t442) = some r := H; have A12 := zA.mk A120; clear A120; have H' := zA.mk H
    clear H; try go_wp2
    have n0_ := zA.mk (zD BK429.out); have n1_ := zA.mk (zI HB.out); clear BK429; clear HB; have BK429 := n0_; have HB := n1_; clear n0_ n1_; refine start_ (n := 8) (S := fun w' => w'.cell? ⟨gb429, 0, none⟩ = some (.int .u8 a1_0) ∧ w'.cell? ⟨gb429, 1, none⟩ = some (.int .u8 a1_1) ∧ w'.cell? ⟨gb429, 2, none⟩ = some (.int .u8 a1_2) ∧ w'.cell? ⟨gb429, 3, none⟩ = some (.int .u16 a1_3) ∧ w'.cell? ⟨gb429, 4, none⟩ = some (.int .u16 a1_4) ∧ w'.cell? ⟨gb429, 5, none⟩ = some (.float .f64 a1_5)) (ds := []) #[false, false, false, false, false, false, false, false] (by kernel_rfl) rfl rfl ⟨(zE BK429.out 0).trans rfl, (zE BK429.out 1).trans rfl, (zE BK429.out 2).trans rfl, (zE BK429.out 3).trans rfl, (zE BK429.out 4).trans rfl, (zE BK429.out 5).trans rfl⟩ (fun hHeld => ?_); refine with_tabW l6_LinesEach.tab5 l6_LinesEach.bits5 (fun HT_ HW_ => ?_)
    generalize wc.drew = w13 at BK429 HB hHeld ⊢
    refine pure_ (i := 0) (N := some 30) (v := ?_) (a' := ?_) (tf_ 1 8) rfl rfl (any_of HT_.out (by kernel_rfl)) (fun _ _ _ h => h) (Or.inl ⟨by rfl, ?_⟩) ?_ ?_
    rotate_left
    · intro w'
      go_simp
      with_reducible rfl
    rotate_left
    · simp only [Act.put, sA_, sB_, sC_, zM, zO]
      rfl
    refine take_ (i := 2) (N := some 32) (v := ?_) (a' := ?_) #[true, false, true, false, false, false, false, false] rfl rfl (take_ofW HT_.out HW_.out (by kernel_rfl)) (fun _ _ _ h => h) (Or.inl ⟨by rfl, ?_⟩) hHeld ?_ ?_
    rotate_left
    · rintro w' ⟨s0, s1, s2, s3, s4, s5⟩
      go_simp
      with_reducible rfl
    rotate_left
    · simp only [Act.put, sA_, sB_, sC_, zM, zO]
      rfl
    refine join_ (σ := Value × Value × Nat × Nat) 2 #[true, true, true, true, true, true, false, false] (fun s_ => [(31, .agg #[s_.1, s_.2.1]), (33, .agg #[.int .i64 t437, .int .i64 t438, .int .u8 t439, .int .i64 t440, .int .i64 t441, .float .f64 t442]), (7, .pointer (some ⟨s_.2.2.1, 0, none⟩)), (8, .pointer (some ⟨s_.2.2.2, 0, none⟩))]) (fun s_ w' => (w'.cell? ⟨gb429, 0, none⟩ = some (.int .u8 a1_0) ∧ w'.cell? ⟨gb429, 1, none⟩ = some (.int .u8 a1_1) ∧ w'.cell? ⟨gb429, 2, none⟩ = some (.int .u8 a1_2) ∧ w'.cell? ⟨gb429, 3, none⟩ = some (.int .u16 a1_3) ∧ w'.cell? ⟨gb429, 4, none⟩ = some (.int .u16 a1_4) ∧ w'.cell? ⟨gb429, 5, none⟩ = some (.float .f64 a1_5)) ∧ (Kd.R k66 66 w' w.heap.size (fun _ => True) s_.1 t431) ∧ (Kd.R (Kd.int .u8) 51 w' w.heap.size (fun _ => True) s_.2.1 t434) ∧ (w'.heap[gb429]? = some (.cells #[.int .u8 a1_0, .int .u8 a1_1, .int .u8 a1_2, .int .u16 a1_3, .int .u16 a1_4, .float .f64 a1_5] 26 (0, 0))) ∧ (w'.heap[s_.2.2.1]? = some (.cells #[.slice none 0 0, .slice none 0 0] 31 (0, 0))) ∧ (w'.heap[s_.2.2.2]? = some (.cells #[.int .i64 0, .int .i64 0, .int .u8 0, .int .i64 0, .int .i64 0, .float .f64 0] 35 (0, 0))) ∧ (w.heap.size ≤ s_.2.2.1) ∧ (w.heap.size ≤ s_.2.2.1) ∧ (gb429 ≠ s_.2.2.1) ∧ (s_.2.2.1 ≠ gb429) ∧ (s_.2.2.2 ≠ s_.2.2.1) ∧ (s_.2.2.1 ≠ s_.2.2.2) ∧ (w.heap.size ≤ s_.2.2.2) ∧ (w.heap.size ≤ s_.2.2.2) ∧ (gb429 ≠ s_.2.2.2) ∧ (s_.2.2.2 ≠ gb429) ∧ (Below w.heap.size w w')) ?_ ?_
    rotate_left
    · intro hJ1_3_4_5
      refine par4_ (fuel := 2) (l' := #[true, true, true, true, true, true, false, false]) (i1 := 1) (i3 := 3) (i4 := 4) (i5 := 5) (σ := Value × Value) (cs4 := #[.slice none 0 0, .slice none 0 0]) (t4 := 31) (cs5 := #[.int .i64 0, .int .i64 0, .int .u8 0, .int .i64 0, .int .i64 0, .float .f64 0]) (t5 := 35) (fun s_ => .agg #[s_.1, s_.2]) (.agg #[.int .i64 t437, .int .i64 t438, .int .u8 t439, .int .i64 t440, .int .i64 t441, .float .f64 t442]) (par4_of HT_.out (by kernel_rfl)) rfl rfl rfl rfl rfl rfl rfl rfl rfl rfl (by decide) rfl (fun w_ => (w_.cell? ⟨gb429, 0, none⟩ = some (.int .u8 a1_0) ∧ w_.cell? ⟨gb429, 1, none⟩ = some (.int .u8 a1_1) ∧ w_.cell? ⟨gb429, 2, none⟩ = some (.int .u8 a1_2) ∧ w_.cell? ⟨gb429, 3, none⟩ = some (.int .u16 a1_3) ∧ w_.cell? ⟨gb429, 4, none⟩ = some (.int .u16 a1_4) ∧ w_.cell? ⟨gb429, 5, none⟩ = some (.float .f64 a1_5)) ∧ (w_.heap[gb429]? = some (.cells #[.int .u8 a1_0, .int .u8 a1_1, .int .u8 a1_2, .int .u16 a1_3, .int .u16 a1_4, .float .f64 a1_5] 26 (0, 0))) ∧ (Below w.heap.size w w_)) ?pgrow (fun _ hP_ => hP_.1) (fun s_ w_ => (Kd.R k66 66 w_ w.heap.size (fun _ => True) s_.1 t431) ∧ (Kd.R (Kd.int .u8) 51 w_ w.heap.size (fun _ => True) s_.2 t434)) ?pF (fun g_ => (w.heap.size ≤ g_) ∧ (gb429 ≠ g_) ∧ (g_ ≠ gb429)) ?pNew ?pc1 ?pc3 ?pc4 ?pc5 ?pPhi ?pcont
      case pgrow =>
        intro w0_ w1_ hP_ hb_; obtain ⟨hS_, k0_, k1_⟩ := hP_; have BK429 := zA.mk (by first | exact Kd.zY k0_ hb_ | exact zK k0_ hb_ | exact zN k0_ hb_); have HB := zA.mk (by first | exact Kd.zY k1_ hb_ | exact zK k1_ hb_ | exact zN k1_ hb_)
        exact ⟨⟨(zE BK429.out 0).trans rfl, (zE BK429.out 1).trans rfl, (zE BK429.out 2).trans rfl, (zE BK429.out 3).trans rfl, (zE BK429.out 4).trans rfl, (zE BK429.out 5).trans rfl⟩, BK429.out, HB.out⟩
      case pF => intro s_ w0_ w1_ hP_ hb_; obtain ⟨f0_, f1_⟩ := hP_; exact ⟨(by first | exact Kd.zY f0_ hb_ | exact zK f0_ hb_ | exact zN f0_ hb_), (by first | exact Kd.zY f1_ hb_ | exact zK f1_ hb_ | exact zN f1_ hb_)⟩
      case pNew => intro w0_ hP_; obtain ⟨hS_, k0_, k1_⟩ := hP_; (try have l0_ := blk_lt k0_); (try have m0_ := zP k0_); (try have l1_ := blk_lt k1_); (try have m1_ := zP k1_); refine ⟨?_, ?_, ?_⟩ <;> omega
      case pc1 =>
        intro a_ W_ K_ hev_ hP_ h_; obtain ⟨hS_, k0_, k1_⟩ := hP_; have BK429 := zA.mk k0_; have HB := zA.mk k1_
        refine goes_ Try.func10 (by kernel_rfl) rfl #[.slice A0 l0.length c0] (by rfl) rfl rfl (by simp only [List.map_toArray, List.map_cons, List.map_nil]; first | rfl | (simp (disch := decide) only [hev_]; rfl) | (rw [hev_ _ (by decide) (by decide) (by decide) (by decide)]; rfl)) ?_
        with_reducible refine (h3_Para.calls kj5 _ _ l0 t431 t434 _ ?side1 ?side2 A11.out).mono ?_
        (case side1 => repeat (first | exact (Kd.zW HR0.out HB.out) | (with_reducible refine Kd.zT ?_ _) | (with_reducible refine Kd.zU ?_ _) | (with_reducible refine Kd.zV ?_)))
        (case side2 => exact HC0.out)
        rintro e w14 ⟨v432, v435, rfl, ho0, ho1, hb⟩
        refine ⟨_, rfl, ?_⟩
        exact h_ (v432, v435) _ hb ⟨(Kd.zAb ho0 (zP (by repeat (first | (with_reducible first | exact HB.out | apply zJ | apply zG | apply zI | refine zF ?_ GE429.out) | exact HB.out)))), (Kd.zAb ho1 (zP (by repeat (first | (with_reducible first | exact HB.out | apply zJ | apply zG | apply zI | refine zF ?_ GE429.out) | exact HB.out))))⟩
      case pc3 =>
        intro a_ W_ K_ hev_ hP_ h_; obtain ⟨hS_, k0_, k1_⟩ := hP_; have BK429 := zA.mk k0_; have HB := zA.mk k1_
        refine goes_ Try.func11 (by kernel_rfl) rfl #[.agg #[.int .u8 a1_0, .int .u8 a1_1, .int .u8 a1_2, .int .u16 a1_3, .int .u16 a1_4, .float .f64 a1_5]] (by rfl) rfl rfl (by simp only [List.map_toArray, List.map_cons, List.map_nil]; first | rfl | (simp (disch := decide) only [hev_]; rfl) | (rw [hev_ _ (by decide) (by decide) (by decide) (by decide)]; rfl)) ?_
        with_reducible refine (h3_Config.calls a1_0 a1_1 a1_2 a1_3 a1_4 a1_5 t437 t438 t439 t440 t441 t442 _ A12.out).mono ?_
        rintro e w16 ⟨rfl, hb⟩
        refine ⟨_, rfl, ?_⟩
        exact h_ _ hb
      case pc4 => intro a_ W_; first | (go_simp; done) | (go_simp; rfl)
      case pc5 => intro a_ W_; first | (go_simp; done) | (go_simp; rfl)
      case pPhi => exact ⟨hHeld, BK429.out, HB.out⟩
      case pcont => intro s_ gb443 gb444 w18 hP_ hF_ y4_ y5_ x4_ x5_ he_; obtain ⟨hS_, k0_, k1_⟩ := hP_; obtain ⟨v432, v435⟩ := s_; obtain ⟨f0_, f1_⟩ := hF_; exact hJ1_3_4_5 (v432, v435, gb443, gb444) _ ⟨hS_, f0_, f1_, k0_, y4_, y5_, x4_.1, x4_.1, x4_.2.1, x4_.2.2, (Ne.symm he_), he_, x5_.1, x5_.1, x5_.2.1, x5_.2.2, k1_⟩
    rintro ⟨v432, v435, gb443, gb444⟩ w18 ⟨hS_, h0_, h1_, h2_, h3_, h4_, h5_, h6_, h7_, h8_, h9_, h10_, h11_, h12_, h13_, h14_, h15_⟩
    have n0_ : zA (Kd.R k66 66 w18 w.heap.size (fun _ => True) v432 t431) := ⟨h0_⟩
    have n1_ : zA (Kd.R (Kd.int .u8) 51 w18 w.heap.size (fun _ => True) v435 t434) := ⟨h1_⟩
    have n2_ : zA (w18.heap[gb429]? = some (.cells #[.int .u8 a1_0, .int .u8 a1_1, .int .u8 a1_2, .int .u16 a1_3, .int .u16 a1_4, .float .f64 a1_5] 26 (0, 0))) := ⟨h2_⟩
    have n3_ : zA (w18.heap[gb443]? = some (.cells #[.slice none 0 0, .slice none 0 0] 31 (0, 0))) := ⟨h3_⟩
    have n4_ : zA (w18.heap[gb444]? = some (.cells #[.int .i64 0, .int .i64 0, .int .u8 0, .int .i64 0, .int .i64 0, .float .f64 0] 35 (0, 0))) := ⟨h4_⟩
    have n5_ : zA (w.heap.size ≤ gb443) := ⟨h5_⟩
    have n6_ : zA (w.heap.size ≤ gb443) := ⟨h6_⟩
    have n7_ : zA (gb429 ≠ gb443) := ⟨h7_⟩
    have n8_ : zA (gb443 ≠ gb429) := ⟨h8_⟩
    have n9_ : zA (gb444 ≠ gb443) := ⟨h9_⟩
    have n10_ : zA (gb443 ≠ gb444) := ⟨h10_⟩
    have n11_ : zA (w.heap.size ≤ gb444) := ⟨h11_⟩
    have n12_ : zA (w.heap.size ≤ gb444) := ⟨h12_⟩
    have n13_ : zA (gb429 ≠ gb444) := ⟨h13_⟩
    have n14_ : zA (gb444 ≠ gb429) := ⟨h14_⟩
    have n15_ : zA (Below w.heap.size w w18) := ⟨h15_⟩
    clear BK429 HB h0_ h1_ h2_ h3_ h4_ h5_ h6_ h7_ h8_ h9_ h10_ h11_ h12_ h13_ h14_ h15_; have HO433 := n0_; have HO436 := n1_; have BK429 := n2_; have BK443 := n3_; have BK444 := n4_; have GW443 := n5_; have GE443 := n6_; have NB429_443 := n7_; have NB443_429 := n8_; have NB444_443 := n9_; have NB443_444 := n10_; have GW444 := n11_; have GE444 := n12_; have NB429_444 := n13_; have NB444_429 := n14_; have HB := n15_; clear n0_ n1_ n2_ n3_ n4_ n5_ n6_ n7_ n8_ n9_ n10_ n11_ n12_ n13_ n14_ n15_; have hHeld : w18.cell? ⟨gb429, 0, none⟩ = some (.int .u8 a1_0) ∧ w18.cell? ⟨gb429, 1, none⟩ = some (.int .u8 a1_1) ∧ w18.cell? ⟨gb429, 2, none⟩ = some (.int .u8 a1_2) ∧ w18.cell? ⟨gb429, 3, none⟩ = some (.int .u16 a1_3) ∧ w18.cell? ⟨gb429, 4, none⟩ = some (.int .u16 a1_4) ∧ w18.cell? ⟨gb429, 5, none⟩ = some (.float .f64 a1_5) := hS_
    obtain ⟨Ao19, co19, eo19⟩ := Kd.zAa HO433.out; (first | subst eo19 | (injection eo19 with f1_ f2_ f3_; have f4_ := f1_.symm; have f5_ := f3_.symm; clear f1_ f2_ f3_; subst f4_; subst f5_))
    obtain ⟨Ao21, co21, eo21⟩ := Kd.zAa HO436.out; (first | subst eo21 | (injection eo21 with f1_ f2_ f3_; have f4_ := f1_.symm; have f5_ := f3_.symm; clear f1_ f2_ f3_; subst f4_; subst f5_))
    refine norm_ (a' := ?_) ?_ ?_
    rotate_left
    · simp only [putAll, Act.put, sA_, sB_, sC_]
      rfl
    refine one_ (i := 6) (N := none) #[true, true, true, true, true, true, true, false] rfl rfl (one_of HT_.out (by kernel_rfl)) (by decide) (fun K hK => ?_)
    have hs20 : w18.cell? ⟨gb443, 0, none⟩ = some (.slice none 0 0) := (zE BK443.out 0).trans rfl
    have hfs20 := zH BK443.out 0; have hns20_0 := NB429_443.out; have hns20_2 := NB444_443.out; have hms20_0 := NB443_429.out; have hms20_2 := NB443_444.out; have hs22 : w18.cell? ⟨gb443, 1, none⟩ = some (.slice none 0 0) := (zE BK443.out 1).trans rfl
    have hfs22 := zH BK443.out 1; have hns22_0 := NB429_443.out; have hns22_2 := NB444_443.out; have hms22_0 := NB443_429.out; have hms22_2 := NB443_444.out; refine skip_ (w1 := ?_) (by rfl) rfl ?_ ?_
    rotate_left
    · go_simp
      rfl
    refine hK.out _ _ ⟨((cell_far (p := ⟨gb443, _, none⟩) NB429_443.out _).trans (((cell_far (p := ⟨gb443, _, none⟩) NB429_443.out _).trans (hHeld.1)))), ((cell_far (p := ⟨gb443, _, none⟩) NB429_443.out _).trans (((cell_far (p := ⟨gb443, _, none⟩) NB429_443.out _).trans (hHeld.2.1)))), ((cell_far (p := ⟨gb443, _, none⟩) NB429_443.out _).trans (((cell_far (p := ⟨gb443, _, none⟩) NB429_443.out _).trans (hHeld.2.2.1)))), ((cell_far (p := ⟨gb443, _, none⟩) NB429_443.out _).trans (((cell_far (p := ⟨gb443, _, none⟩) NB429_443.out _).trans (hHeld.2.2.2.1)))), ((cell_far (p := ⟨gb443, _, none⟩) NB429_443.out _).trans (((cell_far (p := ⟨gb443, _, none⟩) NB429_443.out _).trans (hHeld.2.2.2.2.1)))), ((cell_far (p := ⟨gb443, _, none⟩) NB429_443.out _).trans (((cell_far (p := ⟨gb443, _, none⟩) NB429_443.out _).trans (hHeld.2.2.2.2.2))))⟩ (fun hHeld => ?_)
    clear hK K; refine one_ (i := 7) (N := none) #[true, true, true, true, true, true, true, true] rfl rfl (one_of HT_.out (by kernel_rfl)) (by decide) (fun K hK => ?_)
    have hs23 : w18.cell? ⟨gb444, 0, none⟩ = some (.int .i64 0) := (zE BK444.out 0).trans rfl
    have hfs23 := zH BK444.out 0; have hns23_0 := NB429_444.out; have hns23_1 := NB443_444.out; have hms23_0 := NB444_429.out; have hms23_1 := NB444_443.out; have hs24 : w18.cell? ⟨gb444, 1, none⟩ = some (.int .i64 0) := (zE BK444.out 1).trans rfl
    have hfs24 := zH BK444.out 1; have hns24_0 := NB429_444.out; have hns24_1 := NB443_444.out; have hms24_0 := NB444_429.out; have hms24_1 := NB444_443.out; have hs25 : w18.cell? ⟨gb444, 2, none⟩ = some (.int .u8 0) := (zE BK444.out 2).trans rfl
    have hfs25 := zH BK444.out 2; have hns25_0 := NB429_444.out; have hns25_1 := NB443_444.out; have hms25_0 := NB444_429.out; have hms25_1 := NB444_443.out; have hs26 : w18.cell? ⟨gb444, 3, none⟩ = some (.int .i64 0) := (zE BK444.out 3).trans rfl
    have hfs26 := zH BK444.out 3; have hns26_0 := NB429_444.out; have hns26_1 := NB443_444.out; have hms26_0 := NB444_429.out; have hms26_1 := NB444_443.out; have hs27 : w18.cell? ⟨gb444, 4, none⟩ = some (.int .i64 0) := (zE BK444.out 4).trans rfl
    have hfs27 := zH BK444.out 4; have hns27_0 := NB429_444.out; have hns27_1 := NB443_444.out; have hms27_0 := NB444_429.out; have hms27_1 := NB444_443.out; have hs28 : w18.cell? ⟨gb444, 5, none⟩ = some (.float .f64 0) := (zE BK444.out 5).trans rfl
    have hfs28 := zH BK444.out 5; have hns28_0 := NB429_444.out; have hns28_1 := NB443_444.out; have hms28_0 := NB444_429.out; have hms28_1 := NB444_443.out; refine skip_ (w1 := ?_) (by rfl) rfl ?_ ?_
    rotate_left
    · go_simp
      rfl
    refine hK.out _ _ ⟨((cell_far (p := ⟨gb444, _, none⟩) NB429_444.out _).trans (((cell_far (p := ⟨gb444, _, none⟩) NB429_444.out _).trans (((cell_far (p := ⟨gb444, _, none⟩) NB429_444.out _).trans (((cell_far (p := ⟨gb444, _, none⟩) NB429_444.out _).trans (((cell_far (p := ⟨gb444, _, none⟩) NB429_444.out _).trans (((cell_far (p := ⟨gb444, _, none⟩) NB429_444.out _).trans (hHeld.1)))))))))))), ((cell_far (p := ⟨gb444, _, none⟩) NB429_444.out _).trans (((cell_far (p := ⟨gb444, _, none⟩) NB429_444.out _).trans (((cell_far (p := ⟨gb444, _, none⟩) NB429_444.out _).trans (((cell_far (p := ⟨gb444, _, none⟩) NB429_444.out _).trans (((cell_far (p := ⟨gb444, _, none⟩) NB429_444.out _).trans (((cell_far (p := ⟨gb444, _, none⟩) NB429_444.out _).trans (hHeld.2.1)))))))))))), ((cell_far (p := ⟨gb444, _, none⟩) NB429_444.out _).trans (((cell_far (p := ⟨gb444, _, none⟩) NB429_444.out _).trans (((cell_far (p := ⟨gb444, _, none⟩) NB429_444.out _).trans (((cell_far (p := ⟨gb444, _, none⟩) NB429_444.out _).trans (((cell_far (p := ⟨gb444, _, none⟩) NB429_444.out _).trans (((cell_far (p := ⟨gb444, _, none⟩) NB429_444.out _).trans (hHeld.2.2.1)))))))))))), ((cell_far (p := ⟨gb444, _, none⟩) NB429_444.out _).trans (((cell_far (p := ⟨gb444, _, none⟩) NB429_444.out _).trans (((cell_far (p := ⟨gb444, _, none⟩) NB429_444.out _).trans (((cell_far (p := ⟨gb444, _, none⟩) NB429_444.out _).trans (((cell_far (p := ⟨gb444, _, none⟩) NB429_444.out _).trans (((cell_far (p := ⟨gb444, _, none⟩) NB429_444.out _).trans (hHeld.2.2.2.1)))))))))))), ((cell_far (p := ⟨gb444, _, none⟩) NB429_444.out _).trans (((cell_far (p := ⟨gb444, _, none⟩) NB429_444.out _).trans (((cell_far (p := ⟨gb444, _, none⟩) NB429_444.out _).trans (((cell_far (p := ⟨gb444, _, none⟩) NB429_444.out _).trans (((cell_far (p := ⟨gb444, _, none⟩) NB429_444.out _).trans (((cell_far (p := ⟨gb444, _, none⟩) NB429_444.out _).trans (hHeld.2.2.2.2.1)))))))))))), ((cell_far (p := ⟨gb444, _, none⟩) NB429_444.out _).trans (((cell_far (p := ⟨gb444, _, none⟩) NB429_444.out _).trans (((cell_far (p := ⟨gb444, _, none⟩) NB429_444.out _).trans (((cell_far (p := ⟨gb444, _, none⟩) NB429_444.out _).trans (((cell_far (p := ⟨gb444, _, none⟩) NB429_444.out _).trans (((cell_far (p := ⟨gb444, _, none⟩) NB429_444.out _).trans (hHeld.2.2.2.2.2))))))))))))⟩ (fun hHeld => ?_)
    clear hK K; refine done_ (done_of HT_.out (by kernel_rfl)) ?_
    try go_wp2
    go_loopg [9, 10, 11, 12, 36] kj5 (fun kq v9 v10 v11 v12 v36 w' => ∃ (x9_2 : List (S54)) (x10_2 : Int) (x11_2 : Int) (x12_2 : Bool) (x36_2 : Int), v10 = .int .i64 x10_2 ∧ v11 = .int .i64 x11_2 ∧ v12 = .bool x12_2 ∧ v36 = .int .i64 x36_2 ∧ zA (l6_LinesEach.l0 kq x9_2 x10_2 x11_2 x12_2 l2 (l2.length : Int) x36_2 t431 t434 t437 t438 t439 t440 t441 t442 = some r) ∧ zA (kq ≤ kj5) ∧ zA (Kd.R k54 54 w' w.heap.size (fun _ => True) v9 x9_2) ∧ zA (Kd.R k66 66 w' w.heap.size (fun _ => True) (.slice Ao19 t431.length co19) t431) ∧ zA (Kd.R (Kd.int .u8) 51 w' w.heap.size (fun _ => True) (.slice Ao21 t434.length co21) t434) ∧ zA (w'.heap[gb429]? = some (.cells #[.int .u8 a1_0, .int .u8 a1_1, .int .u8 a1_2, .int .u16 a1_3, .int .u16 a1_4, .float .f64 a1_5] 26 (0, 0))) ∧ zA (w'.heap[gb443]? = some (.cells #[(.slice Ao19 t431.length co19), (.slice Ao21 t434.length co21)] 31 (0, 0))) ∧ zA (w'.heap[gb444]? = some (.cells #[.int .i64 t437, .int .i64 t438, .int .u8 t439, .int .i64 t440, .int .i64 t441, .float .f64 t442] 35 (0, 0))) ∧ zA (Below w.heap.size w w'))
    case atStart => exact ⟨(([] : List (S54))), (0), (0), (true), (0), (by first | rfl | (simp; done) | (simp [*]; done)), (by first | rfl | (simp; done) | (simp [*]; done)), (by first | rfl | (simp; done) | (simp [*]; done)), (by first | rfl | (simp; done) | (simp [*]; done)), H', ⟨Nat.le_refl _⟩, ⟨by first | exact Kd.R_nil _ _ _ _ _ | exact Kd.N_nil _ _ _ _ _ | exact Kd.V_nil _ _ _ _ _ | exact Kd.Q_nil _ _ _ _ _ | exact Kd.S_nil _ _ _ _ _⟩, ⟨by (with_reducible repeat (first | apply Kd.zQ | apply Kd.zR | apply Kd.zS)); exact Kd.zAc (Kd.zZ (p := ⟨gb444, 5, none⟩) (Kd.zZ (p := ⟨gb444, 4, none⟩) (Kd.zZ (p := ⟨gb444, 3, none⟩) (Kd.zZ (p := ⟨gb444, 2, none⟩) (Kd.zZ (p := ⟨gb444, 1, none⟩) (Kd.zZ (p := ⟨gb444, 0, none⟩) (Kd.zZ (p := ⟨gb443, 1, none⟩) (Kd.zZ (p := ⟨gb443, 0, none⟩) (Kd.zAd (Kd.zAd HO433.out BK443.out (by decide)) BK444.out (by decide)) (fun _ hk => hk.1.2) (.slice Ao19 t431.length co19)) (fun _ hk => hk.1.2) (.slice Ao21 t434.length co21)) (fun _ hk => hk.2) (.int .i64 t437)) (fun _ hk => hk.2) (.int .i64 t438)) (fun _ hk => hk.2) (.int .u8 t439)) (fun _ hk => hk.2) (.int .i64 t440)) (fun _ hk => hk.2) (.int .i64 t441)) (fun _ hk => hk.2) (.float .f64 t442)) (fun _ hk => trivial)⟩, ⟨by (with_reducible repeat (first | apply Kd.zQ | apply Kd.zR | apply Kd.zS)); exact Kd.zAc (Kd.zZ (p := ⟨gb444, 5, none⟩) (Kd.zZ (p := ⟨gb444, 4, none⟩) (Kd.zZ (p := ⟨gb444, 3, none⟩) (Kd.zZ (p := ⟨gb444, 2, none⟩) (Kd.zZ (p := ⟨gb444, 1, none⟩) (Kd.zZ (p := ⟨gb444, 0, none⟩) (Kd.zZ (p := ⟨gb443, 1, none⟩) (Kd.zZ (p := ⟨gb443, 0, none⟩) (Kd.zAd (Kd.zAd HO436.out BK443.out (by decide)) BK444.out (by decide)) (fun _ hk => hk.1.2) (.slice Ao19 t431.length co19)) (fun _ hk => hk.1.2) (.slice Ao21 t434.length co21)) (fun _ hk => hk.2) (.int .i64 t437)) (fun _ hk => hk.2) (.int .i64 t438)) (fun _ hk => hk.2) (.int .u8 t439)) (fun _ hk => hk.2) (.int .i64 t440)) (fun _ hk => hk.2) (.int .i64 t441)) (fun _ hk => hk.2) (.float .f64 t442)) (fun _ hk => trivial)⟩, ⟨by (with_reducible repeat (first | refine zC ?_ _ | refine zD ?_ | refine zB ?_ _)); refine zL ?_ NB429_444.out _; (with_reducible repeat (first | refine zC ?_ _ | refine zD ?_ | refine zB ?_ _)); refine zL ?_ NB429_444.out _; (with_reducible repeat (first | refine zC ?_ _ | refine zD ?_ | refine zB ?_ _)); refine zL ?_ NB429_444.out _; (with_reducible repeat (first | refine zC ?_ _ | refine zD ?_ | refine zB ?_ _)); refine zL ?_ NB429_444.out _; (with_reducible repeat (first | refine zC ?_ _ | refine zD ?_ | refine zB ?_ _)); refine zL ?_ NB429_444.out _; (with_reducible repeat (first | refine zC ?_ _ | refine zD ?_ | refine zB ?_ _)); refine zL ?_ NB429_444.out _; (with_reducible repeat (first | refine zC ?_ _ | refine zD ?_ | refine zB ?_ _)); refine zL ?_ NB429_443.out _; (with_reducible repeat (first | refine zC ?_ _ | refine zD ?_ | refine zB ?_ _)); refine zL ?_ NB429_443.out _; (with_reducible repeat (first | refine zC ?_ _ | refine zD ?_ | refine zB ?_ _)); exact BK429.out⟩, ⟨by (with_reducible repeat (first | refine zC ?_ _ | refine zD ?_ | refine zB ?_ _)); refine zL ?_ NB443_444.out _; (with_reducible repeat (first | refine zC ?_ _ | refine zD ?_ | refine zB ?_ _)); refine zL ?_ NB443_444.out _; (with_reducible repeat (first | refine zC ?_ _ | refine zD ?_ | refine zB ?_ _)); refine zL ?_ NB443_444.out _; (with_reducible repeat (first | refine zC ?_ _ | refine zD ?_ | refine zB ?_ _)); refine zL ?_ NB443_444.out _; (with_reducible repeat (first | refine zC ?_ _ | refine zD ?_ | refine zB ?_ _)); refine zL ?_ NB443_444.out _; (with_reducible repeat (first | refine zC ?_ _ | refine zD ?_ | refine zB ?_ _)); refine zL ?_ NB443_444.out _; (with_reducible repeat (first | refine zC ?_ _ | refine zD ?_ | refine zB ?_ _)); refine blk_put (cs := #[.slice Ao19 t431.length co19, .slice none 0 0]) ?_ 1 _ rfl; (with_reducible repeat (first | refine zC ?_ _ | refine zD ?_ | refine zB ?_ _)); refine blk_put (cs := #[.slice none 0 0, .slice none 0 0]) ?_ 0 _ rfl; (with_reducible repeat (first | refine zC ?_ _ | refine zD ?_ | refine zB ?_ _)); exact BK443.out⟩, ⟨by (with_reducible repeat (first | refine zC ?_ _ | refine zD ?_ | refine zB ?_ _)); refine blk_put (cs := #[.int .i64 t437, .int .i64 t438, .int .u8 t439, .int .i64 t440, .int .i64 t441, .float .f64 0]) ?_ 5 _ rfl; (with_reducible repeat (first | refine zC ?_ _ | refine zD ?_ | refine zB ?_ _)); refine blk_put (cs := #[.int .i64 t437, .int .i64 t438, .int .u8 t439, .int .i64 t440, .int .i64 0, .float .f64 0]) ?_ 4 _ rfl; (with_reducible repeat (first | refine zC ?_ _ | refine zD ?_ | refine zB ?_ _)); refine blk_put (cs := #[.int .i64 t437, .int .i64 t438, .int .u8 t439, .int .i64 0, .int .i64 0, .float .f64 0]) ?_ 3 _ rfl; (with_reducible repeat (first | refine zC ?_ _ | refine zD ?_ | refine zB ?_ _)); refine blk_put (cs := #[.int .i64 t437, .int .i64 t438, .int .u8 0, .int .i64 0, .int .i64 0, .float .f64 0]) ?_ 2 _ rfl; (with_reducible repeat (first | refine zC ?_ _ | refine zD ?_ | refine zB ?_ _)); refine blk_put (cs := #[.int .i64 t437, .int .i64 0, .int .u8 0, .int .i64 0, .int .i64 0, .float .f64 0]) ?_ 1 _ rfl; (with_reducible repeat (first | refine zC ?_ _ | refine zD ?_ | refine zB ?_ _)); refine blk_put (cs := #[.int .i64 0, .int .i64 0, .int .u8 0, .int .i64 0, .int .i64 0, .float .f64 0]) ?_ 0 _ rfl; (with_reducible repeat (first | refine zC ?_ _ | refine zD ?_ | refine zB ?_ _)); refine zL ?_ NB444_443.out _; (with_reducible repeat (first | refine zC ?_ _ | refine zD ?_ | refine zB ?_ _)); refine zL ?_ NB444_443.out _; (with_reducible repeat (first | refine zC ?_ _ | refine zD ?_ | refine zB ?_ _)); exact BK444.out⟩, ⟨by repeat (first | (with_reducible first | exact HB.out | apply zJ | apply zG | apply zI | refine zF ?_ GE429.out | refine zF ?_ GE443.out | refine zF ?_ GE444.out) | exact HB.out)⟩⟩
    clear H'; try clear c1
    try clear p2
    try clear c11
    obtain ⟨x9_2, x10_2, x11_2, x12_2, x36_2, rfl, rfl, rfl, rfl, HA, HK2, HO_9, HO_444000, HO_444001, BK429, BK443, BK444, HB⟩ := hrel; cases gk with
    | zero => exact absurd HA.out (by simp [l6_LinesEach.l0])
    | succ k2 =>
      have H := HA.out; clear HA; simp only [l6_LinesEach.l0] at H; by_cases c29 : x36_2 < (l2.length : Int)
      rotate_left
      · rw [if_neg c29] at H
        have c29b0 : decide (x36_2 < (l2.length : Int)) = false := decide_eq_false c29
        clear c29; replace H := Option.bind_eq_some_iff.mp H; obtain ⟨⟨t445, t446⟩, A750, H⟩ := H; replace H : (if (t446 == x12_2) = true then (if x12_2 = true then (if t445 = x11_2 then (some true) else (some false)) else (some (t445 == 0))) else (some false)) = some r := H; have A75 := zA.mk A750; clear A750; by_cases c76 : (t446 == x12_2) = true
        rotate_left
        · rw [if_neg c76] at H
          have c76b0 : (t446 == x12_2) = false := by simpa using c76
          (try (have c76b1 : decide (t446 = x12_2) = false := by simpa using c76))
          (try (have c76b2 : (t446 == x12_2) = false := by simpa using c76))
          (try (have c76b3 : ¬ (t446 = x12_2) := by simpa using c76))
          clear c76; exact absurd ((Option.some.inj H).trans hrt_.out) (by decide)
        rw [if_pos c76] at H; have c76b0 : (t446 == x12_2) = true := c76
        (try (have c76b1 : decide (t446 = x12_2) = true := by simpa using c76))
        (try (have c76b2 : (t446 == x12_2) = true := by simpa using c76))
        clear c76; by_cases c77 : x12_2 = true
        rotate_left
        · replace c77 := Bool.eq_false_iff.mpr c77
          subst c77; have H1 : (some (t445 == 0)) = some r := by rw [if_neg (show ¬ (false = true) by decide)] at H; exact H
          clear H; have H := H1; clear H1; obtain rfl := Option.some.inj H
          have hnb86 := NB443_429.out; have hnc86 := NB429_443.out; have hnb87 := NB443_444.out; have hnc87 := NB444_443.out; have hcz88_0 : wr.cell? ⟨gb443, 0, none⟩ = some (.slice Ao19 t431.length co19) := (zE BK443.out 0).trans rfl
          have hcz88_1 : wr.cell? ⟨gb443, 1, none⟩ = some (.slice Ao21 t434.length co21) := (zE BK443.out 1).trans rfl
          have hfz88_0 := zH BK443.out 0; have hfz88_1 := zH BK443.out 1; have hnb89 := NB444_429.out; have hnc89 := NB429_444.out; have hcz90_0 : wr.cell? ⟨gb444, 0, none⟩ = some (.int .i64 t437) := (zE BK444.out 0).trans rfl
          have hcz90_1 : wr.cell? ⟨gb444, 1, none⟩ = some (.int .i64 t438) := (zE BK444.out 1).trans rfl
          have hcz90_2 : wr.cell? ⟨gb444, 2, none⟩ = some (.int .u8 t439) := (zE BK444.out 2).trans rfl
          have hcz90_3 : wr.cell? ⟨gb444, 3, none⟩ = some (.int .i64 t440) := (zE BK444.out 3).trans rfl
          have hcz90_4 : wr.cell? ⟨gb444, 4, none⟩ = some (.int .i64 t441) := (zE BK444.out 4).trans rfl
          have hcz90_5 : wr.cell? ⟨gb444, 5, none⟩ = some (.float .f64 t442) := (zE BK444.out 5).trans rfl
          have hfz90_0 := zH BK444.out 0; have hfz90_1 := zH BK444.out 1; have hfz90_2 := zH BK444.out 2; have hfz90_3 := zH BK444.out 3; have hfz90_4 := zH BK444.out 4; have hfz90_5 := zH BK444.out 5; obtain ⟨Ao91, co91, eo91⟩ := Kd.zAa HO_9.out; subst eo91; go_wp2_with (first | ((with_reducible refine gate_callee (f := 23) rfl ?_); refine goesL_ (some 99) rfl rfl Try.func23 (by kernel_rfl) rfl #[.agg #[.slice Ao19 t431.length co19, .slice Ao21 t434.length co21], .slice Ao91 x9_2.length co91, .agg #[.int .i64 t437, .int .i64 t438, .int .u8 t439, .int .i64 t440, .int .i64 t441, .float .f64 t442]] rfl (by (try simp only [List.map_toArray, List.map_cons, List.map_nil]); first | done | rfl | (simp only [List.length_drop, List.length_take]; rfl)) ?_; (with_reducible refine (lines_Cost.calls k2 _ _ t431 _ _ t434 _ _ x9_2 t437 t438 t439 t440 t441 t442 t445 t446 _ ?side1 ?side2 ?side3 ?side4 ?side5 ?side6 A75.out).mono ?_); (case side1 => repeat (first | exact (Kd.zX HO_444000.out).2.2 | (with_reducible refine Kd.zT ?_ _) | (with_reducible refine Kd.zU ?_ _) | (with_reducible refine Kd.zV ?_))); (case side2 => exact (Kd.zX HO_444000.out).2.1); (case side3 => repeat (first | exact (Kd.zX HO_444001.out).2.2 | (with_reducible refine Kd.zT ?_ _) | (with_reducible refine Kd.zU ?_ _) | (with_reducible refine Kd.zV ?_))); (case side4 => exact (Kd.zX HO_444001.out).2.1); (case side5 => repeat (first | exact (Kd.zX HO_9.out).2.2 | (with_reducible refine Kd.zT ?_ _) | (with_reducible refine Kd.zU ?_ _) | (with_reducible refine Kd.zV ?_))); (case side6 => exact (Kd.zX HO_9.out).2.1); rintro e w92 ⟨rfl, hb⟩; refine ⟨_, rfl, ?_⟩; have n0_ := zA.mk (Kd.zY (by (with_reducible repeat (first | apply Kd.zQ | apply Kd.zR | apply Kd.zS)); exact HO_9.out) hb); have n1_ := zA.mk (Kd.zY (by (with_reducible repeat (first | apply Kd.zQ | apply Kd.zR | apply Kd.zS)); exact HO_444000.out) hb); have n2_ := zA.mk (Kd.zY (by (with_reducible repeat (first | apply Kd.zQ | apply Kd.zR | apply Kd.zS)); exact HO_444001.out) hb); have n3_ := zA.mk (zK (g := gb429) (o := .cells #[.int .u8 a1_0, .int .u8 a1_1, .int .u8 a1_2, .int .u16 a1_3, .int .u16 a1_4, .float .f64 a1_5] 26 (0, 0)) (by (with_reducible repeat (first | refine zC ?_ _ | refine zD ?_ | refine zB ?_ _)); exact BK429.out) hb); have n4_ := zA.mk (zK (g := gb443) (o := .cells #[.slice Ao19 t431.length co19, .slice Ao21 t434.length co21] 31 (0, 0)) (by (with_reducible repeat (first | refine zC ?_ _ | refine zD ?_ | refine zB ?_ _)); exact BK443.out) hb); have n5_ := zA.mk (zK (g := gb444) (o := .cells #[.int .i64 t437, .int .i64 t438, .int .u8 t439, .int .i64 t440, .int .i64 t441, .float .f64 t442] 35 (0, 0)) (by (with_reducible repeat (first | refine zC ?_ _ | refine zD ?_ | refine zB ?_ _)); exact BK444.out) hb); have n6_ := zA.mk (zN (by repeat (first | (with_reducible first | exact HB.out | apply zJ | apply zG | apply zI | refine zF ?_ GE429.out | refine zF ?_ GE443.out | refine zF ?_ GE444.out) | exact HB.out)) hb); clear HO_9; clear HO_444000; clear HO_444001; clear BK429; clear BK443; clear BK444; clear HB; have HO_9 := n0_; have HO_444000 := n1_; have HO_444001 := n2_; have BK429 := n3_; have BK443 := n4_; have BK444 := n5_; have HB := n6_; clear n0_ n1_ n2_ n3_ n4_ n5_ n6_; (try clear hb); (try clear hb2); (try clear hk); (try clear hi)))
          go_ret
          exact ⟨by first | rfl | (simp [errW_none, errW_some] <;> rfl) | (simp [*, errW_none, errW_some] <;> rfl), by repeat (first | (with_reducible first | exact HB.out | apply zJ | apply zG | apply zI | refine zF ?_ GE429.out | refine zF ?_ GE443.out | refine zF ?_ GE444.out) | exact HB.out)⟩
        subst c77; have H1 : (if t445 = x11_2 then (some true) else (some false)) = some r := by rw [if_pos rfl] at H; exact H
        clear H; have H := H1; clear H1; by_cases c78 : t445 = x11_2
        rotate_left
        · rw [if_neg c78] at H
          have c78b0 : (t445 == x11_2) = false := beq_eq_false_iff_ne.mpr c78
          have c78b1 : (t445 != x11_2) = true := bne_iff_ne.mpr c78
          exact absurd ((Option.some.inj H).trans hrt_.out) (by decide)
        rw [if_pos c78] at H; have c78b0 : (t445 == x11_2) = true := beq_iff_eq.mpr c78
        have c78b1 : (t445 != x11_2) = false := bne_eq_false_iff_eq.mpr c78
        clear c78; obtain rfl := Option.some.inj H
        have hnb79 := NB443_429.out; have hnc79 := NB429_443.out; have hnb80 := NB443_444.out; have hnc80 := NB444_443.out; have hcz81_0 : wr.cell? ⟨gb443, 0, none⟩ = some (.slice Ao19 t431.length co19) := (zE BK443.out 0).trans rfl
        have hcz81_1 : wr.cell? ⟨gb443, 1, none⟩ = some (.slice Ao21 t434.length co21) := (zE BK443.out 1).trans rfl
        have hfz81_0 := zH BK443.out 0; have hfz81_1 := zH BK443.out 1; have hnb82 := NB444_429.out; have hnc82 := NB429_444.out; have hcz83_0 : wr.cell? ⟨gb444, 0, none⟩ = some (.int .i64 t437) := (zE BK444.out 0).trans rfl
        have hcz83_1 : wr.cell? ⟨gb444, 1, none⟩ = some (.int .i64 t438) := (zE BK444.out 1).trans rfl
        have hcz83_2 : wr.cell? ⟨gb444, 2, none⟩ = some (.int .u8 t439) := (zE BK444.out 2).trans rfl
        have hcz83_3 : wr.cell? ⟨gb444, 3, none⟩ = some (.int .i64 t440) := (zE BK444.out 3).trans rfl
        have hcz83_4 : wr.cell? ⟨gb444, 4, none⟩ = some (.int .i64 t441) := (zE BK444.out 4).trans rfl
        have hcz83_5 : wr.cell? ⟨gb444, 5, none⟩ = some (.float .f64 t442) := (zE BK444.out 5).trans rfl
        have hfz83_0 := zH BK444.out 0; have hfz83_1 := zH BK444.out 1; have hfz83_2 := zH BK444.out 2; have hfz83_3 := zH BK444.out 3; have hfz83_4 := zH BK444.out 4; have hfz83_5 := zH BK444.out 5; obtain ⟨Ao84, co84, eo84⟩ := Kd.zAa HO_9.out; subst eo84; go_wp2_with (first | ((with_reducible refine gate_callee (f := 23) rfl ?_); refine goesL_ (some 99) rfl rfl Try.func23 (by kernel_rfl) rfl #[.agg #[.slice Ao19 t431.length co19, .slice Ao21 t434.length co21], .slice Ao84 x9_2.length co84, .agg #[.int .i64 t437, .int .i64 t438, .int .u8 t439, .int .i64 t440, .int .i64 t441, .float .f64 t442]] rfl (by (try simp only [List.map_toArray, List.map_cons, List.map_nil]); first | done | rfl | (simp only [List.length_drop, List.length_take]; rfl)) ?_; (with_reducible refine (lines_Cost.calls k2 _ _ t431 _ _ t434 _ _ x9_2 t437 t438 t439 t440 t441 t442 t445 t446 _ ?side1 ?side2 ?side3 ?side4 ?side5 ?side6 A75.out).mono ?_); (case side1 => repeat (first | exact (Kd.zX HO_444000.out).2.2 | (with_reducible refine Kd.zT ?_ _) | (with_reducible refine Kd.zU ?_ _) | (with_reducible refine Kd.zV ?_))); (case side2 => exact (Kd.zX HO_444000.out).2.1); (case side3 => repeat (first | exact (Kd.zX HO_444001.out).2.2 | (with_reducible refine Kd.zT ?_ _) | (with_reducible refine Kd.zU ?_ _) | (with_reducible refine Kd.zV ?_))); (case side4 => exact (Kd.zX HO_444001.out).2.1); (case side5 => repeat (first | exact (Kd.zX HO_9.out).2.2 | (with_reducible refine Kd.zT ?_ _) | (with_reducible refine Kd.zU ?_ _) | (with_reducible refine Kd.zV ?_))); (case side6 => exact (Kd.zX HO_9.out).2.1); rintro e w85 ⟨rfl, hb⟩; refine ⟨_, rfl, ?_⟩; have n0_ := zA.mk (Kd.zY (by (with_reducible repeat (first | apply Kd.zQ | apply Kd.zR | apply Kd.zS)); exact HO_9.out) hb); have n1_ := zA.mk (Kd.zY (by (with_reducible repeat (first | apply Kd.zQ | apply Kd.zR | apply Kd.zS)); exact HO_444000.out) hb); have n2_ := zA.mk (Kd.zY (by (with_reducible repeat (first | apply Kd.zQ | apply Kd.zR | apply Kd.zS)); exact HO_444001.out) hb); have n3_ := zA.mk (zK (g := gb429) (o := .cells #[.int .u8 a1_0, .int .u8 a1_1, .int .u8 a1_2, .int .u16 a1_3, .int .u16 a1_4, .float .f64 a1_5] 26 (0, 0)) (by (with_reducible repeat (first | refine zC ?_ _ | refine zD ?_ | refine zB ?_ _)); exact BK429.out) hb); have n4_ := zA.mk (zK (g := gb443) (o := .cells #[.slice Ao19 t431.length co19, .slice Ao21 t434.length co21] 31 (0, 0)) (by (with_reducible repeat (first | refine zC ?_ _ | refine zD ?_ | refine zB ?_ _)); exact BK443.out) hb); have n5_ := zA.mk (zK (g := gb444) (o := .cells #[.int .i64 t437, .int .i64 t438, .int .u8 t439, .int .i64 t440, .int .i64 t441, .float .f64 t442] 35 (0, 0)) (by (with_reducible repeat (first | refine zC ?_ _ | refine zD ?_ | refine zB ?_ _)); exact BK444.out) hb); have n6_ := zA.mk (zN (by repeat (first | (with_reducible first | exact HB.out | apply zJ | apply zG | apply zI | refine zF ?_ GE429.out | refine zF ?_ GE443.out | refine zF ?_ GE444.out) | exact HB.out)) hb); clear HO_9; clear HO_444000; clear HO_444001; clear BK429; clear BK443; clear BK444; clear HB; have HO_9 := n0_; have HO_444000 := n1_; have HO_444001 := n2_; have BK429 := n3_; have BK443 := n4_; have BK444 := n5_; have HB := n6_; clear n0_ n1_ n2_ n3_ n4_ n5_ n6_; (try clear hb); (try clear hb2); (try clear hk); (try clear hi)))
        go_ret
        exact ⟨by first | rfl | (simp [errW_none, errW_some] <;> rfl) | (simp [*, errW_none, errW_some] <;> rfl), by repeat (first | (with_reducible first | exact HB.out | apply zJ | apply zG | apply zI | refine zF ?_ GE429.out | refine zF ?_ GE443.out | refine zF ?_ GE444.out) | exact HB.out)⟩
      rw [if_pos c29] at H; have c29b0 : decide (x36_2 < (l2.length : Int)) = true := decide_eq_true c29
      clear c29; by_cases c30 : 0 ≤ x36_2
      rotate_left
      · rw [if_neg c30] at H
        exact absurd H (by simp)
      rw [if_pos c30] at H; have c30b0 : decide (0 ≤ x36_2) = true := decide_eq_true c30
      clear c30; by_cases c31 : x36_2 < (l2.length : Int)
      rotate_left
      · rw [if_neg c31] at H
        exact absurd H (by simp)
      rw [if_pos c31] at H; have c31b0 : decide (x36_2 < (l2.length : Int)) = true := decide_eq_true c31
      clear c31; by_cases c32 : x10_2 = (t431.length : Int)
      · rw [if_pos c32] at H
        have c32b0 : (x10_2 == (t431.length : Int)) = true := beq_iff_eq.mpr c32
        have c32b1 : (x10_2 != (t431.length : Int)) = false := bne_eq_false_iff_eq.mpr c32
        clear c32; replace H := Option.bind_eq_some_iff.mp H; obtain ⟨⟨t448, t449⟩, A330, H⟩ := H; replace H : (if (t449 == x12_2) = true then (if x12_2 = true then (if t448 = x11_2 then (some true) else (some false)) else (some (t448 == 0))) else (some false)) = some r := H; have A33 := zA.mk A330; clear A330; by_cases c34 : (t449 == x12_2) = true
        rotate_left
        · rw [if_neg c34] at H
          have c34b0 : (t449 == x12_2) = false := by simpa using c34
          (try (have c34b1 : decide (t449 = x12_2) = false := by simpa using c34))
          (try (have c34b2 : (t449 == x12_2) = false := by simpa using c34))
          (try (have c34b3 : ¬ (t449 = x12_2) := by simpa using c34))
          clear c34; exact absurd ((Option.some.inj H).trans hrt_.out) (by decide)
        rw [if_pos c34] at H; have c34b0 : (t449 == x12_2) = true := c34
        (try (have c34b1 : decide (t449 = x12_2) = true := by simpa using c34))
        (try (have c34b2 : (t449 == x12_2) = true := by simpa using c34))
        clear c34; by_cases c35 : x12_2 = true
        rotate_left
        · replace c35 := Bool.eq_false_iff.mpr c35
          subst c35; have H1 : (some (t448 == 0)) = some r := by rw [if_neg (show ¬ (false = true) by decide)] at H; exact H
          clear H; have H := H1; clear H1; obtain rfl := Option.some.inj H
          have p447 : 0 ≤ (x36_2 : Int) := of_decide_eq_true (by first | (with_reducible assumption) | assumption)
          have q447 : x36_2 < (l2.length : Int) := of_decide_eq_true (by first | (with_reducible assumption) | assumption)
          obtain ⟨ad447, e447, hx447_0⟩ := Kd.at_int HR2.out x36_2 p447 q447; cases e447
          replace hx447_0 := (HB.out.cell (World.block_lt_of_cell? w _ hx447_0)).trans hx447_0; replace p447 := eq_true p447; replace q447 := eq_true q447; have hnb44 := NB443_429.out; have hnc44 := NB429_443.out; have hnb45 := NB443_444.out; have hnc45 := NB444_443.out; have hcz46_0 : wr.cell? ⟨gb443, 0, none⟩ = some (.slice Ao19 t431.length co19) := (zE BK443.out 0).trans rfl
          have hcz46_1 : wr.cell? ⟨gb443, 1, none⟩ = some (.slice Ao21 t434.length co21) := (zE BK443.out 1).trans rfl
          have hfz46_0 := zH BK443.out 0; have hfz46_1 := zH BK443.out 1; have hnb47 := NB444_429.out; have hnc47 := NB429_444.out; have hcz48_0 : wr.cell? ⟨gb444, 0, none⟩ = some (.int .i64 t437) := (zE BK444.out 0).trans rfl
          have hcz48_1 : wr.cell? ⟨gb444, 1, none⟩ = some (.int .i64 t438) := (zE BK444.out 1).trans rfl
          have hcz48_2 : wr.cell? ⟨gb444, 2, none⟩ = some (.int .u8 t439) := (zE BK444.out 2).trans rfl
          have hcz48_3 : wr.cell? ⟨gb444, 3, none⟩ = some (.int .i64 t440) := (zE BK444.out 3).trans rfl
          have hcz48_4 : wr.cell? ⟨gb444, 4, none⟩ = some (.int .i64 t441) := (zE BK444.out 4).trans rfl
          have hcz48_5 : wr.cell? ⟨gb444, 5, none⟩ = some (.float .f64 t442) := (zE BK444.out 5).trans rfl
          have hfz48_0 := zH BK444.out 0; have hfz48_1 := zH BK444.out 1; have hfz48_2 := zH BK444.out 2; have hfz48_3 := zH BK444.out 3; have hfz48_4 := zH BK444.out 4; have hfz48_5 := zH BK444.out 5; obtain ⟨Ao49, co49, eo49⟩ := Kd.zAa HO_9.out; subst eo49; go_wp2_with (first | ((with_reducible refine gate_callee (f := 23) rfl ?_); refine goesL_ (some 99) rfl rfl Try.func23 (by kernel_rfl) rfl #[.agg #[.slice Ao19 t431.length co19, .slice Ao21 t434.length co21], .slice Ao49 x9_2.length co49, .agg #[.int .i64 t437, .int .i64 t438, .int .u8 t439, .int .i64 t440, .int .i64 t441, .float .f64 t442]] rfl (by (try simp only [List.map_toArray, List.map_cons, List.map_nil]); first | done | rfl | (simp only [List.length_drop, List.length_take]; rfl)) ?_; (with_reducible refine (lines_Cost.calls k2 _ _ t431 _ _ t434 _ _ x9_2 t437 t438 t439 t440 t441 t442 t448 t449 _ ?side1 ?side2 ?side3 ?side4 ?side5 ?side6 A33.out).mono ?_); (case side1 => repeat (first | exact (Kd.zX HO_444000.out).2.2 | (with_reducible refine Kd.zT ?_ _) | (with_reducible refine Kd.zU ?_ _) | (with_reducible refine Kd.zV ?_))); (case side2 => exact (Kd.zX HO_444000.out).2.1); (case side3 => repeat (first | exact (Kd.zX HO_444001.out).2.2 | (with_reducible refine Kd.zT ?_ _) | (with_reducible refine Kd.zU ?_ _) | (with_reducible refine Kd.zV ?_))); (case side4 => exact (Kd.zX HO_444001.out).2.1); (case side5 => repeat (first | exact (Kd.zX HO_9.out).2.2 | (with_reducible refine Kd.zT ?_ _) | (with_reducible refine Kd.zU ?_ _) | (with_reducible refine Kd.zV ?_))); (case side6 => exact (Kd.zX HO_9.out).2.1); rintro e w50 ⟨rfl, hb⟩; refine ⟨_, rfl, ?_⟩; have n0_ := zA.mk (Kd.zY (by (with_reducible repeat (first | apply Kd.zQ | apply Kd.zR | apply Kd.zS)); exact HO_9.out) hb); have n1_ := zA.mk (Kd.zY (by (with_reducible repeat (first | apply Kd.zQ | apply Kd.zR | apply Kd.zS)); exact HO_444000.out) hb); have n2_ := zA.mk (Kd.zY (by (with_reducible repeat (first | apply Kd.zQ | apply Kd.zR | apply Kd.zS)); exact HO_444001.out) hb); have n3_ := zA.mk (zK (g := gb429) (o := .cells #[.int .u8 a1_0, .int .u8 a1_1, .int .u8 a1_2, .int .u16 a1_3, .int .u16 a1_4, .float .f64 a1_5] 26 (0, 0)) (by (with_reducible repeat (first | refine zC ?_ _ | refine zD ?_ | refine zB ?_ _)); exact BK429.out) hb); have n4_ := zA.mk (zK (g := gb443) (o := .cells #[.slice Ao19 t431.length co19, .slice Ao21 t434.length co21] 31 (0, 0)) (by (with_reducible repeat (first | refine zC ?_ _ | refine zD ?_ | refine zB ?_ _)); exact BK443.out) hb); have n5_ := zA.mk (zK (g := gb444) (o := .cells #[.int .i64 t437, .int .i64 t438, .int .u8 t439, .int .i64 t440, .int .i64 t441, .float .f64 t442] 35 (0, 0)) (by (with_reducible repeat (first | refine zC ?_ _ | refine zD ?_ | refine zB ?_ _)); exact BK444.out) hb); have n6_ := zA.mk (zN (by repeat (first | (with_reducible first | exact HB.out | apply zJ | apply zG | apply zI | refine zF ?_ GE429.out | refine zF ?_ GE443.out | refine zF ?_ GE444.out) | exact HB.out)) hb); clear HO_9; clear HO_444000; clear HO_444001; clear BK429; clear BK443; clear BK444; clear HB; have HO_9 := n0_; have HO_444000 := n1_; have HO_444001 := n2_; have BK429 := n3_; have BK443 := n4_; have BK444 := n5_; have HB := n6_; clear n0_ n1_ n2_ n3_ n4_ n5_ n6_; (try clear hb); (try clear hb2); (try clear hk); (try clear hi)))
          go_ret
          exact ⟨by first | rfl | (simp [errW_none, errW_some] <;> rfl) | (simp [*, errW_none, errW_some] <;> rfl), by repeat (first | (with_reducible first | exact HB.out | apply zJ | apply zG | apply zI | refine zF ?_ GE429.out | refine zF ?_ GE443.out | refine zF ?_ GE444.out) | exact HB.out)⟩
        subst c35; have H1 : (if t448 = x11_2 then (some true) else (some false)) = some r := by rw [if_pos rfl] at H; exact H
        clear H; have H := H1; clear H1; by_cases c36 : t448 = x11_2
        rotate_left
        · rw [if_neg c36] at H
          have c36b0 : (t448 == x11_2) = false := beq_eq_false_iff_ne.mpr c36
          have c36b1 : (t448 != x11_2) = true := bne_iff_ne.mpr c36
          exact absurd ((Option.some.inj H).trans hrt_.out) (by decide)
        rw [if_pos c36] at H; have c36b0 : (t448 == x11_2) = true := beq_iff_eq.mpr c36
        have c36b1 : (t448 != x11_2) = false := bne_eq_false_iff_eq.mpr c36
        clear c36; obtain rfl := Option.some.inj H
        have p447 : 0 ≤ (x36_2 : Int) := of_decide_eq_true (by first | (with_reducible assumption) | assumption)
        have q447 : x36_2 < (l2.length : Int) := of_decide_eq_true (by first | (with_reducible assumption) | assumption)
        obtain ⟨ad447, e447, hx447_0⟩ := Kd.at_int HR2.out x36_2 p447 q447; cases e447
        replace hx447_0 := (HB.out.cell (World.block_lt_of_cell? w _ hx447_0)).trans hx447_0; replace p447 := eq_true p447; replace q447 := eq_true q447; have hnb37 := NB443_429.out; have hnc37 := NB429_443.out; have hnb38 := NB443_444.out; have hnc38 := NB444_443.out; have hcz39_0 : wr.cell? ⟨gb443, 0, none⟩ = some (.slice Ao19 t431.length co19) := (zE BK443.out 0).trans rfl
        have hcz39_1 : wr.cell? ⟨gb443, 1, none⟩ = some (.slice Ao21 t434.length co21) := (zE BK443.out 1).trans rfl
        have hfz39_0 := zH BK443.out 0; have hfz39_1 := zH BK443.out 1; have hnb40 := NB444_429.out; have hnc40 := NB429_444.out; have hcz41_0 : wr.cell? ⟨gb444, 0, none⟩ = some (.int .i64 t437) := (zE BK444.out 0).trans rfl
        have hcz41_1 : wr.cell? ⟨gb444, 1, none⟩ = some (.int .i64 t438) := (zE BK444.out 1).trans rfl
        have hcz41_2 : wr.cell? ⟨gb444, 2, none⟩ = some (.int .u8 t439) := (zE BK444.out 2).trans rfl
        have hcz41_3 : wr.cell? ⟨gb444, 3, none⟩ = some (.int .i64 t440) := (zE BK444.out 3).trans rfl
        have hcz41_4 : wr.cell? ⟨gb444, 4, none⟩ = some (.int .i64 t441) := (zE BK444.out 4).trans rfl
        have hcz41_5 : wr.cell? ⟨gb444, 5, none⟩ = some (.float .f64 t442) := (zE BK444.out 5).trans rfl
        have hfz41_0 := zH BK444.out 0; have hfz41_1 := zH BK444.out 1; have hfz41_2 := zH BK444.out 2; have hfz41_3 := zH BK444.out 3; have hfz41_4 := zH BK444.out 4; have hfz41_5 := zH BK444.out 5; obtain ⟨Ao42, co42, eo42⟩ := Kd.zAa HO_9.out; subst eo42; go_wp2_with (first | ((with_reducible refine gate_callee (f := 23) rfl ?_); refine goesL_ (some 99) rfl rfl Try.func23 (by kernel_rfl) rfl #[.agg #[.slice Ao19 t431.length co19, .slice Ao21 t434.length co21], .slice Ao42 x9_2.length co42, .agg #[.int .i64 t437, .int .i64 t438, .int .u8 t439, .int .i64 t440, .int .i64 t441, .float .f64 t442]] rfl (by (try simp only [List.map_toArray, List.map_cons, List.map_nil]); first | done | rfl | (simp only [List.length_drop, List.length_take]; rfl)) ?_; (with_reducible refine (lines_Cost.calls k2 _ _ t431 _ _ t434 _ _ x9_2 t437 t438 t439 t440 t441 t442 t448 t449 _ ?side1 ?side2 ?side3 ?side4 ?side5 ?side6 A33.out).mono ?_); (case side1 => repeat (first | exact (Kd.zX HO_444000.out).2.2 | (with_reducible refine Kd.zT ?_ _) | (with_reducible refine Kd.zU ?_ _) | (with_reducible refine Kd.zV ?_))); (case side2 => exact (Kd.zX HO_444000.out).2.1); (case side3 => repeat (first | exact (Kd.zX HO_444001.out).2.2 | (with_reducible refine Kd.zT ?_ _) | (with_reducible refine Kd.zU ?_ _) | (with_reducible refine Kd.zV ?_))); (case side4 => exact (Kd.zX HO_444001.out).2.1); (case side5 => repeat (first | exact (Kd.zX HO_9.out).2.2 | (with_reducible refine Kd.zT ?_ _) | (with_reducible refine Kd.zU ?_ _) | (with_reducible refine Kd.zV ?_))); (case side6 => exact (Kd.zX HO_9.out).2.1); rintro e w43 ⟨rfl, hb⟩; refine ⟨_, rfl, ?_⟩; have n0_ := zA.mk (Kd.zY (by (with_reducible repeat (first | apply Kd.zQ | apply Kd.zR | apply Kd.zS)); exact HO_9.out) hb); have n1_ := zA.mk (Kd.zY (by (with_reducible repeat (first | apply Kd.zQ | apply Kd.zR | apply Kd.zS)); exact HO_444000.out) hb); have n2_ := zA.mk (Kd.zY (by (with_reducible repeat (first | apply Kd.zQ | apply Kd.zR | apply Kd.zS)); exact HO_444001.out) hb); have n3_ := zA.mk (zK (g := gb429) (o := .cells #[.int .u8 a1_0, .int .u8 a1_1, .int .u8 a1_2, .int .u16 a1_3, .int .u16 a1_4, .float .f64 a1_5] 26 (0, 0)) (by (with_reducible repeat (first | refine zC ?_ _ | refine zD ?_ | refine zB ?_ _)); exact BK429.out) hb); have n4_ := zA.mk (zK (g := gb443) (o := .cells #[.slice Ao19 t431.length co19, .slice Ao21 t434.length co21] 31 (0, 0)) (by (with_reducible repeat (first | refine zC ?_ _ | refine zD ?_ | refine zB ?_ _)); exact BK443.out) hb); have n5_ := zA.mk (zK (g := gb444) (o := .cells #[.int .i64 t437, .int .i64 t438, .int .u8 t439, .int .i64 t440, .int .i64 t441, .float .f64 t442] 35 (0, 0)) (by (with_reducible repeat (first | refine zC ?_ _ | refine zD ?_ | refine zB ?_ _)); exact BK444.out) hb); have n6_ := zA.mk (zN (by repeat (first | (with_reducible first | exact HB.out | apply zJ | apply zG | apply zI | refine zF ?_ GE429.out | refine zF ?_ GE443.out | refine zF ?_ GE444.out) | exact HB.out)) hb); clear HO_9; clear HO_444000; clear HO_444001; clear BK429; clear BK443; clear BK444; clear HB; have HO_9 := n0_; have HO_444000 := n1_; have HO_444001 := n2_; have BK429 := n3_; have BK443 := n4_; have BK444 := n5_; have HB := n6_; clear n0_ n1_ n2_ n3_ n4_ n5_ n6_; (try clear hb); (try clear hb2); (try clear hk); (try clear hi)))
        go_ret
        exact ⟨by first | rfl | (simp [errW_none, errW_some] <;> rfl) | (simp [*, errW_none, errW_some] <;> rfl), by repeat (first | (with_reducible first | exact HB.out | apply zJ | apply zG | apply zI | refine zF ?_ GE429.out | refine zF ?_ GE443.out | refine zF ?_ GE444.out) | exact HB.out)⟩
      rw [if_neg c32] at H; have c32b0 : (x10_2 == (t431.length : Int)) = false := beq_eq_false_iff_ne.mpr c32
      have c32b1 : (x10_2 != (t431.length : Int)) = true := bne_iff_ne.mpr c32
      by_cases c51 : (IntKind.u64.wrap (wrap64 ((t431.length : Int) - x10_2))) = 0
      · rw [if_pos c51] at H
        exact absurd H (by simp)
      rw [if_neg c51] at H; have c51b0 : ((IntKind.u64.wrap (wrap64 ((t431.length : Int) - x10_2))) == 0) = false := beq_eq_false_iff_ne.mpr c51
      have c51b1 : ((IntKind.u64.wrap (wrap64 ((t431.length : Int) - x10_2))) != 0) = true := bne_iff_ne.mpr c51
      obtain ⟨ji52, hji52⟩ : ∃ j_ : Int, (wrap64 ((wrap64 (x10_2 + 1)) + (wrap64 (Int.tmod (IntKind.u64.wrap (rd l2 x36_2)) (IntKind.u64.wrap (wrap64 ((t431.length : Int) - x10_2))))))) = j_ := ⟨_, rfl⟩; replace H : (if 0 ≤ (ji52) then (if (ji52) < (t434.length : Int) then ((r3_Line.f k2 t431 t434 x10_2 (ji52) (rd t434 (ji52)) t438).bind fun bt451 => (if x9_2.length < 4398046511104 then ((some (x9_2 ++ [(⟨bt451.1, bt451.2.1, bt451.2.2.1, bt451.2.2.2⟩ : S54)] : List (S54))).bind fun y455 => ((r3_Cost.f k2 t431 t434 x10_2 (ji52) ((rd t434 (ji52)) == 2) t437 t438 t439 t440 t441 t442).bind fun bt459 => (if x12_2 = true then (l6_LinesEach.l0 k2 y455 ji52 (wrap64 (x11_2 + bt459.1)) bt459.2 l2 (l2.length : Int) (wrap64 (x36_2 + 1)) t431 t434 t437 t438 t439 t440 t441 t442) else (l6_LinesEach.l0 k2 y455 ji52 (wrap64 (x11_2 + bt459.1)) false l2 (l2.length : Int) (wrap64 (x36_2 + 1)) t431 t434 t437 t438 t439 t440 t441 t442)))) else (none))) else (none)) else (none)) = some r := by first | (rw [hji52] at H; exact H) | (simp only [hji52] at H ⊢; exact H)
      have hji52w : (IntKind.i64.wrap ((wrap64 (x10_2 + 1)) + (wrap64 (Int.tmod (IntKind.u64.wrap (rd l2 x36_2)) (IntKind.u64.wrap (wrap64 ((t431.length : Int) - x10_2))))))) = ji52 := (zM _).trans hji52
      by_cases c53 : 0 ≤ (ji52)
      rotate_left
      · rw [if_neg c53] at H
        exact absurd H (by simp)
      rw [if_pos c53] at H; have c53b0 : decide (0 ≤ (ji52)) = true := decide_eq_true c53
      clear c53; by_cases c54 : (ji52) < (t434.length : Int)
      rotate_left
      · rw [if_neg c54] at H
        exact absurd H (by simp)
      rw [if_pos c54] at H; have c54b0 : decide ((ji52) < (t434.length : Int)) = true := decide_eq_true c54
      clear c54; replace H := Option.bind_eq_some_iff.mp H; obtain ⟨⟨t451, t452, t453, t454⟩, A550, H⟩ := H; replace H : (if x9_2.length < 4398046511104 then ((some (x9_2 ++ [(⟨t451, t452, t453, t454⟩ : S54)] : List (S54))).bind fun y455 => ((r3_Cost.f k2 t431 t434 x10_2 (ji52) ((rd t434 (ji52)) == 2) t437 t438 t439 t440 t441 t442).bind fun bt459 => (if x12_2 = true then (l6_LinesEach.l0 k2 y455 ji52 (wrap64 (x11_2 + bt459.1)) bt459.2 l2 (l2.length : Int) (wrap64 (x36_2 + 1)) t431 t434 t437 t438 t439 t440 t441 t442) else (l6_LinesEach.l0 k2 y455 ji52 (wrap64 (x11_2 + bt459.1)) false l2 (l2.length : Int) (wrap64 (x36_2 + 1)) t431 t434 t437 t438 t439 t440 t441 t442)))) else (none)) = some r := H
      have A55 := zA.mk A550; clear A550; by_cases c56 : x9_2.length < 4398046511104
      rotate_left
      · rw [if_neg c56] at H
        exact absurd H (by simp)
      rw [if_pos c56] at H; have LMc56 := zA.mk c56; clear c56; obtain ⟨y455, hy455⟩ : ∃ y_ : List (S54), y_ = (x9_2 ++ [(⟨t451, t452, t453, t454⟩ : S54)]) := ⟨_, rfl⟩; replace H : ((r3_Cost.f k2 t431 t434 x10_2 (ji52) ((rd t434 (ji52)) == 2) t437 t438 t439 t440 t441 t442).bind fun bt459 => (if x12_2 = true then (l6_LinesEach.l0 k2 y455 ji52 (wrap64 (x11_2 + bt459.1)) bt459.2 l2 (l2.length : Int) (wrap64 (x36_2 + 1)) t431 t434 t437 t438 t439 t440 t441 t442) else (l6_LinesEach.l0 k2 y455 ji52 (wrap64 (x11_2 + bt459.1)) false l2 (l2.length : Int) (wrap64 (x36_2 + 1)) t431 t434 t437 t438 t439 t440 t441 t442))) = some r := by first | (rw [hy455]; with_reducible exact H) | (have H2_ := (Option.bind_some _ _).symm.trans H; rw [hy455]; with_reducible exact H2_) | (have H2_ := (Option.bind_some _ _).symm.trans H; with_reducible exact H2_) | with_reducible exact H | (rw [hy455]; exact H) | exact H
      have Ny455 := zA.mk hy455; clear hy455; replace H := Option.bind_eq_some_iff.mp H; obtain ⟨⟨t459, t460⟩, A570, H⟩ := H; replace H : (if x12_2 = true then (l6_LinesEach.l0 k2 y455 ji52 (wrap64 (x11_2 + t459)) t460 l2 (l2.length : Int) (wrap64 (x36_2 + 1)) t431 t434 t437 t438 t439 t440 t441 t442) else (l6_LinesEach.l0 k2 y455 ji52 (wrap64 (x11_2 + t459)) false l2 (l2.length : Int) (wrap64 (x36_2 + 1)) t431 t434 t437 t438 t439 t440 t441 t442)) = some r := H; have A57 := zA.mk A570; clear A570; by_cases c58 : x12_2 = true
      · subst c58
        have H1 : (l6_LinesEach.l0 k2 y455 ji52 (wrap64 (x11_2 + t459)) t460 l2 (l2.length : Int) (wrap64 (x36_2 + 1)) t431 t434 t437 t438 t439 t440 t441 t442) = some r := by rw [if_pos rfl] at H; exact H
        clear H; have H := H1; clear H1; have H' := zA.mk H
        clear H; have p447 : 0 ≤ (x36_2 : Int) := of_decide_eq_true (by first | (with_reducible assumption) | assumption)
        have q447 : x36_2 < (l2.length : Int) := of_decide_eq_true (by first | (with_reducible assumption) | assumption)
        obtain ⟨ad447, e447, hx447_0⟩ := Kd.at_int HR2.out x36_2 p447 q447; cases e447
        replace hx447_0 := (HB.out.cell (World.block_lt_of_cell? w _ hx447_0)).trans hx447_0; replace p447 := eq_true p447; replace q447 := eq_true q447; have hnb59 := NB443_429.out; have hnc59 := NB429_443.out; have hnb60 := NB443_444.out; have hnc60 := NB444_443.out; have hcz61_0 : wr.cell? ⟨gb443, 0, none⟩ = some (.slice Ao19 t431.length co19) := (zE BK443.out 0).trans rfl
        have hcz61_1 : wr.cell? ⟨gb443, 1, none⟩ = some (.slice Ao21 t434.length co21) := (zE BK443.out 1).trans rfl
        have hfz61_0 := zH BK443.out 0; have hfz61_1 := zH BK443.out 1; try go_wp2
        have n0_ := zA.mk (Kd.zS HO_9.out); have n1_ := zA.mk (Kd.zS HO_444000.out); have n2_ := zA.mk (Kd.zS HO_444001.out); have n3_ := zA.mk (zD BK429.out); have n4_ := zA.mk (zD BK443.out); have n5_ := zA.mk (zD BK444.out); have n6_ := zA.mk (zI HB.out); clear HO_9; clear HO_444000; clear HO_444001; clear BK429; clear BK443; clear BK444; clear HB; have HO_9 := n0_; have HO_444000 := n1_; have HO_444001 := n2_; have BK429 := n3_; have BK443 := n4_; have BK444 := n5_; have HB := n6_; clear n0_ n1_ n2_ n3_ n4_ n5_ n6_; have p450 : 0 ≤ ((ji52) : Int) := of_decide_eq_true (by first | (with_reducible assumption) | assumption)
        have q450 : (ji52) < (t434.length : Int) := of_decide_eq_true (by first | (with_reducible assumption) | assumption)
        obtain ⟨ad450, e450, hx450_0⟩ := Kd.at_int (Kd.zX HO_444001.out).2.2 (ji52) p450 q450; cases e450
        replace p450 := eq_true p450; replace q450 := eq_true q450; refine start_ (n := 15) (S := fun w' => w'.cell? ⟨gb443, 0, none⟩ = some (.slice Ao19 t431.length co19) ∧ w'.cell? ⟨gb443, 1, none⟩ = some (.slice (some ad450) t434.length co21) ∧ w'.cell? ⟨gb444, 0, none⟩ = some (.int .i64 t437) ∧ w'.cell? ⟨gb444, 1, none⟩ = some (.int .i64 t438) ∧ w'.cell? ⟨gb444, 2, none⟩ = some (.int .u8 t439) ∧ w'.cell? ⟨gb444, 3, none⟩ = some (.int .i64 t440) ∧ w'.cell? ⟨gb444, 4, none⟩ = some (.int .i64 t441) ∧ w'.cell? ⟨gb444, 5, none⟩ = some (.float .f64 t442) ∧ w'.cell? (ad450.add ((ji52)).toNat) = some (.int .u8 (rd t434 (ji52)))) (ds := [12, 13]) #[false, false, false, false, false, false, false, false, false, false, false, false, false, false, false] (by kernel_rfl) rfl rfl ⟨(zE BK443.out 0).trans rfl, (zE BK443.out 1).trans rfl, (zE BK444.out 0).trans rfl, (zE BK444.out 1).trans rfl, (zE BK444.out 2).trans rfl, (zE BK444.out 3).trans rfl, (zE BK444.out 4).trans rfl, (zE BK444.out 5).trans rfl, hx450_0⟩ (fun hHeld => ?_); refine with_tabW l6_LinesEach.tab14 l6_LinesEach.bits14 (fun HT_ HW_ => ?_)
        generalize wr.drew = w62 at HO_9 HO_444000 HO_444001 BK429 BK443 BK444 HB hx450_0 hHeld ⊢
        refine pure_ (i := 0) (N := some 58) (v := ?_) (a' := ?_) (tf_ 1 15) rfl rfl (any_of HT_.out (by kernel_rfl)) (fun _ _ _ h => h) (Or.inl ⟨by rfl, ?_⟩) ?_ ?_
        rotate_left
        · intro w'
          go_simp
          with_reducible rfl
        rotate_left
        · simp only [Act.put, sA_, sB_, sC_, zM, zO]
          rfl
        refine pure_ (i := 2) (N := some 60) (v := ?_) (a' := ?_) #[true, false, true, false, false, false, false, false, false, false, false, false, false, false, false] rfl rfl (any_of HT_.out (by kernel_rfl)) (fun _ _ _ h => h) (Or.inl ⟨by rfl, ?_⟩) ?_ ?_
        rotate_left
        · intro w'
          go_simp
          with_reducible rfl
        rotate_left
        · simp only [Act.put, sA_, sB_, sC_, zM, zO]
          rfl
        refine pure_ (i := 3) (N := some 61) (v := ?_) (a' := ?_) #[true, false, true, true, false, false, false, false, false, false, false, false, false, false, false] rfl rfl (any_of HT_.out (by kernel_rfl)) (fun _ _ _ h => h) (Or.inl ⟨by rfl, ?_⟩) ?_ ?_
        rotate_left
        · intro w'
          go_simp
          with_reducible rfl
        rotate_left
        · simp only [Act.put, sA_, sB_, sC_, zM, zO]
          rfl
        refine pure_ (i := 4) (N := some 62) (v := ?_) (a' := ?_) #[true, false, true, true, true, false, false, false, false, false, false, false, false, false, false] rfl rfl (any_of HT_.out (by kernel_rfl)) (fun _ _ _ h => h) (Or.inl ⟨by rfl, ?_⟩) ?_ ?_
        rotate_left
        · intro w'
          go_simp
          with_reducible rfl
        rotate_left
        · simp only [Act.put, sA_, sB_, sC_, zM, zO]
          rfl
        refine pure_ (i := 6) (N := some 64) (v := ?_) (a' := ?_) #[true, false, true, true, true, false, true, false, false, false, false, false, false, false, false] rfl rfl (any_of HT_.out (by kernel_rfl)) (fun _ _ _ h => h) (Or.inl ⟨by rfl, ?_⟩) ?_ ?_
        rotate_left
        · intro w'
          go_simp
          with_reducible rfl
        rotate_left
        · simp only [Act.put, sA_, sB_, sC_, zM, zO]
          rfl
        refine pure_ (i := 9) (N := some 67) (v := ?_) (a' := ?_) #[true, false, true, true, true, false, true, false, false, true, false, false, false, false, false] rfl rfl (any_of HT_.out (by kernel_rfl)) (fun _ _ _ h => h) (Or.inl ⟨by rfl, ?_⟩) ?_ ?_
        rotate_left
        · intro w'
          go_simp
          with_reducible rfl
        rotate_left
        · simp only [Act.put, sA_, sB_, sC_, zM, zO]
          rfl
        refine take_ (i := 1) (N := some 59) (v := ?_) (a' := ?_) #[true, true, true, true, true, false, true, false, false, true, false, false, false, false, false] rfl rfl (take_ofW HT_.out HW_.out (by kernel_rfl)) (fun _ _ _ h => h) (Or.inl ⟨by rfl, ?_⟩) hHeld ?_ ?_
        rotate_left
        · rintro w' ⟨s0, s1, s2, s3, s4, s5, s6, s7, s8⟩
          go_simp
          with_reducible rfl
        rotate_left
        · simp only [Act.put, sA_, sB_, sC_, zM, zO]
          rfl
        refine take_ (i := 5) (N := some 63) (v := ?_) (a' := ?_) #[true, true, true, true, true, true, true, false, false, true, false, false, false, false, false] rfl rfl (take_ofW HT_.out HW_.out (by kernel_rfl)) (fun _ _ _ h => h) (Or.inl ⟨by rfl, ?_⟩) hHeld ?_ ?_
        rotate_left
        · rintro w' ⟨s0, s1, s2, s3, s4, s5, s6, s7, s8⟩
          go_simp
          with_reducible rfl
        rotate_left
        · simp only [Act.put, sA_, sB_, sC_, zM, zO]
          rfl
        refine pure_ (i := 7) (N := some 65) (v := ?_) (a' := ?_) #[true, true, true, true, true, true, true, true, false, true, false, false, false, false, false] rfl rfl (any_of HT_.out (by kernel_rfl)) (fun _ _ _ h => h) (Or.inl ⟨by rfl, ?_⟩) ?_ ?_
        rotate_left
        · intro w'
          go_simp
          with_reducible rfl
        rotate_left
        · simp only [Act.put, sA_, sB_, sC_, zM, zO]
          rfl
        refine take_ (i := 8) (N := some 66) (v := ?_) (a' := ?_) (tf_ 10 15) rfl rfl (take_ofW HT_.out HW_.out (by kernel_rfl)) (fun _ _ _ h => h) (Or.inl ⟨by rfl, ?_⟩) hHeld ?_ ?_
        rotate_left
        · rintro w' ⟨s0, s1, s2, s3, s4, s5, s6, s7, s8⟩
          go_simp
          with_reducible rfl
        rotate_left
        · simp only [Act.put, sA_, sB_, sC_, zM, zO]
          rfl
        refine take_ (i := 10) (N := some 68) (v := ?_) (a' := ?_) (tf_ 11 15) rfl rfl (take_ofW HT_.out HW_.out (by kernel_rfl)) (fun _ _ _ h => h) (Or.inl ⟨by rfl, ?_⟩) hHeld ?_ ?_
        rotate_left
        · rintro w' ⟨s0, s1, s2, s3, s4, s5, s6, s7, s8⟩
          go_simp
          with_reducible rfl
        rotate_left
        · simp only [Act.put, sA_, sB_, sC_, zM, zO]
          rfl
        refine one_ (i := 11) (N := some 69) #[true, true, true, true, true, true, true, true, true, true, true, true, false, false, false] rfl rfl (one_of HT_.out (by kernel_rfl)) (by decide) (fun K hK => ?_)
        refine goes_ Try.func24 (by kernel_rfl) rfl #[.agg #[.slice Ao19 t431.length co19, .slice (some ad450) t434.length co21], .int .i64 x10_2, .int .i64 ji52, .int .u8 (rd t434 (ji52)), .int .i64 t438] (by rfl) rfl rfl (by (try simp only [List.map_toArray, List.map_cons, List.map_nil]); first | done | (simp only [hji52]; rfl) | rfl | (simp only [List.length_drop, List.length_take]; rfl)) ?_
        with_reducible refine (r3_Line.calls k2 _ _ t431 _ _ t434 x10_2 ji52 (rd t434 (ji52)) t438 t451 t452 t453 t454 _ ?side1 ?side2 ?side3 ?side4 A55.out).mono ?_
        (case side1 => repeat (first | exact (Kd.zX HO_444000.out).2.2 | (with_reducible refine Kd.zT ?_ _) | (with_reducible refine Kd.zU ?_ _) | (with_reducible refine Kd.zV ?_)))
        (case side2 => exact (Kd.zX HO_444000.out).2.1)
        (case side3 => repeat (first | exact (Kd.zX HO_444001.out).2.2 | (with_reducible refine Kd.zT ?_ _) | (with_reducible refine Kd.zU ?_ _) | (with_reducible refine Kd.zV ?_)))
        (case side4 => exact (Kd.zX HO_444001.out).2.1)
        rintro e w63 ⟨rfl, hb⟩
        have HS8_ := (hb.cell (World.block_lt_of_cell? _ _ (hHeld.2.2.2.2.2.2.2.2))).trans (hHeld.2.2.2.2.2.2.2.2); refine ⟨_, rfl, ?_⟩
        have n0_ := zA.mk (Kd.zY (by (with_reducible repeat (first | apply Kd.zQ | apply Kd.zR | apply Kd.zS)); exact HO_9.out) hb)
        have n1_ := zA.mk (Kd.zY (by (with_reducible repeat (first | apply Kd.zQ | apply Kd.zR | apply Kd.zS)); exact HO_444000.out) hb)
        have n2_ := zA.mk (Kd.zY (by (with_reducible repeat (first | apply Kd.zQ | apply Kd.zR | apply Kd.zS)); exact HO_444001.out) hb)
        have n3_ := zA.mk (zK (g := gb429) (o := .cells #[.int .u8 a1_0, .int .u8 a1_1, .int .u8 a1_2, .int .u16 a1_3, .int .u16 a1_4, .float .f64 a1_5] 26 (0, 0)) (by (with_reducible repeat (first | refine zC ?_ _ | refine zD ?_ | refine zB ?_ _)); exact BK429.out) hb)
        have n4_ := zA.mk (zK (g := gb443) (o := .cells #[.slice Ao19 t431.length co19, .slice (some ad450) t434.length co21] 31 (0, 0)) (by (with_reducible repeat (first | refine zC ?_ _ | refine zD ?_ | refine zB ?_ _)); exact BK443.out) hb)
        have n5_ := zA.mk (zK (g := gb444) (o := .cells #[.int .i64 t437, .int .i64 t438, .int .u8 t439, .int .i64 t440, .int .i64 t441, .float .f64 t442] 35 (0, 0)) (by (with_reducible repeat (first | refine zC ?_ _ | refine zD ?_ | refine zB ?_ _)); exact BK444.out) hb)
        have n6_ := zA.mk (zN (by repeat (first | (with_reducible first | exact HB.out | apply zJ | apply zG | apply zI | refine zF ?_ GE429.out | refine zF ?_ GE443.out | refine zF ?_ GE444.out) | exact HB.out)) hb)
        clear HO_9 HO_444000 HO_444001 BK429 BK443 BK444 HB; have HO_9 := n0_; have HO_444000 := n1_; have HO_444001 := n2_; have BK429 := n3_; have BK443 := n4_; have BK444 := n5_; have HB := n6_; clear n0_ n1_ n2_ n3_ n4_ n5_ n6_; (try clear hb)
        (try clear hb2)
        (try clear hk)
        (try clear hi)
        refine hK.out _ _ ⟨(zE BK443.out 0).trans rfl, (zE BK443.out 1).trans rfl, (zE BK444.out 0).trans rfl, (zE BK444.out 1).trans rfl, (zE BK444.out 2).trans rfl, (zE BK444.out 3).trans rfl, (zE BK444.out 4).trans rfl, (zE BK444.out 5).trans rfl, HS8_⟩ (fun hHeld => ?_)
        clear hK K; refine norm_ (a' := ?_) ?_ ?_
        rotate_left
        · show Act.put _ (some 69) _ = _
          simp only [Act.put, sA_, sB_, sC_, zM, zO]; rfl
        refine last_ (i := 12) (N := some 70) #[true, true, true, true, true, true, true, true, true, true, true, true, true, false, false] rfl rfl (one_of HT_.out (by kernel_rfl)) (by decide) (fun K hK => ?_)
        refine value_ (w1 := ?_) (v := ?_) (by rfl) rfl ?_ ?_
        rotate_left 2
        · go_simp
          constructor
          · rfl
          rfl
        refine hK.out _ _ ?_
        clear hK K; refine norm_ (a' := ?_) ?_ ?_
        rotate_left
        · show Act.put _ (some 70) _ = _
          simp only [Act.put, sA_, sB_, sC_, zM, zO]; rfl
        refine last_ (i := 13) (N := some 71) #[true, true, true, true, true, true, true, true, true, true, true, true, true, true, false] rfl rfl (one_of HT_.out (by kernel_rfl)) (by decide) (fun K hK => ?_)
        refine Kd.R_append_step k54 (w0 := w) w.heap.size (by rfl) (.tmp 58) (.tmp 70) 37 54 (.agg #[(.int .i64 0), (.int .i64 0), (.int .i64 0), (.int .u8 0)]) 32 rfl Try.underlying37 info54 rfl (by decide) (by omega) u9 x9_2 (⟨t451, t452, t453, t454⟩ : S54) [.int .i64 t451, .int .i64 t452, .int .i64 t453, .int .u8 t454] (fun _ => True) (fun _ => False) rfl rfl ?aP (fun _ hk => hk.elim) ?aF ?aO ?aB ?aS ?aL ?_
        (case aP => exact k54_mkM _ _ _ (⟨t451, t452, t453, t454⟩ : S54))
        (case aB => exact (by repeat (first | (with_reducible first | exact HB.out | apply zJ | apply zG | apply zI | refine zF ?_ GE429.out | refine zF ?_ GE443.out | refine zF ?_ GE444.out) | exact HB.out)))
        (case aF => exact (fun _ _ => trivial))
        (case aO => exact (by (with_reducible repeat (first | apply Kd.zQ | apply Kd.zR | apply Kd.zS)); exact HO_9.out))
        (case aS => exact (zP (by repeat (first | (with_reducible first | exact HB.out | apply zJ | apply zG | apply zI | refine zF ?_ GE429.out | refine zF ?_ GE443.out | refine zF ?_ GE444.out) | exact HB.out))))
        (case aL => have := LMc56.out; omega)
        intro v456 w64 ho hb hg hat
        rw [← Ny455.out] at ho; have n0_ := zA.mk (Kd.R_over' (by (with_reducible repeat (first | apply Kd.zQ | apply Kd.zR | apply Kd.zS)); exact HO_444000.out) (Kd.R_typed (by (with_reducible repeat (first | apply Kd.zQ | apply Kd.zR | apply Kd.zS)); exact HO_9.out)) (by decide) hg)
        have n1_ := zA.mk (Kd.R_over' (by (with_reducible repeat (first | apply Kd.zQ | apply Kd.zR | apply Kd.zS)); exact HO_444001.out) (Kd.R_typed (by (with_reducible repeat (first | apply Kd.zQ | apply Kd.zR | apply Kd.zS)); exact HO_9.out)) (by decide) hg)
        have n2_ := zA.mk (blk_grown (g := gb429) (o := .cells #[.int .u8 a1_0, .int .u8 a1_1, .int .u8 a1_2, .int .u16 a1_3, .int .u16 a1_4, .float .f64 a1_5] 26 (0, 0)) (by (with_reducible repeat (first | refine zC ?_ _ | refine zD ?_ | refine zB ?_ _)); exact BK429.out) hg (Kd.R_ne HO_9.out BK429.out (by decide)))
        have n3_ := zA.mk (blk_grown (g := gb443) (o := .cells #[.slice Ao19 t431.length co19, .slice (some ad450) t434.length co21] 31 (0, 0)) (by (with_reducible repeat (first | refine zC ?_ _ | refine zD ?_ | refine zB ?_ _)); exact BK443.out) hg (Kd.R_ne HO_9.out BK443.out (by decide)))
        have n4_ := zA.mk (blk_grown (g := gb444) (o := .cells #[.int .i64 t437, .int .i64 t438, .int .u8 t439, .int .i64 t440, .int .i64 t441, .float .f64 t442] 35 (0, 0)) (by (with_reducible repeat (first | refine zC ?_ _ | refine zD ?_ | refine zB ?_ _)); exact BK444.out) hg (Kd.R_ne HO_9.out BK444.out (by decide)))
        have n5_ := zA.mk (hb); have n6_ := zA.mk (ho); clear HO_444000; clear HO_444001; clear BK429; clear BK443; clear BK444; clear HB; clear HO_9; have HO_444000 := n0_; have HO_444001 := n1_; have BK429 := n2_; have BK443 := n3_; have BK444 := n4_; have HB := n5_; have HO457 := n6_; clear n0_ n1_ n2_ n3_ n4_ n5_ n6_; clear ho hb hg hat; refine hK.out _ _ ?_
        clear hK K; refine norm_ (a' := ?_) ?_ ?_
        rotate_left
        · show Act.put _ (some 71) _ = _
          simp only [Act.put, sA_, sB_, sC_, zM, zO]; rfl
        refine pure_ (i := 14) (N := some 9) (v := ?_) (a' := ?_) #[true, true, true, true, true, true, true, true, true, true, true, true, true, true, true] rfl rfl (any_of HT_.out (by kernel_rfl)) (fun _ _ _ h => h) (Or.inl ⟨by rfl, ?_⟩) ?_ ?_
        rotate_left
        · intro w'
          go_simp
          with_reducible rfl
        rotate_left
        · simp only [Act.put, sA_, sB_, sC_, zM, zO]
          rfl
        refine done_ (done_of HT_.out (by kernel_rfl)) ?_
        try go_wp2
        have n0_ := zA.mk (Kd.zS HO_444000.out); have n1_ := zA.mk (Kd.zS HO_444001.out); have n2_ := zA.mk (Kd.zS HO457.out); have n3_ := zA.mk (zD BK429.out); have n4_ := zA.mk (zD BK443.out); have n5_ := zA.mk (zD BK444.out); have n6_ := zA.mk (zI HB.out); clear HO_444000; clear HO_444001; clear HO457; clear BK429; clear BK443; clear BK444; clear HB; have HO_444000 := n0_; have HO_444001 := n1_; have HO457 := n2_; have BK429 := n3_; have BK443 := n4_; have BK444 := n5_; have HB := n6_; clear n0_ n1_ n2_ n3_ n4_ n5_ n6_; have p458 : 0 ≤ ((ji52) : Int) := of_decide_eq_true (by first | (with_reducible assumption) | assumption)
        have q458 : (ji52) < (t434.length : Int) := of_decide_eq_true (by first | (with_reducible assumption) | assumption)
        obtain ⟨ad458, e458, hx458_0⟩ := Kd.at_int (Kd.zX HO_444001.out).2.2 (ji52) p458 q458; obtain rfl : ad450 = ad458 := (by injection e458)
        replace p458 := eq_true p458; replace q458 := eq_true q458; refine start_ (n := 16) (S := fun w' => w'.cell? ⟨gb443, 0, none⟩ = some (.slice Ao19 t431.length co19) ∧ w'.cell? ⟨gb443, 1, none⟩ = some (.slice (some ad450) t434.length co21) ∧ w'.cell? ⟨gb444, 0, none⟩ = some (.int .i64 t437) ∧ w'.cell? ⟨gb444, 1, none⟩ = some (.int .i64 t438) ∧ w'.cell? ⟨gb444, 2, none⟩ = some (.int .u8 t439) ∧ w'.cell? ⟨gb444, 3, none⟩ = some (.int .i64 t440) ∧ w'.cell? ⟨gb444, 4, none⟩ = some (.int .i64 t441) ∧ w'.cell? ⟨gb444, 5, none⟩ = some (.float .f64 t442) ∧ w'.cell? (ad450.add ((ji52)).toNat) = some (.int .u8 (rd t434 (ji52)))) (ds := []) #[false, false, false, false, false, false, false, false, false, false, false, false, false, false, false, false] (by kernel_rfl) rfl rfl ⟨(zE BK443.out 0).trans rfl, (zE BK443.out 1).trans rfl, (zE BK444.out 0).trans rfl, (zE BK444.out 1).trans rfl, (zE BK444.out 2).trans rfl, (zE BK444.out 3).trans rfl, (zE BK444.out 4).trans rfl, (zE BK444.out 5).trans rfl, hx458_0⟩ (fun hHeld => ?_); refine with_tabW l6_LinesEach.tab15 l6_LinesEach.bits15 (fun HT_ HW_ => ?_)
        generalize w64.drew = w65 at HO_444000 HO_444001 HO457 BK429 BK443 BK444 HB hx458_0 hHeld ⊢
        refine pure_ (i := 1) (N := some 74) (v := ?_) (a' := ?_) #[false, true, false, false, false, false, false, false, false, false, false, false, false, false, false, false] rfl rfl (any_of HT_.out (by kernel_rfl)) (fun _ _ _ h => h) (Or.inl ⟨by rfl, ?_⟩) ?_ ?_
        rotate_left
        · intro w'
          go_simp
          with_reducible rfl
        rotate_left
        · simp only [Act.put, sA_, sB_, sC_, zM, zO]
          rfl
        refine pure_ (i := 2) (N := some 75) (v := ?_) (a' := ?_) #[false, true, true, false, false, false, false, false, false, false, false, false, false, false, false, false] rfl rfl (any_of HT_.out (by kernel_rfl)) (fun _ _ _ h => h) (Or.inl ⟨by rfl, ?_⟩) ?_ ?_
        rotate_left
        · intro w'
          go_simp
          with_reducible rfl
        rotate_left
        · simp only [Act.put, sA_, sB_, sC_, zM, zO]
          rfl
        refine pure_ (i := 3) (N := some 76) (v := ?_) (a' := ?_) #[false, true, true, true, false, false, false, false, false, false, false, false, false, false, false, false] rfl rfl (any_of HT_.out (by kernel_rfl)) (fun _ _ _ h => h) (Or.inl ⟨by rfl, ?_⟩) ?_ ?_
        rotate_left
        · intro w'
          go_simp
          with_reducible rfl
        rotate_left
        · simp only [Act.put, sA_, sB_, sC_, zM, zO]
          rfl
        refine pure_ (i := 5) (N := some 78) (v := ?_) (a' := ?_) #[false, true, true, true, false, true, false, false, false, false, false, false, false, false, false, false] rfl rfl (any_of HT_.out (by kernel_rfl)) (fun _ _ _ h => h) (Or.inl ⟨by rfl, ?_⟩) ?_ ?_
        rotate_left
        · intro w'
          go_simp
          with_reducible rfl
        rotate_left
        · simp only [Act.put, sA_, sB_, sC_, zM, zO]
          rfl
        refine take_ (i := 0) (N := some 73) (v := ?_) (a' := ?_) #[true, true, true, true, false, true, false, false, false, false, false, false, false, false, false, false] rfl rfl (take_ofW HT_.out HW_.out (by kernel_rfl)) (fun _ _ _ h => h) (Or.inl ⟨by rfl, ?_⟩) hHeld ?_ ?_
        rotate_left
        · rintro w' ⟨s0, s1, s2, s3, s4, s5, s6, s7, s8⟩
          go_simp
          with_reducible rfl
        rotate_left
        · simp only [Act.put, sA_, sB_, sC_, zM, zO]
          rfl
        refine take_ (i := 4) (N := some 77) (v := ?_) (a' := ?_) (tf_ 6 16) rfl rfl (take_ofW HT_.out HW_.out (by kernel_rfl)) (fun _ _ _ h => h) (Or.inl ⟨by rfl, ?_⟩) hHeld ?_ ?_
        rotate_left
        · rintro w' ⟨s0, s1, s2, s3, s4, s5, s6, s7, s8⟩
          go_simp
          with_reducible rfl
        rotate_left
        · simp only [Act.put, sA_, sB_, sC_, zM, zO]
          rfl
        refine pure_ (i := 6) (N := some 79) (v := ?_) (a' := ?_) (tf_ 7 16) rfl rfl (any_of HT_.out (by kernel_rfl)) (fun _ _ _ h => h) (Or.inl ⟨by rfl, ?_⟩) ?_ ?_
        rotate_left
        · intro w'
          go_simp
          with_reducible rfl
        rotate_left
        · simp only [Act.put, sA_, sB_, sC_, zM, zO]
          rfl
        refine take_ (i := 7) (N := some 80) (v := ?_) (a' := ?_) (tf_ 8 16) rfl rfl (take_ofW HT_.out HW_.out (by kernel_rfl)) (fun _ _ _ h => h) (Or.inl ⟨by rfl, ?_⟩) hHeld ?_ ?_
        rotate_left
        · rintro w' ⟨s0, s1, s2, s3, s4, s5, s6, s7, s8⟩
          go_simp
          with_reducible rfl
        rotate_left
        · simp only [Act.put, sA_, sB_, sC_, zM, zO]
          rfl
        refine pure_ (i := 8) (N := some 81) (v := ?_) (a' := ?_) (tf_ 9 16) rfl rfl (any_of HT_.out (by kernel_rfl)) (fun _ _ _ h => h) (Or.inl ⟨by rfl, ?_⟩) ?_ ?_
        rotate_left
        · intro w'
          go_simp
          with_reducible rfl
        rotate_left
        · simp only [Act.put, sA_, sB_, sC_, zM, zO]
          rfl
        refine take_ (i := 9) (N := some 82) (v := ?_) (a' := ?_) (tf_ 10 16) rfl rfl (take_ofW HT_.out HW_.out (by kernel_rfl)) (fun _ _ _ h => h) (Or.inl ⟨by rfl, ?_⟩) hHeld ?_ ?_
        rotate_left
        · rintro w' ⟨s0, s1, s2, s3, s4, s5, s6, s7, s8⟩
          go_simp
          with_reducible rfl
        rotate_left
        · simp only [Act.put, sA_, sB_, sC_, zM, zO]
          rfl
        refine one_ (i := 10) (N := some 83) #[true, true, true, true, true, true, true, true, true, true, true, false, false, false, false, false] rfl rfl (one_of HT_.out (by kernel_rfl)) (by decide) (fun K hK => ?_)
        refine goes_ Try.func25 (by kernel_rfl) rfl #[.agg #[.slice Ao19 t431.length co19, .slice (some ad450) t434.length co21], .int .i64 x10_2, .int .i64 ji52, .bool ((rd t434 (ji52)) == 2), .agg #[.int .i64 t437, .int .i64 t438, .int .u8 t439, .int .i64 t440, .int .i64 t441, .float .f64 t442]] (by rfl) rfl rfl (by (try simp only [List.map_toArray, List.map_cons, List.map_nil]); first | done | (simp only [hji52]; rfl) | rfl | (simp only [List.length_drop, List.length_take]; rfl)) ?_
        with_reducible refine (r3_Cost.calls k2 _ _ t431 _ _ t434 x10_2 ji52 ((rd t434 (ji52)) == 2) t437 t438 t439 t440 t441 t442 t459 t460 _ ?side1 ?side2 ?side3 ?side4 A57.out).mono ?_
        (case side1 => repeat (first | exact (Kd.zX HO_444000.out).2.2 | (with_reducible refine Kd.zT ?_ _) | (with_reducible refine Kd.zU ?_ _) | (with_reducible refine Kd.zV ?_)))
        (case side2 => exact (Kd.zX HO_444000.out).2.1)
        (case side3 => repeat (first | exact (Kd.zX HO_444001.out).2.2 | (with_reducible refine Kd.zT ?_ _) | (with_reducible refine Kd.zU ?_ _) | (with_reducible refine Kd.zV ?_)))
        (case side4 => exact (Kd.zX HO_444001.out).2.1)
        rintro e w66 ⟨rfl, hb⟩
        have HS8_ := (hb.cell (World.block_lt_of_cell? _ _ (hHeld.2.2.2.2.2.2.2.2))).trans (hHeld.2.2.2.2.2.2.2.2); refine ⟨_, rfl, ?_⟩
        have n0_ := zA.mk (Kd.zY (by (with_reducible repeat (first | apply Kd.zQ | apply Kd.zR | apply Kd.zS)); exact HO_444000.out) hb)
        have n1_ := zA.mk (Kd.zY (by (with_reducible repeat (first | apply Kd.zQ | apply Kd.zR | apply Kd.zS)); exact HO_444001.out) hb)
        have n2_ := zA.mk (Kd.zY (by (with_reducible repeat (first | apply Kd.zQ | apply Kd.zR | apply Kd.zS)); exact HO457.out) hb)
        have n3_ := zA.mk (zK (g := gb429) (o := .cells #[.int .u8 a1_0, .int .u8 a1_1, .int .u8 a1_2, .int .u16 a1_3, .int .u16 a1_4, .float .f64 a1_5] 26 (0, 0)) (by (with_reducible repeat (first | refine zC ?_ _ | refine zD ?_ | refine zB ?_ _)); exact BK429.out) hb)
        have n4_ := zA.mk (zK (g := gb443) (o := .cells #[.slice Ao19 t431.length co19, .slice (some ad450) t434.length co21] 31 (0, 0)) (by (with_reducible repeat (first | refine zC ?_ _ | refine zD ?_ | refine zB ?_ _)); exact BK443.out) hb)
        have n5_ := zA.mk (zK (g := gb444) (o := .cells #[.int .i64 t437, .int .i64 t438, .int .u8 t439, .int .i64 t440, .int .i64 t441, .float .f64 t442] 35 (0, 0)) (by (with_reducible repeat (first | refine zC ?_ _ | refine zD ?_ | refine zB ?_ _)); exact BK444.out) hb)
        have n6_ := zA.mk (zN (by repeat (first | (with_reducible first | exact HB.out | apply zJ | apply zG | apply zI | refine zF ?_ GE429.out | refine zF ?_ GE443.out | refine zF ?_ GE444.out) | exact HB.out)) hb)
        clear HO_444000 HO_444001 HO457 BK429 BK443 BK444 HB; have HO_444000 := n0_; have HO_444001 := n1_; have HO457 := n2_; have BK429 := n3_; have BK443 := n4_; have BK444 := n5_; have HB := n6_; clear n0_ n1_ n2_ n3_ n4_ n5_ n6_; (try clear hb)
        (try clear hb2)
        (try clear hk)
        (try clear hi)
        refine hK.out _ _ ⟨(zE BK443.out 0).trans rfl, (zE BK443.out 1).trans rfl, (zE BK444.out 0).trans rfl, (zE BK444.out 1).trans rfl, (zE BK444.out 2).trans rfl, (zE BK444.out 3).trans rfl, (zE BK444.out 4).trans rfl, (zE BK444.out 5).trans rfl, HS8_⟩ (fun hHeld => ?_)
        clear hK K; refine norm_ (a' := ?_) ?_ ?_
        rotate_left
        · show Act.put _ (some 83) _ = _
          simp only [Act.put, sA_, sB_, sC_, zM, zO]; rfl
        refine pure_ (i := 11) (N := some 72) (v := ?_) (a' := ?_) (tf_ 12 16) rfl rfl (any_of HT_.out (by kernel_rfl)) (fun _ _ _ h => h) (Or.inl ⟨by rfl, ?_⟩) ?_ ?_
        rotate_left
        · intro w'
          go_simp
          with_reducible rfl
        rotate_left
        · simp only [Act.put, sA_, sB_, sC_, zM, zO]
          rfl
        refine pure_ (i := 12) (N := some 84) (v := ?_) (a' := ?_) (tf_ 13 16) rfl rfl (any_of HT_.out (by kernel_rfl)) (fun _ _ _ h => h) (Or.inl ⟨by rfl, ?_⟩) ?_ ?_
        rotate_left
        · intro w'
          go_simp
          with_reducible rfl
        rotate_left
        · simp only [Act.put, sA_, sB_, sC_, zM, zO]
          rfl
        refine pure_ (i := 13) (N := some 85) (v := ?_) (a' := ?_) (tf_ 14 16) rfl rfl (any_of HT_.out (by kernel_rfl)) (fun _ _ _ h => h) (Or.inl ⟨by rfl, ?_⟩) ?_ ?_
        rotate_left
        · intro w'
          go_simp
          with_reducible rfl
        rotate_left
        · simp only [Act.put, sA_, sB_, sC_, zM, zO]
          rfl
        refine pure_ (i := 14) (N := some 16) (v := ?_) (a' := ?_) (tf_ 15 16) rfl rfl (any_of HT_.out (by kernel_rfl)) (fun _ _ _ h => h) (Or.inl ⟨by rfl, ?_⟩) ?_ ?_
        rotate_left
        · intro w'
          go_simp
          with_reducible rfl
        rotate_left
        · simp only [Act.put, sA_, sB_, sC_, zM, zO]
          rfl
        refine pure_ (i := 15) (N := some 17) (v := ?_) (a' := ?_) #[true, true, true, true, true, true, true, true, true, true, true, true, true, true, true, true] rfl rfl (any_of HT_.out (by kernel_rfl)) (fun _ _ _ h => h) (Or.inl ⟨by rfl, ?_⟩) ?_ ?_
        rotate_left
        · intro w'
          go_simp
          with_reducible rfl
        rotate_left
        · simp only [Act.put, sA_, sB_, sC_, zM, zO]
          rfl
        refine done_ (done_of HT_.out (by kernel_rfl)) ?_
        try go_wp2
        go_roundg k2
        case measure => have := HJ5.out; have := HK2.out; omega
        case rel => exact ⟨(y455), (ji52), (wrap64 (x11_2 + t459)), (t460), (wrap64 (x36_2 + 1)), (by first | rfl | (simp; done) | (simp only [← hji52] <;> (first | rfl | simp)) | (simp [*]; done)), (by first | rfl | (simp; done) | (simp [*]; done)), (by first | rfl | (simp; done) | (simp [*]; done)), (by first | rfl | (simp; done) | (simp [*]; done)), H', ⟨by have := HJ5.out; have := HK2.out; omega⟩, ⟨by (with_reducible repeat (first | apply Kd.zQ | apply Kd.zR | apply Kd.zS)); exact HO457.out⟩, ⟨by (with_reducible repeat (first | apply Kd.zQ | apply Kd.zR | apply Kd.zS)); exact HO_444000.out⟩, ⟨by (with_reducible repeat (first | apply Kd.zQ | apply Kd.zR | apply Kd.zS)); exact HO_444001.out⟩, ⟨by (with_reducible repeat (first | refine zC ?_ _ | refine zD ?_ | refine zB ?_ _)); exact BK429.out⟩, ⟨by (with_reducible repeat (first | refine zC ?_ _ | refine zD ?_ | refine zB ?_ _)); exact BK443.out⟩, ⟨by (with_reducible repeat (first | refine zC ?_ _ | refine zD ?_ | refine zB ?_ _)); exact BK444.out⟩, ⟨by repeat (first | (with_reducible first | exact HB.out | apply zJ | apply zG | apply zI | refine zF ?_ GE429.out | refine zF ?_ GE443.out | refine zF ?_ GE444.out) | exact HB.out)⟩⟩
      replace c58 := Bool.eq_false_iff.mpr c58; subst c58; have H1 : (l6_LinesEach.l0 k2 y455 ji52 (wrap64 (x11_2 + t459)) false l2 (l2.length : Int) (wrap64 (x36_2 + 1)) t431 t434 t437 t438 t439 t440 t441 t442) = some r := by rw [if_neg (show ¬ (false = true) by decide)] at H; exact H
      clear H; have H := H1; clear H1; have H' := zA.mk H
      clear H; have p447 : 0 ≤ (x36_2 : Int) := of_decide_eq_true (by first | (with_reducible assumption) | assumption)
      have q447 : x36_2 < (l2.length : Int) := of_decide_eq_true (by first | (with_reducible assumption) | assumption)
      obtain ⟨ad447, e447, hx447_0⟩ := Kd.at_int HR2.out x36_2 p447 q447; cases e447
      replace hx447_0 := (HB.out.cell (World.block_lt_of_cell? w _ hx447_0)).trans hx447_0; replace p447 := eq_true p447; replace q447 := eq_true q447; have hnb67 := NB443_429.out; have hnc67 := NB429_443.out; have hnb68 := NB443_444.out; have hnc68 := NB444_443.out; have hcz69_0 : wr.cell? ⟨gb443, 0, none⟩ = some (.slice Ao19 t431.length co19) := (zE BK443.out 0).trans rfl
      have hcz69_1 : wr.cell? ⟨gb443, 1, none⟩ = some (.slice Ao21 t434.length co21) := (zE BK443.out 1).trans rfl
      have hfz69_0 := zH BK443.out 0; have hfz69_1 := zH BK443.out 1; try go_wp2
      have n0_ := zA.mk (Kd.zS HO_9.out); have n1_ := zA.mk (Kd.zS HO_444000.out); have n2_ := zA.mk (Kd.zS HO_444001.out); have n3_ := zA.mk (zD BK429.out); have n4_ := zA.mk (zD BK443.out); have n5_ := zA.mk (zD BK444.out); have n6_ := zA.mk (zI HB.out); clear HO_9; clear HO_444000; clear HO_444001; clear BK429; clear BK443; clear BK444; clear HB; have HO_9 := n0_; have HO_444000 := n1_; have HO_444001 := n2_; have BK429 := n3_; have BK443 := n4_; have BK444 := n5_; have HB := n6_; clear n0_ n1_ n2_ n3_ n4_ n5_ n6_; have p450 : 0 ≤ ((ji52) : Int) := of_decide_eq_true (by first | (with_reducible assumption) | assumption)
      have q450 : (ji52) < (t434.length : Int) := of_decide_eq_true (by first | (with_reducible assumption) | assumption)
      obtain ⟨ad450, e450, hx450_0⟩ := Kd.at_int (Kd.zX HO_444001.out).2.2 (ji52) p450 q450; cases e450
      replace p450 := eq_true p450; replace q450 := eq_true q450; refine start_ (n := 15) (S := fun w' => w'.cell? ⟨gb443, 0, none⟩ = some (.slice Ao19 t431.length co19) ∧ w'.cell? ⟨gb443, 1, none⟩ = some (.slice (some ad450) t434.length co21) ∧ w'.cell? ⟨gb444, 0, none⟩ = some (.int .i64 t437) ∧ w'.cell? ⟨gb444, 1, none⟩ = some (.int .i64 t438) ∧ w'.cell? ⟨gb444, 2, none⟩ = some (.int .u8 t439) ∧ w'.cell? ⟨gb444, 3, none⟩ = some (.int .i64 t440) ∧ w'.cell? ⟨gb444, 4, none⟩ = some (.int .i64 t441) ∧ w'.cell? ⟨gb444, 5, none⟩ = some (.float .f64 t442) ∧ w'.cell? (ad450.add ((ji52)).toNat) = some (.int .u8 (rd t434 (ji52)))) (ds := [12, 13]) #[false, false, false, false, false, false, false, false, false, false, false, false, false, false, false] (by kernel_rfl) rfl rfl ⟨(zE BK443.out 0).trans rfl, (zE BK443.out 1).trans rfl, (zE BK444.out 0).trans rfl, (zE BK444.out 1).trans rfl, (zE BK444.out 2).trans rfl, (zE BK444.out 3).trans rfl, (zE BK444.out 4).trans rfl, (zE BK444.out 5).trans rfl, hx450_0⟩ (fun hHeld => ?_); refine with_tabW l6_LinesEach.tab14 l6_LinesEach.bits14 (fun HT_ HW_ => ?_)
      generalize wr.drew = w70 at HO_9 HO_444000 HO_444001 BK429 BK443 BK444 HB hx450_0 hHeld ⊢
      refine pure_ (i := 0) (N := some 58) (v := ?_) (a' := ?_) (tf_ 1 15) rfl rfl (any_of HT_.out (by kernel_rfl)) (fun _ _ _ h => h) (Or.inl ⟨by rfl, ?_⟩) ?_ ?_
      rotate_left
      · intro w'
        go_simp
        with_reducible rfl
      rotate_left
      · simp only [Act.put, sA_, sB_, sC_, zM, zO]
        rfl
      refine pure_ (i := 2) (N := some 60) (v := ?_) (a' := ?_) #[true, false, true, false, false, false, false, false, false, false, false, false, false, false, false] rfl rfl (any_of HT_.out (by kernel_rfl)) (fun _ _ _ h => h) (Or.inl ⟨by rfl, ?_⟩) ?_ ?_
      rotate_left
      · intro w'
        go_simp
        with_reducible rfl
      rotate_left
      · simp only [Act.put, sA_, sB_, sC_, zM, zO]
        rfl
      refine pure_ (i := 3) (N := some 61) (v := ?_) (a' := ?_) #[true, false, true, true, false, false, false, false, false, false, false, false, false, false, false] rfl rfl (any_of HT_.out (by kernel_rfl)) (fun _ _ _ h => h) (Or.inl ⟨by rfl, ?_⟩) ?_ ?_
      rotate_left
      · intro w'
        go_simp
        with_reducible rfl
      rotate_left
      · simp only [Act.put, sA_, sB_, sC_, zM, zO]
        rfl
      refine pure_ (i := 4) (N := some 62) (v := ?_) (a' := ?_) #[true, false, true, true, true, false, false, false, false, false, false, false, false, false, false] rfl rfl (any_of HT_.out (by kernel_rfl)) (fun _ _ _ h => h) (Or.inl ⟨by rfl, ?_⟩) ?_ ?_
      rotate_left
      · intro w'
        go_simp
        with_reducible rfl
      rotate_left
      · simp only [Act.put, sA_, sB_, sC_, zM, zO]
        rfl
      refine pure_ (i := 6) (N := some 64) (v := ?_) (a' := ?_) #[true, false, true, true, true, false, true, false, false, false, false, false, false, false, false] rfl rfl (any_of HT_.out (by kernel_rfl)) (fun _ _ _ h => h) (Or.inl ⟨by rfl, ?_⟩) ?_ ?_
      rotate_left
      · intro w'
        go_simp
        with_reducible rfl
      rotate_left
      · simp only [Act.put, sA_, sB_, sC_, zM, zO]
        rfl
      refine pure_ (i := 9) (N := some 67) (v := ?_) (a' := ?_) #[true, false, true, true, true, false, true, false, false, true, false, false, false, false, false] rfl rfl (any_of HT_.out (by kernel_rfl)) (fun _ _ _ h => h) (Or.inl ⟨by rfl, ?_⟩) ?_ ?_
      rotate_left
      · intro w'
        go_simp
        with_reducible rfl
      rotate_left
      · simp only [Act.put, sA_, sB_, sC_, zM, zO]
        rfl
      refine take_ (i := 1) (N := some 59) (v := ?_) (a' := ?_) #[true, true, true, true, true, false, true, false, false, true, false, false, false, false, false] rfl rfl (take_ofW HT_.out HW_.out (by kernel_rfl)) (fun _ _ _ h => h) (Or.inl ⟨by rfl, ?_⟩) hHeld ?_ ?_
      rotate_left
      · rintro w' ⟨s0, s1, s2, s3, s4, s5, s6, s7, s8⟩
        go_simp
        with_reducible rfl
      rotate_left
      · simp only [Act.put, sA_, sB_, sC_, zM, zO]
        rfl
      refine take_ (i := 5) (N := some 63) (v := ?_) (a' := ?_) #[true, true, true, true, true, true, true, false, false, true, false, false, false, false, false] rfl rfl (take_ofW HT_.out HW_.out (by kernel_rfl)) (fun _ _ _ h => h) (Or.inl ⟨by rfl, ?_⟩) hHeld ?_ ?_
      rotate_left
      · rintro w' ⟨s0, s1, s2, s3, s4, s5, s6, s7, s8⟩
        go_simp
        with_reducible rfl
      rotate_left
      · simp only [Act.put, sA_, sB_, sC_, zM, zO]
        rfl
      refine pure_ (i := 7) (N := some 65) (v := ?_) (a' := ?_) #[true, true, true, true, true, true, true, true, false, true, false, false, false, false, false] rfl rfl (any_of HT_.out (by kernel_rfl)) (fun _ _ _ h => h) (Or.inl ⟨by rfl, ?_⟩) ?_ ?_
      rotate_left
      · intro w'
        go_simp
        with_reducible rfl
      rotate_left
      · simp only [Act.put, sA_, sB_, sC_, zM, zO]
        rfl
      refine take_ (i := 8) (N := some 66) (v := ?_) (a' := ?_) (tf_ 10 15) rfl rfl (take_ofW HT_.out HW_.out (by kernel_rfl)) (fun _ _ _ h => h) (Or.inl ⟨by rfl, ?_⟩) hHeld ?_ ?_
      rotate_left
      · rintro w' ⟨s0, s1, s2, s3, s4, s5, s6, s7, s8⟩
        go_simp
        with_reducible rfl
      rotate_left
      · simp only [Act.put, sA_, sB_, sC_, zM, zO]
        rfl
      refine take_ (i := 10) (N := some 68) (v := ?_) (a' := ?_) (tf_ 11 15) rfl rfl (take_ofW HT_.out HW_.out (by kernel_rfl)) (fun _ _ _ h => h) (Or.inl ⟨by rfl, ?_⟩) hHeld ?_ ?_
      rotate_left
      · rintro w' ⟨s0, s1, s2, s3, s4, s5, s6, s7, s8⟩
        go_simp
        with_reducible rfl
      rotate_left
      · simp only [Act.put, sA_, sB_, sC_, zM, zO]
        rfl
      refine one_ (i := 11) (N := some 69) #[true, true, true, true, true, true, true, true, true, true, true, true, false, false, false] rfl rfl (one_of HT_.out (by kernel_rfl)) (by decide) (fun K hK => ?_)
      refine goes_ Try.func24 (by kernel_rfl) rfl #[.agg #[.slice Ao19 t431.length co19, .slice (some ad450) t434.length co21], .int .i64 x10_2, .int .i64 ji52, .int .u8 (rd t434 (ji52)), .int .i64 t438] (by rfl) rfl rfl (by (try simp only [List.map_toArray, List.map_cons, List.map_nil]); first | done | (simp only [hji52]; rfl) | rfl | (simp only [List.length_drop, List.length_take]; rfl)) ?_
      with_reducible refine (r3_Line.calls k2 _ _ t431 _ _ t434 x10_2 ji52 (rd t434 (ji52)) t438 t451 t452 t453 t454 _ ?side1 ?side2 ?side3 ?side4 A55.out).mono ?_
      (case side1 => repeat (first | exact (Kd.zX HO_444000.out).2.2 | (with_reducible refine Kd.zT ?_ _) | (with_reducible refine Kd.zU ?_ _) | (with_reducible refine Kd.zV ?_)))
      (case side2 => exact (Kd.zX HO_444000.out).2.1)
      (case side3 => repeat (first | exact (Kd.zX HO_444001.out).2.2 | (with_reducible refine Kd.zT ?_ _) | (with_reducible refine Kd.zU ?_ _) | (with_reducible refine Kd.zV ?_)))
      (case side4 => exact (Kd.zX HO_444001.out).2.1)
      rintro e w71 ⟨rfl, hb⟩
      have HS8_ := (hb.cell (World.block_lt_of_cell? _ _ (hHeld.2.2.2.2.2.2.2.2))).trans (hHeld.2.2.2.2.2.2.2.2); refine ⟨_, rfl, ?_⟩
      have n0_ := zA.mk (Kd.zY (by (with_reducible repeat (first | apply Kd.zQ | apply Kd.zR | apply Kd.zS)); exact HO_9.out) hb)
      have n1_ := zA.mk (Kd.zY (by (with_reducible repeat (first | apply Kd.zQ | apply Kd.zR | apply Kd.zS)); exact HO_444000.out) hb)
      have n2_ := zA.mk (Kd.zY (by (with_reducible repeat (first | apply Kd.zQ | apply Kd.zR | apply Kd.zS)); exact HO_444001.out) hb)
      have n3_ := zA.mk (zK (g := gb429) (o := .cells #[.int .u8 a1_0, .int .u8 a1_1, .int .u8 a1_2, .int .u16 a1_3, .int .u16 a1_4, .float .f64 a1_5] 26 (0, 0)) (by (with_reducible repeat (first | refine zC ?_ _ | refine zD ?_ | refine zB ?_ _)); exact BK429.out) hb)
      have n4_ := zA.mk (zK (g := gb443) (o := .cells #[.slice Ao19 t431.length co19, .slice (some ad450) t434.length co21] 31 (0, 0)) (by (with_reducible repeat (first | refine zC ?_ _ | refine zD ?_ | refine zB ?_ _)); exact BK443.out) hb)
      have n5_ := zA.mk (zK (g := gb444) (o := .cells #[.int .i64 t437, .int .i64 t438, .int .u8 t439, .int .i64 t440, .int .i64 t441, .float .f64 t442] 35 (0, 0)) (by (with_reducible repeat (first | refine zC ?_ _ | refine zD ?_ | refine zB ?_ _)); exact BK444.out) hb)
      have n6_ := zA.mk (zN (by repeat (first | (with_reducible first | exact HB.out | apply zJ | apply zG | apply zI | refine zF ?_ GE429.out | refine zF ?_ GE443.out | refine zF ?_ GE444.out) | exact HB.out)) hb)
      clear HO_9 HO_444000 HO_444001 BK429 BK443 BK444 HB; have HO_9 := n0_; have HO_444000 := n1_; have HO_444001 := n2_; have BK429 := n3_; have BK443 := n4_; have BK444 := n5_; have HB := n6_; clear n0_ n1_ n2_ n3_ n4_ n5_ n6_; (try clear hb)
      (try clear hb2)
      (try clear hk)
      (try clear hi)
      refine hK.out _ _ ⟨(zE BK443.out 0).trans rfl, (zE BK443.out 1).trans rfl, (zE BK444.out 0).trans rfl, (zE BK444.out 1).trans rfl, (zE BK444.out 2).trans rfl, (zE BK444.out 3).trans rfl, (zE BK444.out 4).trans rfl, (zE BK444.out 5).trans rfl, HS8_⟩ (fun hHeld => ?_)
      clear hK K; refine norm_ (a' := ?_) ?_ ?_
      rotate_left
      · show Act.put _ (some 69) _ = _
        simp only [Act.put, sA_, sB_, sC_, zM, zO]; rfl
      refine last_ (i := 12) (N := some 70) #[true, true, true, true, true, true, true, true, true, true, true, true, true, false, false] rfl rfl (one_of HT_.out (by kernel_rfl)) (by decide) (fun K hK => ?_)
      refine value_ (w1 := ?_) (v := ?_) (by rfl) rfl ?_ ?_
      rotate_left 2
      · go_simp
        constructor
        · rfl
        rfl
      refine hK.out _ _ ?_
      clear hK K; refine norm_ (a' := ?_) ?_ ?_
      rotate_left
      · show Act.put _ (some 70) _ = _
        simp only [Act.put, sA_, sB_, sC_, zM, zO]; rfl
      refine last_ (i := 13) (N := some 71) #[true, true, true, true, true, true, true, true, true, true, true, true, true, true, false] rfl rfl (one_of HT_.out (by kernel_rfl)) (by decide) (fun K hK => ?_)
      refine Kd.R_append_step k54 (w0 := w) w.heap.size (by rfl) (.tmp 58) (.tmp 70) 37 54 (.agg #[(.int .i64 0), (.int .i64 0), (.int .i64 0), (.int .u8 0)]) 32 rfl Try.underlying37 info54 rfl (by decide) (by omega) u9 x9_2 (⟨t451, t452, t453, t454⟩ : S54) [.int .i64 t451, .int .i64 t452, .int .i64 t453, .int .u8 t454] (fun _ => True) (fun _ => False) rfl rfl ?aP (fun _ hk => hk.elim) ?aF ?aO ?aB ?aS ?aL ?_
      (case aP => exact k54_mkM _ _ _ (⟨t451, t452, t453, t454⟩ : S54))
      (case aB => exact (by repeat (first | (with_reducible first | exact HB.out | apply zJ | apply zG | apply zI | refine zF ?_ GE429.out | refine zF ?_ GE443.out | refine zF ?_ GE444.out) | exact HB.out)))
      (case aF => exact (fun _ _ => trivial))
      (case aO => exact (by (with_reducible repeat (first | apply Kd.zQ | apply Kd.zR | apply Kd.zS)); exact HO_9.out))
      (case aS => exact (zP (by repeat (first | (with_reducible first | exact HB.out | apply zJ | apply zG | apply zI | refine zF ?_ GE429.out | refine zF ?_ GE443.out | refine zF ?_ GE444.out) | exact HB.out))))
      (case aL => have := LMc56.out; omega)
      intro v456 w72 ho hb hg hat
      rw [← Ny455.out] at ho; have n0_ := zA.mk (Kd.R_over' (by (with_reducible repeat (first | apply Kd.zQ | apply Kd.zR | apply Kd.zS)); exact HO_444000.out) (Kd.R_typed (by (with_reducible repeat (first | apply Kd.zQ | apply Kd.zR | apply Kd.zS)); exact HO_9.out)) (by decide) hg)
      have n1_ := zA.mk (Kd.R_over' (by (with_reducible repeat (first | apply Kd.zQ | apply Kd.zR | apply Kd.zS)); exact HO_444001.out) (Kd.R_typed (by (with_reducible repeat (first | apply Kd.zQ | apply Kd.zR | apply Kd.zS)); exact HO_9.out)) (by decide) hg)
      have n2_ := zA.mk (blk_grown (g := gb429) (o := .cells #[.int .u8 a1_0, .int .u8 a1_1, .int .u8 a1_2, .int .u16 a1_3, .int .u16 a1_4, .float .f64 a1_5] 26 (0, 0)) (by (with_reducible repeat (first | refine zC ?_ _ | refine zD ?_ | refine zB ?_ _)); exact BK429.out) hg (Kd.R_ne HO_9.out BK429.out (by decide)))
      have n3_ := zA.mk (blk_grown (g := gb443) (o := .cells #[.slice Ao19 t431.length co19, .slice (some ad450) t434.length co21] 31 (0, 0)) (by (with_reducible repeat (first | refine zC ?_ _ | refine zD ?_ | refine zB ?_ _)); exact BK443.out) hg (Kd.R_ne HO_9.out BK443.out (by decide)))
      have n4_ := zA.mk (blk_grown (g := gb444) (o := .cells #[.int .i64 t437, .int .i64 t438, .int .u8 t439, .int .i64 t440, .int .i64 t441, .float .f64 t442] 35 (0, 0)) (by (with_reducible repeat (first | refine zC ?_ _ | refine zD ?_ | refine zB ?_ _)); exact BK444.out) hg (Kd.R_ne HO_9.out BK444.out (by decide)))
      have n5_ := zA.mk (hb); have n6_ := zA.mk (ho); clear HO_444000; clear HO_444001; clear BK429; clear BK443; clear BK444; clear HB; clear HO_9; have HO_444000 := n0_; have HO_444001 := n1_; have BK429 := n2_; have BK443 := n3_; have BK444 := n4_; have HB := n5_; have HO457 := n6_; clear n0_ n1_ n2_ n3_ n4_ n5_ n6_; clear ho hb hg hat; refine hK.out _ _ ?_
      clear hK K; refine norm_ (a' := ?_) ?_ ?_
      rotate_left
      · show Act.put _ (some 71) _ = _
        simp only [Act.put, sA_, sB_, sC_, zM, zO]; rfl
      refine pure_ (i := 14) (N := some 9) (v := ?_) (a' := ?_) #[true, true, true, true, true, true, true, true, true, true, true, true, true, true, true] rfl rfl (any_of HT_.out (by kernel_rfl)) (fun _ _ _ h => h) (Or.inl ⟨by rfl, ?_⟩) ?_ ?_
      rotate_left
      · intro w'
        go_simp
        with_reducible rfl
      rotate_left
      · simp only [Act.put, sA_, sB_, sC_, zM, zO]
        rfl
      refine done_ (done_of HT_.out (by kernel_rfl)) ?_
      try go_wp2
      have n0_ := zA.mk (Kd.zS HO_444000.out); have n1_ := zA.mk (Kd.zS HO_444001.out); have n2_ := zA.mk (Kd.zS HO457.out); have n3_ := zA.mk (zD BK429.out); have n4_ := zA.mk (zD BK443.out); have n5_ := zA.mk (zD BK444.out); have n6_ := zA.mk (zI HB.out); clear HO_444000; clear HO_444001; clear HO457; clear BK429; clear BK443; clear BK444; clear HB; have HO_444000 := n0_; have HO_444001 := n1_; have HO457 := n2_; have BK429 := n3_; have BK443 := n4_; have BK444 := n5_; have HB := n6_; clear n0_ n1_ n2_ n3_ n4_ n5_ n6_; have p458 : 0 ≤ ((ji52) : Int) := of_decide_eq_true (by first | (with_reducible assumption) | assumption)
      have q458 : (ji52) < (t434.length : Int) := of_decide_eq_true (by first | (with_reducible assumption) | assumption)
      obtain ⟨ad458, e458, hx458_0⟩ := Kd.at_int (Kd.zX HO_444001.out).2.2 (ji52) p458 q458; obtain rfl : ad450 = ad458 := (by injection e458)
      replace p458 := eq_true p458; replace q458 := eq_true q458; refine start_ (n := 16) (S := fun w' => w'.cell? ⟨gb443, 0, none⟩ = some (.slice Ao19 t431.length co19) ∧ w'.cell? ⟨gb443, 1, none⟩ = some (.slice (some ad450) t434.length co21) ∧ w'.cell? ⟨gb444, 0, none⟩ = some (.int .i64 t437) ∧ w'.cell? ⟨gb444, 1, none⟩ = some (.int .i64 t438) ∧ w'.cell? ⟨gb444, 2, none⟩ = some (.int .u8 t439) ∧ w'.cell? ⟨gb444, 3, none⟩ = some (.int .i64 t440) ∧ w'.cell? ⟨gb444, 4, none⟩ = some (.int .i64 t441) ∧ w'.cell? ⟨gb444, 5, none⟩ = some (.float .f64 t442) ∧ w'.cell? (ad450.add ((ji52)).toNat) = some (.int .u8 (rd t434 (ji52)))) (ds := []) #[false, false, false, false, false, false, false, false, false, false, false, false, false, false, false, false] (by kernel_rfl) rfl rfl ⟨(zE BK443.out 0).trans rfl, (zE BK443.out 1).trans rfl, (zE BK444.out 0).trans rfl, (zE BK444.out 1).trans rfl, (zE BK444.out 2).trans rfl, (zE BK444.out 3).trans rfl, (zE BK444.out 4).trans rfl, (zE BK444.out 5).trans rfl, hx458_0⟩ (fun hHeld => ?_); refine with_tabW l6_LinesEach.tab15 l6_LinesEach.bits15 (fun HT_ HW_ => ?_)
      generalize w72.drew = w73 at HO_444000 HO_444001 HO457 BK429 BK443 BK444 HB hx458_0 hHeld ⊢
      refine pure_ (i := 1) (N := some 74) (v := ?_) (a' := ?_) #[false, true, false, false, false, false, false, false, false, false, false, false, false, false, false, false] rfl rfl (any_of HT_.out (by kernel_rfl)) (fun _ _ _ h => h) (Or.inl ⟨by rfl, ?_⟩) ?_ ?_
      rotate_left
      · intro w'
        go_simp
        with_reducible rfl
      rotate_left
      · simp only [Act.put, sA_, sB_, sC_, zM, zO]
        rfl
      refine pure_ (i := 2) (N := some 75) (v := ?_) (a' := ?_) #[false, true, true, false, false, false, false, false, false, false, false, false, false, false, false, false] rfl rfl (any_of HT_.out (by kernel_rfl)) (fun _ _ _ h => h) (Or.inl ⟨by rfl, ?_⟩) ?_ ?_
      rotate_left
      · intro w'
        go_simp
        with_reducible rfl
      rotate_left
      · simp only [Act.put, sA_, sB_, sC_, zM, zO]
        rfl
      refine pure_ (i := 3) (N := some 76) (v := ?_) (a' := ?_) #[false, true, true, true, false, false, false, false, false, false, false, false, false, false, false, false] rfl rfl (any_of HT_.out (by kernel_rfl)) (fun _ _ _ h => h) (Or.inl ⟨by rfl, ?_⟩) ?_ ?_
      rotate_left
      · intro w'
        go_simp
        with_reducible rfl
      rotate_left
      · simp only [Act.put, sA_, sB_, sC_, zM, zO]
        rfl
      refine pure_ (i := 5) (N := some 78) (v := ?_) (a' := ?_) #[false, true, true, true, false, true, false, false, false, false, false, false, false, false, false, false] rfl rfl (any_of HT_.out (by kernel_rfl)) (fun _ _ _ h => h) (Or.inl ⟨by rfl, ?_⟩) ?_ ?_
      rotate_left
      · intro w'
        go_simp
        with_reducible rfl
      rotate_left
      · simp only [Act.put, sA_, sB_, sC_, zM, zO]
        rfl
      refine take_ (i := 0) (N := some 73) (v := ?_) (a' := ?_) #[true, true, true, true, false, true, false, false, false, false, false, false, false, false, false, false] rfl rfl (take_ofW HT_.out HW_.out (by kernel_rfl)) (fun _ _ _ h => h) (Or.inl ⟨by rfl, ?_⟩) hHeld ?_ ?_
      rotate_left
      · rintro w' ⟨s0, s1, s2, s3, s4, s5, s6, s7, s8⟩
        go_simp
        with_reducible rfl
      rotate_left
      · simp only [Act.put, sA_, sB_, sC_, zM, zO]
        rfl
      refine take_ (i := 4) (N := some 77) (v := ?_) (a' := ?_) (tf_ 6 16) rfl rfl (take_ofW HT_.out HW_.out (by kernel_rfl)) (fun _ _ _ h => h) (Or.inl ⟨by rfl, ?_⟩) hHeld ?_ ?_
      rotate_left
      · rintro w' ⟨s0, s1, s2, s3, s4, s5, s6, s7, s8⟩
        go_simp
        with_reducible rfl
      rotate_left
      · simp only [Act.put, sA_, sB_, sC_, zM, zO]
        rfl
      refine pure_ (i := 6) (N := some 79) (v := ?_) (a' := ?_) (tf_ 7 16) rfl rfl (any_of HT_.out (by kernel_rfl)) (fun _ _ _ h => h) (Or.inl ⟨by rfl, ?_⟩) ?_ ?_
      rotate_left
      · intro w'
        go_simp
        with_reducible rfl
      rotate_left
      · simp only [Act.put, sA_, sB_, sC_, zM, zO]
        rfl
      refine take_ (i := 7) (N := some 80) (v := ?_) (a' := ?_) (tf_ 8 16) rfl rfl (take_ofW HT_.out HW_.out (by kernel_rfl)) (fun _ _ _ h => h) (Or.inl ⟨by rfl, ?_⟩) hHeld ?_ ?_
      rotate_left
      · rintro w' ⟨s0, s1, s2, s3, s4, s5, s6, s7, s8⟩
        go_simp
        with_reducible rfl
      rotate_left
      · simp only [Act.put, sA_, sB_, sC_, zM, zO]
        rfl
      refine pure_ (i := 8) (N := some 81) (v := ?_) (a' := ?_) (tf_ 9 16) rfl rfl (any_of HT_.out (by kernel_rfl)) (fun _ _ _ h => h) (Or.inl ⟨by rfl, ?_⟩) ?_ ?_
      rotate_left
      · intro w'
        go_simp
        with_reducible rfl
      rotate_left
      · simp only [Act.put, sA_, sB_, sC_, zM, zO]
        rfl
      refine take_ (i := 9) (N := some 82) (v := ?_) (a' := ?_) (tf_ 10 16) rfl rfl (take_ofW HT_.out HW_.out (by kernel_rfl)) (fun _ _ _ h => h) (Or.inl ⟨by rfl, ?_⟩) hHeld ?_ ?_
      rotate_left
      · rintro w' ⟨s0, s1, s2, s3, s4, s5, s6, s7, s8⟩
        go_simp
        with_reducible rfl
      rotate_left
      · simp only [Act.put, sA_, sB_, sC_, zM, zO]
        rfl
      refine one_ (i := 10) (N := some 83) #[true, true, true, true, true, true, true, true, true, true, true, false, false, false, false, false] rfl rfl (one_of HT_.out (by kernel_rfl)) (by decide) (fun K hK => ?_)
      refine goes_ Try.func25 (by kernel_rfl) rfl #[.agg #[.slice Ao19 t431.length co19, .slice (some ad450) t434.length co21], .int .i64 x10_2, .int .i64 ji52, .bool ((rd t434 (ji52)) == 2), .agg #[.int .i64 t437, .int .i64 t438, .int .u8 t439, .int .i64 t440, .int .i64 t441, .float .f64 t442]] (by rfl) rfl rfl (by (try simp only [List.map_toArray, List.map_cons, List.map_nil]); first | done | (simp only [hji52]; rfl) | rfl | (simp only [List.length_drop, List.length_take]; rfl)) ?_
      with_reducible refine (r3_Cost.calls k2 _ _ t431 _ _ t434 x10_2 ji52 ((rd t434 (ji52)) == 2) t437 t438 t439 t440 t441 t442 t459 t460 _ ?side1 ?side2 ?side3 ?side4 A57.out).mono ?_
      (case side1 => repeat (first | exact (Kd.zX HO_444000.out).2.2 | (with_reducible refine Kd.zT ?_ _) | (with_reducible refine Kd.zU ?_ _) | (with_reducible refine Kd.zV ?_)))
      (case side2 => exact (Kd.zX HO_444000.out).2.1)
      (case side3 => repeat (first | exact (Kd.zX HO_444001.out).2.2 | (with_reducible refine Kd.zT ?_ _) | (with_reducible refine Kd.zU ?_ _) | (with_reducible refine Kd.zV ?_)))
      (case side4 => exact (Kd.zX HO_444001.out).2.1)
      rintro e w74 ⟨rfl, hb⟩
      have HS8_ := (hb.cell (World.block_lt_of_cell? _ _ (hHeld.2.2.2.2.2.2.2.2))).trans (hHeld.2.2.2.2.2.2.2.2); refine ⟨_, rfl, ?_⟩
      have n0_ := zA.mk (Kd.zY (by (with_reducible repeat (first | apply Kd.zQ | apply Kd.zR | apply Kd.zS)); exact HO_444000.out) hb)
      have n1_ := zA.mk (Kd.zY (by (with_reducible repeat (first | apply Kd.zQ | apply Kd.zR | apply Kd.zS)); exact HO_444001.out) hb)
      have n2_ := zA.mk (Kd.zY (by (with_reducible repeat (first | apply Kd.zQ | apply Kd.zR | apply Kd.zS)); exact HO457.out) hb)
      have n3_ := zA.mk (zK (g := gb429) (o := .cells #[.int .u8 a1_0, .int .u8 a1_1, .int .u8 a1_2, .int .u16 a1_3, .int .u16 a1_4, .float .f64 a1_5] 26 (0, 0)) (by (with_reducible repeat (first | refine zC ?_ _ | refine zD ?_ | refine zB ?_ _)); exact BK429.out) hb)
      have n4_ := zA.mk (zK (g := gb443) (o := .cells #[.slice Ao19 t431.length co19, .slice (some ad450) t434.length co21] 31 (0, 0)) (by (with_reducible repeat (first | refine zC ?_ _ | refine zD ?_ | refine zB ?_ _)); exact BK443.out) hb)
      have n5_ := zA.mk (zK (g := gb444) (o := .cells #[.int .i64 t437, .int .i64 t438, .int .u8 t439, .int .i64 t440, .int .i64 t441, .float .f64 t442] 35 (0, 0)) (by (with_reducible repeat (first | refine zC ?_ _ | refine zD ?_ | refine zB ?_ _)); exact BK444.out) hb)
      have n6_ := zA.mk (zN (by repeat (first | (with_reducible first | exact HB.out | apply zJ | apply zG | apply zI | refine zF ?_ GE429.out | refine zF ?_ GE443.out | refine zF ?_ GE444.out) | exact HB.out)) hb)
      clear HO_444000 HO_444001 HO457 BK429 BK443 BK444 HB; have HO_444000 := n0_; have HO_444001 := n1_; have HO457 := n2_; have BK429 := n3_; have BK443 := n4_; have BK444 := n5_; have HB := n6_; clear n0_ n1_ n2_ n3_ n4_ n5_ n6_; (try clear hb)
      (try clear hb2)
      (try clear hk)
      (try clear hi)
      refine hK.out _ _ ⟨(zE BK443.out 0).trans rfl, (zE BK443.out 1).trans rfl, (zE BK444.out 0).trans rfl, (zE BK444.out 1).trans rfl, (zE BK444.out 2).trans rfl, (zE BK444.out 3).trans rfl, (zE BK444.out 4).trans rfl, (zE BK444.out 5).trans rfl, HS8_⟩ (fun hHeld => ?_)
      clear hK K; refine norm_ (a' := ?_) ?_ ?_
      rotate_left
      · show Act.put _ (some 83) _ = _
        simp only [Act.put, sA_, sB_, sC_, zM, zO]; rfl
      refine pure_ (i := 11) (N := some 72) (v := ?_) (a' := ?_) (tf_ 12 16) rfl rfl (any_of HT_.out (by kernel_rfl)) (fun _ _ _ h => h) (Or.inl ⟨by rfl, ?_⟩) ?_ ?_
      rotate_left
      · intro w'
        go_simp
        with_reducible rfl
      rotate_left
      · simp only [Act.put, sA_, sB_, sC_, zM, zO]
        rfl
      refine pure_ (i := 12) (N := some 84) (v := ?_) (a' := ?_) (tf_ 13 16) rfl rfl (any_of HT_.out (by kernel_rfl)) (fun _ _ _ h => h) (Or.inl ⟨by rfl, ?_⟩) ?_ ?_
      rotate_left
      · intro w'
        go_simp
        with_reducible rfl
      rotate_left
      · simp only [Act.put, sA_, sB_, sC_, zM, zO]
        rfl
      refine pure_ (i := 13) (N := some 85) (v := ?_) (a' := ?_) (tf_ 14 16) rfl rfl (any_of HT_.out (by kernel_rfl)) (fun _ _ _ h => h) (Or.inl ⟨by rfl, ?_⟩) ?_ ?_
      rotate_left
      · intro w'
        go_simp
        with_reducible rfl
      rotate_left
      · simp only [Act.put, sA_, sB_, sC_, zM, zO]
        rfl
      refine pure_ (i := 14) (N := some 16) (v := ?_) (a' := ?_) (tf_ 15 16) rfl rfl (any_of HT_.out (by kernel_rfl)) (fun _ _ _ h => h) (Or.inl ⟨by rfl, ?_⟩) ?_ ?_
      rotate_left
      · intro w'
        go_simp
        with_reducible rfl
      rotate_left
      · simp only [Act.put, sA_, sB_, sC_, zM, zO]
        rfl
      refine pure_ (i := 15) (N := some 17) (v := ?_) (a' := ?_) #[true, true, true, true, true, true, true, true, true, true, true, true, true, true, true, true] rfl rfl (any_of HT_.out (by kernel_rfl)) (fun _ _ _ h => h) (Or.inl ⟨by rfl, ?_⟩) ?_ ?_
      rotate_left
      · intro w'
        go_simp
        with_reducible rfl
      rotate_left
      · simp only [Act.put, sA_, sB_, sC_, zM, zO]
        rfl
      refine done_ (done_of HT_.out (by kernel_rfl)) ?_
      try go_wp2
      go_roundg k2
      case measure => have := HJ5.out; have := HK2.out; omega
      case rel => exact ⟨(y455), (ji52), (wrap64 (x11_2 + t459)), (false), (wrap64 (x36_2 + 1)), (by first | rfl | (simp; done) | (simp only [← hji52] <;> (first | rfl | simp)) | (simp [*]; done)), (by first | rfl | (simp; done) | (simp [*]; done)), (by first | rfl | (simp; done) | (simp [*]; done)), (by first | rfl | (simp; done) | (simp [*]; done)), H', ⟨by have := HJ5.out; have := HK2.out; omega⟩, ⟨by (with_reducible repeat (first | apply Kd.zQ | apply Kd.zR | apply Kd.zS)); exact HO457.out⟩, ⟨by (with_reducible repeat (first | apply Kd.zQ | apply Kd.zR | apply Kd.zS)); exact HO_444000.out⟩, ⟨by (with_reducible repeat (first | apply Kd.zQ | apply Kd.zR | apply Kd.zS)); exact HO_444001.out⟩, ⟨by (with_reducible repeat (first | refine zC ?_ _ | refine zD ?_ | refine zB ?_ _)); exact BK429.out⟩, ⟨by (with_reducible repeat (first | refine zC ?_ _ | refine zD ?_ | refine zB ?_ _)); exact BK443.out⟩, ⟨by (with_reducible repeat (first | refine zC ?_ _ | refine zD ?_ | refine zB ?_ _)); exact BK444.out⟩, ⟨by repeat (first | (with_reducible first | exact HB.out | apply zJ | apply zG | apply zI | refine zF ?_ GE429.out | refine zF ?_ GE443.out | refine zF ?_ GE444.out) | exact HB.out)⟩⟩
def l6_LinesEach.Pure : Prop := ∀ (l0 : List (S63)) (a1_0 : Int) (a1_1 : Int) (a1_2 : Int) (a1_3 : Int) (a1_4 : Int) (a1_5 : Nat) (l2 : List Int), (l0.length * 4 ≤ 140737488351232 ∧ ∀ y0 ∈ l0, ((Lit.int .u8 y0.f0).wf = true ∧ ((Lit.int .u8 y0.f1).wf = true ∧ ((Lit.int .u8 y0.f2).wf = true ∧ (Lit.int .u8 y0.f3).wf = true)))) → ((Lit.int .u8 a1_0).wf = true ∧ ((Lit.int .u8 a1_1).wf = true ∧ ((Lit.int .u8 a1_2).wf = true ∧ ((Lit.int .u16 a1_3).wf = true ∧ ((Lit.int .u16 a1_4).wf = true ∧ (Lit.float .f64 a1_5).wf = true))))) → (l2.length * 8 ≤ 140737488351232 ∧ ∀ y0 ∈ l2, (Lit.int .i64 y0).wf = true) → ∃ k, l6_LinesEach.f k l0 a1_0 a1_1 a1_2 a1_3 a1_4 a1_5 l2 = some true
end Go.Proofs.Ytcnblneghbgjgaa.F
end
