/- Printed by a program: Lean functions that answer as the Go functions do, and the proofs of it. -/
import Derived.Test.YtlgclhhkgohanaaVBestBreaks0
import Derived.Test.YtlgclhhkgohanaaVBestBreaks1
section
namespace Go.Proofs.Ytlgclhhkgohanaa.F
open Go.RowKit Go.Proofs.YtlgclhhkgohanaaW.PrintWords Go.Proofs.YtlgclhhkgohanaaW.PrintLast Go.Proofs.YtlgclhhkgohanaaW.PrintMore
attribute [local go_sem] max2_int min2_int max_two min_two max_three min_three max_four min_four   -- for this text's walks alone
set_option linter.unusedVariables false
set_option linter.unusedSimpArgs false
def r3_Cells.f (k : Nat) (l0_0 : List (S62)) (l0_1 : List Int) (a1 : Int) (a2 : Int) (a3 : Int) (a4 : Int) : Option (Int) := (r3_Trim.f k l0_0 l0_1 a1 a2).bind fun t247 => ((r3_Columns.f k l0_0 l0_1 a1 t247 a4).bind fun t248 => (if 0 ≤ (wrap64 ((t248.length : Int) - 1)) then (if (wrap64 ((t248.length : Int) - 1)) < (t248.length : Int) then (if a3 = 3 then (some (wrap64 ((rd t248 (wrap64 ((t248.length : Int) - 1))) + 1))) else (some (rd t248 (wrap64 ((t248.length : Int) - 1))))) else (none)) else (none)))
theorem r3_Cells.mono : ∀ a0 a1 a2 a3 a4 a5 k, LeO (r3_Cells.f k a0 a1 a2 a3 a4 a5) (r3_Cells.f (k + 1) a0 a1 a2 a3 a4 a5) := by
  intro a0 a1 a2 a3 a4 a5 k
  unfold r3_Cells.f
  repeat' (with_reducible first | exact r3_Columns.mono _ _ _ _ _ _ | exact r3_Trim.mono _ _ _ _ _ | exact LeO.refl _ | exact LeO.none _ | refine LeO.ite ?_ ?_ | refine LeO.bind ?_ (fun _ => ?_))
def r3_Cells.T1 : Bool × List (List Nat × List Nat) := (true, [([], []), ([], []), ([], []), ([], []), ([], []), ([2, 3, 4], [2, 3, 4]), ([], []), ([0, 1, 5, 6, 5], [0, 1, 5, 6]), ([7, 7, 0, 1, 2, 3, 4, 5, 6, 7], [7])])
def r3_Cells.B1 : List Nat := [0, 0, 0, 0, 0, 28, 0, 127, 255]
theorem r3_Cells.tab1 : rtab .any (opsOf Try.f18 1) = r3_Cells.T1 := by kernel_rfl
theorem r3_Cells.bits1 : waitsOk r3_Cells.T1.2 r3_Cells.B1 = true := by kernel_rfl
set_option maxHeartbeats 8000000 in
set_option maxRecDepth 100000 in
theorem r3_Cells.calls (k : Nat) (A0_0 : Option Addr) (c0_0 : Nat) (l0_0 : List (S62)) (A0_1 : Option Addr) (c0_1 : Nat) (l0_1 : List Int) (a1 : Int) (a2 : Int) (a3 : Int) (a4 : Int) (r : Int) (w : World) (hr0_0 : Kd.C k62 w A0_0 l0_0.length l0_0) (hc0_0 : l0_0.length ≤ c0_0) (hr0_1 : Kd.C (Kd.int .u8) w A0_1 l0_1.length l0_1) (hc0_1 : l0_1.length ≤ c0_1) (h : r3_Cells.f k l0_0 l0_1 a1 a2 a3 a4 = some r) :
    Calls Try.prog 18 #[.agg #[.slice A0_0 l0_0.length c0_0, .slice A0_1 l0_1.length c0_1], .int .i64 a1, .int .i64 a2, .int .u8 a3, .int .i64 a4] w fun e w' => e = .returned (.int .i64 r) ∧ Below w.heap.size w w' := by
  have hu31 := Try.underlying31; have HR0_0 := zA.mk hr0_0; have HC0_0 := zA.mk hc0_0; clear hr0_0 hc0_0; have HR0_1 := zA.mk hr0_1; have HC0_1 := zA.mk hc0_1; clear hr0_1 hc0_1; have HB := zA.mk (Below.refl w.heap.size w); have H : ((r3_Trim.f k l0_0 l0_1 a1 a2).bind fun t247 => ((r3_Columns.f k l0_0 l0_1 a1 t247 a4).bind fun t248 => (if 0 ≤ (wrap64 ((t248.length : Int) - 1)) then (if (wrap64 ((t248.length : Int) - 1)) < (t248.length : Int) then (if a3 = 3 then (some (wrap64 ((rd t248 (wrap64 ((t248.length : Int) - 1))) + 1))) else (some (rd t248 (wrap64 ((t248.length : Int) - 1))))) else (none)) else (none)))) = some r := h
  clear h; replace H := Option.bind_eq_some_iff.mp H; obtain ⟨t247, A60, H⟩ := H; replace H : ((r3_Columns.f k l0_0 l0_1 a1 t247 a4).bind fun t248 => (if 0 ≤ (wrap64 ((t248.length : Int) - 1)) then (if (wrap64 ((t248.length : Int) - 1)) < (t248.length : Int) then (if a3 = 3 then (some (wrap64 ((rd t248 (wrap64 ((t248.length : Int) - 1))) + 1))) else (some (rd t248 (wrap64 ((t248.length : Int) - 1))))) else (none)) else (none))) = some r := H
  have A6 := zA.mk A60; clear A60; replace H := Option.bind_eq_some_iff.mp H; obtain ⟨t248, A70, H⟩ := H; replace H : (if 0 ≤ (wrap64 ((t248.length : Int) - 1)) then (if (wrap64 ((t248.length : Int) - 1)) < (t248.length : Int) then (if a3 = 3 then (some (wrap64 ((rd t248 (wrap64 ((t248.length : Int) - 1))) + 1))) else (some (rd t248 (wrap64 ((t248.length : Int) - 1))))) else (none)) else (none)) = some r := H; have A7 := zA.mk A70; clear A70; obtain ⟨ji8, hji8⟩ : ∃ j_ : Int, (wrap64 ((t248.length : Int) - 1)) = j_ := ⟨_, rfl⟩; replace H : (if 0 ≤ (ji8) then (if (ji8) < (t248.length : Int) then (if a3 = 3 then (some (wrap64 ((rd t248 (ji8)) + 1))) else (some (rd t248 (ji8)))) else (none)) else (none)) = some r := by first | (rw [hji8] at H; exact H) | (simp only [hji8] at H ⊢; exact H)
  (try rw [hji8] at A6)
  (try rw [hji8] at A7)
  have hji8w : (IntKind.i64.wrap ((t248.length : Int) - 1)) = ji8 := (i64_w _).trans hji8
  by_cases c9 : 0 ≤ (ji8)
  rotate_left
  · rw [if_neg c9] at H
    exact absurd H (by simp)
  rw [if_pos c9] at H; have c9b0 : decide (0 ≤ (ji8)) = true := decide_eq_true c9
  clear c9; by_cases c10 : (ji8) < (t248.length : Int)
  rotate_left
  · rw [if_neg c10] at H
    exact absurd H (by simp)
  rw [if_pos c10] at H; have c10b0 : decide ((ji8) < (t248.length : Int)) = true := decide_eq_true c10
  clear c10; by_cases c11 : a3 = 3
  · rw [if_pos c11] at H
    have c11b0 : (a3 == 3) = true := beq_iff_eq.mpr c11
    have c11b1 : (a3 != 3) = false := bne_eq_false_iff_eq.mpr c11
    clear c11; obtain rfl := Option.some.inj H
    go_enter Try.func18, Try.ntmps18
    try go_wp2_with (first | ((with_reducible refine gate_dst (N := 5) rfl ?_); refine box_event ?hg (N := 5) ?hd (cs := #[.slice A0_0 l0_0.length c0_0, .slice A0_1 l0_1.length c0_1]) (t := 31) ?hr ?_; (case hd => rfl); (case hg => rfl); (case hr => first | (go_simp; done) | (go_simp; rfl)); intro gb246 hg w12 hbox hb; have n0_ := zA.mk (zL (by repeat (first | (with_reducible first | exact HB.out | apply zJ | apply zF | apply zI) | exact HB.out)) hb); have n1_ := zA.mk (hbox); have n2_ := zA.mk ((by rw [hg]; exact (zM (by repeat (first | (with_reducible first | exact HB.out | apply zJ | apply zF | apply zI) | exact HB.out))) : w.heap.size ≤ gb246)); have n3_ := n2_; clear HB; have HB := n0_; have BK246 := n1_; have GW246 := n2_; have GE246 := n3_; clear n0_ n1_ n2_ n3_; clear hb hbox hg))
    replace BK246 := zA.mk (zD BK246.out); replace HB := zA.mk (zI HB.out); refine start_ (n := 9) (S := fun w' => w'.cell? ⟨gb246, 0, none⟩ = some (.slice A0_0 l0_0.length c0_0) ∧ w'.cell? ⟨gb246, 1, none⟩ = some (.slice A0_1 l0_1.length c0_1)) (ds := []) #[false, false, false, false, false, false, false, false, false] (by kernel_rfl) rfl rfl ⟨(zG BK246.out 0).trans rfl, (zG BK246.out 1).trans rfl⟩ (fun hHeld => ?_); refine with_tabW r3_Cells.tab1 r3_Cells.bits1 (fun HT_ HW_ => ?_)
    generalize w12.drew = w13 at BK246 HB hHeld ⊢
    refine pure_ (i := 1) (N := some 14) (v := ?_) (a' := ?_) (tb_ 2 9) rfl rfl (any_of HT_.out (by kernel_rfl)) (fun _ _ _ h => h) (Or.inl ⟨by rfl, ?_⟩) ?_ ?_
    rotate_left
    · intro w'
      go_simp
      with_reducible rfl
    rotate_left
    · simp only [Act.put, sA_, sB_, sC_, i64_w, i32_w]
      rfl
    refine pure_ (i := 3) (N := some 16) (v := ?_) (a' := ?_) (tb_ 10 9) rfl rfl (any_of HT_.out (by kernel_rfl)) (fun _ _ _ h => h) (Or.inl ⟨by rfl, ?_⟩) ?_ ?_
    rotate_left
    · intro w'
      go_simp
      with_reducible rfl
    rotate_left
    · simp only [Act.put, sA_, sB_, sC_, i64_w, i32_w]
      rfl
    refine pure_ (i := 4) (N := some 17) (v := ?_) (a' := ?_) (tb_ 26 9) rfl rfl (any_of HT_.out (by kernel_rfl)) (fun _ _ _ h => h) (Or.inl ⟨by rfl, ?_⟩) ?_ ?_
    rotate_left
    · intro w'
      go_simp
      with_reducible rfl
    rotate_left
    · simp only [Act.put, sA_, sB_, sC_, i64_w, i32_w]
      rfl
    refine pure_ (i := 6) (N := some 19) (v := ?_) (a' := ?_) (tb_ 90 9) rfl rfl (any_of HT_.out (by kernel_rfl)) (fun _ _ _ h => h) (Or.inl ⟨by rfl, ?_⟩) ?_ ?_
    rotate_left
    · intro w'
      go_simp
      with_reducible rfl
    rotate_left
    · simp only [Act.put, sA_, sB_, sC_, i64_w, i32_w]
      rfl
    refine take_ (i := 0) (N := some 13) (v := ?_) (a' := ?_) (tb_ 91 9) rfl rfl (take_ofW HT_.out HW_.out (by kernel_rfl)) (fun _ _ _ h => h) (Or.inl ⟨by rfl, ?_⟩) hHeld ?_ ?_
    rotate_left
    · rintro w' ⟨s0, s1⟩
      go_simp
      with_reducible rfl
    rotate_left
    · simp only [Act.put, sA_, sB_, sC_, i64_w, i32_w]
      rfl
    refine take_ (i := 2) (N := some 15) (v := ?_) (a' := ?_) (tb_ 95 9) rfl rfl (take_ofW HT_.out HW_.out (by kernel_rfl)) (fun _ _ _ h => h) (Or.inl ⟨by rfl, ?_⟩) hHeld ?_ ?_
    rotate_left
    · rintro w' ⟨s0, s1⟩
      go_simp
      with_reducible rfl
    rotate_left
    · simp only [Act.put, sA_, sB_, sC_, i64_w, i32_w]
      rfl
    refine one_ (i := 5) (N := some 18) (tb_ 127 9) rfl rfl (one_of HT_.out (by kernel_rfl)) (by decide) (fun K hK => ?_)
    refine goes_ Try.func29 (by kernel_rfl) rfl #[.agg #[.slice A0_0 l0_0.length c0_0, .slice A0_1 l0_1.length c0_1], .int .i64 a1, .int .i64 a2] (by rfl) rfl rfl (by (try simp only [List.map_toArray, List.map_cons, List.map_nil]); first | done | rfl | (simp only [List.length_drop, List.length_take]; rfl)) ?_
    with_reducible refine (r3_Trim.calls k _ _ l0_0 _ _ l0_1 a1 a2 t247 _ ?side1 ?side2 ?side3 ?side4 A6.out).mono ?_
    (case side1 => repeat (first | exact (Kd.zT HR0_0.out HB.out) | (with_reducible refine Kd.zQ ?_ _) | (with_reducible refine Kd.zR ?_ _) | (with_reducible refine Kd.zS ?_)))
    (case side2 => exact HC0_0.out)
    (case side3 => repeat (first | exact (Kd.zT HR0_1.out HB.out) | (with_reducible refine Kd.zQ ?_ _) | (with_reducible refine Kd.zR ?_ _) | (with_reducible refine Kd.zS ?_)))
    (case side4 => exact HC0_1.out)
    rintro e w14 ⟨rfl, hb⟩
    refine ⟨_, rfl, ?_⟩
    replace BK246 := zA.mk (zK (by (with_reducible repeat (first | refine zC ?_ _ | refine zD ?_ | refine zB ?_ _)); exact BK246.out) hb)
    replace HB := zA.mk (zL (by repeat (first | (with_reducible first | exact HB.out | apply zJ | apply zF | apply zI | refine zE ?_ GE246.out) | exact HB.out)) hb)
    (try clear hb)
    (try clear hb2)
    (try clear hk)
    (try clear hi)
    refine hK.out _ _ ⟨(zG BK246.out 0).trans rfl, (zG BK246.out 1).trans rfl⟩ (fun hHeld => ?_)
    clear hK K; refine norm_ (a' := ?_) ?_ ?_
    rotate_left
    · show Act.put _ (some 18) _ = _
      simp only [Act.put, sA_, sB_, sC_, i64_w, i32_w]; rfl
    refine one_ (i := 7) (N := some 20) (tb_ 255 9) rfl rfl (one_of HT_.out (by kernel_rfl)) (by decide) (fun K hK => ?_)
    refine goes_ Try.func28 (by kernel_rfl) rfl #[.agg #[.slice A0_0 l0_0.length c0_0, .slice A0_1 l0_1.length c0_1], .int .i64 a1, .int .i64 t247, .int .i64 a4] (by rfl) rfl rfl (by (try simp only [List.map_toArray, List.map_cons, List.map_nil]); first | done | rfl | (simp only [List.length_drop, List.length_take]; rfl)) ?_
    with_reducible refine (r3_Columns.calls k _ _ l0_0 _ _ l0_1 a1 t247 a4 t248 _ ?side1 ?side2 ?side3 ?side4 A7.out).mono ?_
    (case side1 => repeat (first | exact (Kd.zT HR0_0.out HB.out) | (with_reducible refine Kd.zQ ?_ _) | (with_reducible refine Kd.zR ?_ _) | (with_reducible refine Kd.zS ?_)))
    (case side2 => exact HC0_0.out)
    (case side3 => repeat (first | exact (Kd.zT HR0_1.out HB.out) | (with_reducible refine Kd.zQ ?_ _) | (with_reducible refine Kd.zR ?_ _) | (with_reducible refine Kd.zS ?_)))
    (case side4 => exact HC0_1.out)
    rintro e w15 ⟨v249, rfl, ho0, hb⟩
    refine ⟨_, rfl, ?_⟩
    have HO250 := zA.mk (Kd.zY ho0 (zM (by repeat (first | (with_reducible first | exact HB.out | apply zJ | apply zF | apply zI | refine zE ?_ GE246.out) | exact HB.out))))
    replace BK246 := zA.mk (zK (by (with_reducible repeat (first | refine zC ?_ _ | refine zD ?_ | refine zB ?_ _)); exact BK246.out) hb)
    replace HB := zA.mk (zL (by repeat (first | (with_reducible first | exact HB.out | apply zJ | apply zF | apply zI | refine zE ?_ GE246.out) | exact HB.out)) hb)
    (try clear hb)
    (try clear hb2)
    (try clear hk)
    (try clear hi)
    (try clear ho0)
    refine hK.out _ _ ⟨(zG BK246.out 0).trans rfl, (zG BK246.out 1).trans rfl⟩ (fun hHeld => ?_)
    clear hK K; refine norm_ (a' := ?_) ?_ ?_
    rotate_left
    · show Act.put _ (some 20) _ = _
      simp only [Act.put, sA_, sB_, sC_, i64_w, i32_w]; rfl
    refine pure_ (i := 8) (N := some 11) (v := ?_) (a' := ?_) (tb_ 511 9) rfl rfl (any_of HT_.out (by kernel_rfl)) (fun _ _ _ h => h) (Or.inl ⟨by rfl, ?_⟩) ?_ ?_
    rotate_left
    · intro w'
      go_simp
      with_reducible rfl
    rotate_left
    · simp only [Act.put, sA_, sB_, sC_, i64_w, i32_w]
      rfl
    refine done_ (done_of HT_.out (by kernel_rfl)) ?_
    obtain ⟨Ao16, co16, eo16⟩ := Kd.zX HO250.out; subst eo16; have p251 : 0 ≤ ((ji8) : Int) := of_decide_eq_true (by first | (with_reducible assumption) | assumption)
    have q251 : (ji8) < (t248.length : Int) := of_decide_eq_true (by first | (with_reducible assumption) | assumption)
    obtain ⟨ad251, e251, hx251_0⟩ := Kd.at_int (Kd.zU HO250.out).2.2 (ji8) p251 q251; cases e251
    replace p251 := eq_true p251; replace q251 := eq_true q251; try go_wp2
    go_ret
    exact ⟨by first | rfl | (simp [errW_none, errW_some] <;> rfl) | (simp only [← hji8]; first | rfl | (simp [errW_none, errW_some] <;> rfl)) | (simp [*, errW_none, errW_some] <;> rfl), by repeat (first | (with_reducible first | exact HB.out | apply zJ | apply zF | apply zI | refine zE ?_ GE246.out) | exact HB.out)⟩
  rw [if_neg c11] at H; have c11b0 : (a3 == 3) = false := beq_eq_false_iff_ne.mpr c11
  have c11b1 : (a3 != 3) = true := bne_iff_ne.mpr c11
  obtain rfl := Option.some.inj H
  go_enter Try.func18, Try.ntmps18
  try go_wp2_with (first | ((with_reducible refine gate_dst (N := 5) rfl ?_); refine box_event ?hg (N := 5) ?hd (cs := #[.slice A0_0 l0_0.length c0_0, .slice A0_1 l0_1.length c0_1]) (t := 31) ?hr ?_; (case hd => rfl); (case hg => rfl); (case hr => first | (go_simp; done) | (go_simp; rfl)); intro gb246 hg w17 hbox hb; have n0_ := zA.mk (zL (by repeat (first | (with_reducible first | exact HB.out | apply zJ | apply zF | apply zI) | exact HB.out)) hb); have n1_ := zA.mk (hbox); have n2_ := zA.mk ((by rw [hg]; exact (zM (by repeat (first | (with_reducible first | exact HB.out | apply zJ | apply zF | apply zI) | exact HB.out))) : w.heap.size ≤ gb246)); have n3_ := n2_; clear HB; have HB := n0_; have BK246 := n1_; have GW246 := n2_; have GE246 := n3_; clear n0_ n1_ n2_ n3_; clear hb hbox hg))
  replace BK246 := zA.mk (zD BK246.out); replace HB := zA.mk (zI HB.out); refine start_ (n := 9) (S := fun w' => w'.cell? ⟨gb246, 0, none⟩ = some (.slice A0_0 l0_0.length c0_0) ∧ w'.cell? ⟨gb246, 1, none⟩ = some (.slice A0_1 l0_1.length c0_1)) (ds := []) #[false, false, false, false, false, false, false, false, false] (by kernel_rfl) rfl rfl ⟨(zG BK246.out 0).trans rfl, (zG BK246.out 1).trans rfl⟩ (fun hHeld => ?_); refine with_tabW r3_Cells.tab1 r3_Cells.bits1 (fun HT_ HW_ => ?_)
  generalize w17.drew = w18 at BK246 HB hHeld ⊢
  refine pure_ (i := 1) (N := some 14) (v := ?_) (a' := ?_) (tb_ 2 9) rfl rfl (any_of HT_.out (by kernel_rfl)) (fun _ _ _ h => h) (Or.inl ⟨by rfl, ?_⟩) ?_ ?_
  rotate_left
  · intro w'
    go_simp
    with_reducible rfl
  rotate_left
  · simp only [Act.put, sA_, sB_, sC_, i64_w, i32_w]
    rfl
  refine pure_ (i := 3) (N := some 16) (v := ?_) (a' := ?_) (tb_ 10 9) rfl rfl (any_of HT_.out (by kernel_rfl)) (fun _ _ _ h => h) (Or.inl ⟨by rfl, ?_⟩) ?_ ?_
  rotate_left
  · intro w'
    go_simp
    with_reducible rfl
  rotate_left
  · simp only [Act.put, sA_, sB_, sC_, i64_w, i32_w]
    rfl
  refine pure_ (i := 4) (N := some 17) (v := ?_) (a' := ?_) (tb_ 26 9) rfl rfl (any_of HT_.out (by kernel_rfl)) (fun _ _ _ h => h) (Or.inl ⟨by rfl, ?_⟩) ?_ ?_
  rotate_left
  · intro w'
    go_simp
    with_reducible rfl
  rotate_left
  · simp only [Act.put, sA_, sB_, sC_, i64_w, i32_w]
    rfl
  refine pure_ (i := 6) (N := some 19) (v := ?_) (a' := ?_) (tb_ 90 9) rfl rfl (any_of HT_.out (by kernel_rfl)) (fun _ _ _ h => h) (Or.inl ⟨by rfl, ?_⟩) ?_ ?_
  rotate_left
  · intro w'
    go_simp
    with_reducible rfl
  rotate_left
  · simp only [Act.put, sA_, sB_, sC_, i64_w, i32_w]
    rfl
  refine take_ (i := 0) (N := some 13) (v := ?_) (a' := ?_) (tb_ 91 9) rfl rfl (take_ofW HT_.out HW_.out (by kernel_rfl)) (fun _ _ _ h => h) (Or.inl ⟨by rfl, ?_⟩) hHeld ?_ ?_
  rotate_left
  · rintro w' ⟨s0, s1⟩
    go_simp
    with_reducible rfl
  rotate_left
  · simp only [Act.put, sA_, sB_, sC_, i64_w, i32_w]
    rfl
  refine take_ (i := 2) (N := some 15) (v := ?_) (a' := ?_) (tb_ 95 9) rfl rfl (take_ofW HT_.out HW_.out (by kernel_rfl)) (fun _ _ _ h => h) (Or.inl ⟨by rfl, ?_⟩) hHeld ?_ ?_
  rotate_left
  · rintro w' ⟨s0, s1⟩
    go_simp
    with_reducible rfl
  rotate_left
  · simp only [Act.put, sA_, sB_, sC_, i64_w, i32_w]
    rfl
  refine one_ (i := 5) (N := some 18) (tb_ 127 9) rfl rfl (one_of HT_.out (by kernel_rfl)) (by decide) (fun K hK => ?_)
  refine goes_ Try.func29 (by kernel_rfl) rfl #[.agg #[.slice A0_0 l0_0.length c0_0, .slice A0_1 l0_1.length c0_1], .int .i64 a1, .int .i64 a2] (by rfl) rfl rfl (by (try simp only [List.map_toArray, List.map_cons, List.map_nil]); first | done | rfl | (simp only [List.length_drop, List.length_take]; rfl)) ?_
  with_reducible refine (r3_Trim.calls k _ _ l0_0 _ _ l0_1 a1 a2 t247 _ ?side1 ?side2 ?side3 ?side4 A6.out).mono ?_
  (case side1 => repeat (first | exact (Kd.zT HR0_0.out HB.out) | (with_reducible refine Kd.zQ ?_ _) | (with_reducible refine Kd.zR ?_ _) | (with_reducible refine Kd.zS ?_)))
  (case side2 => exact HC0_0.out)
  (case side3 => repeat (first | exact (Kd.zT HR0_1.out HB.out) | (with_reducible refine Kd.zQ ?_ _) | (with_reducible refine Kd.zR ?_ _) | (with_reducible refine Kd.zS ?_)))
  (case side4 => exact HC0_1.out)
  rintro e w19 ⟨rfl, hb⟩
  refine ⟨_, rfl, ?_⟩
  replace BK246 := zA.mk (zK (by (with_reducible repeat (first | refine zC ?_ _ | refine zD ?_ | refine zB ?_ _)); exact BK246.out) hb)
  replace HB := zA.mk (zL (by repeat (first | (with_reducible first | exact HB.out | apply zJ | apply zF | apply zI | refine zE ?_ GE246.out) | exact HB.out)) hb)
  (try clear hb)
  (try clear hb2)
  (try clear hk)
  (try clear hi)
  refine hK.out _ _ ⟨(zG BK246.out 0).trans rfl, (zG BK246.out 1).trans rfl⟩ (fun hHeld => ?_)
  clear hK K; refine norm_ (a' := ?_) ?_ ?_
  rotate_left
  · show Act.put _ (some 18) _ = _
    simp only [Act.put, sA_, sB_, sC_, i64_w, i32_w]; rfl
  refine one_ (i := 7) (N := some 20) (tb_ 255 9) rfl rfl (one_of HT_.out (by kernel_rfl)) (by decide) (fun K hK => ?_)
  refine goes_ Try.func28 (by kernel_rfl) rfl #[.agg #[.slice A0_0 l0_0.length c0_0, .slice A0_1 l0_1.length c0_1], .int .i64 a1, .int .i64 t247, .int .i64 a4] (by rfl) rfl rfl (by (try simp only [List.map_toArray, List.map_cons, List.map_nil]); first | done | rfl | (simp only [List.length_drop, List.length_take]; rfl)) ?_
  with_reducible refine (r3_Columns.calls k _ _ l0_0 _ _ l0_1 a1 t247 a4 t248 _ ?side1 ?side2 ?side3 ?side4 A7.out).mono ?_
  (case side1 => repeat (first | exact (Kd.zT HR0_0.out HB.out) | (with_reducible refine Kd.zQ ?_ _) | (with_reducible refine Kd.zR ?_ _) | (with_reducible refine Kd.zS ?_)))
  (case side2 => exact HC0_0.out)
  (case side3 => repeat (first | exact (Kd.zT HR0_1.out HB.out) | (with_reducible refine Kd.zQ ?_ _) | (with_reducible refine Kd.zR ?_ _) | (with_reducible refine Kd.zS ?_)))
  (case side4 => exact HC0_1.out)
  rintro e w20 ⟨v249, rfl, ho0, hb⟩
  refine ⟨_, rfl, ?_⟩
  have HO250 := zA.mk (Kd.zY ho0 (zM (by repeat (first | (with_reducible first | exact HB.out | apply zJ | apply zF | apply zI | refine zE ?_ GE246.out) | exact HB.out))))
  replace BK246 := zA.mk (zK (by (with_reducible repeat (first | refine zC ?_ _ | refine zD ?_ | refine zB ?_ _)); exact BK246.out) hb)
  replace HB := zA.mk (zL (by repeat (first | (with_reducible first | exact HB.out | apply zJ | apply zF | apply zI | refine zE ?_ GE246.out) | exact HB.out)) hb)
  (try clear hb)
  (try clear hb2)
  (try clear hk)
  (try clear hi)
  (try clear ho0)
  refine hK.out _ _ ⟨(zG BK246.out 0).trans rfl, (zG BK246.out 1).trans rfl⟩ (fun hHeld => ?_)
  clear hK K; refine norm_ (a' := ?_) ?_ ?_
  rotate_left
  · show Act.put _ (some 20) _ = _
    simp only [Act.put, sA_, sB_, sC_, i64_w, i32_w]; rfl
  refine pure_ (i := 8) (N := some 11) (v := ?_) (a' := ?_) (tb_ 511 9) rfl rfl (any_of HT_.out (by kernel_rfl)) (fun _ _ _ h => h) (Or.inl ⟨by rfl, ?_⟩) ?_ ?_
  rotate_left
  · intro w'
    go_simp
    with_reducible rfl
  rotate_left
  · simp only [Act.put, sA_, sB_, sC_, i64_w, i32_w]
    rfl
  refine done_ (done_of HT_.out (by kernel_rfl)) ?_
  obtain ⟨Ao21, co21, eo21⟩ := Kd.zX HO250.out; subst eo21; have p251 : 0 ≤ ((ji8) : Int) := of_decide_eq_true (by first | (with_reducible assumption) | assumption)
  have q251 : (ji8) < (t248.length : Int) := of_decide_eq_true (by first | (with_reducible assumption) | assumption)
  obtain ⟨ad251, e251, hx251_0⟩ := Kd.at_int (Kd.zU HO250.out).2.2 (ji8) p251 q251; cases e251
  replace p251 := eq_true p251; replace q251 := eq_true q251; try go_wp2
  go_ret
  exact ⟨by first | rfl | (simp [errW_none, errW_some] <;> rfl) | (simp only [← hji8]; first | rfl | (simp [errW_none, errW_some] <;> rfl)) | (simp [*, errW_none, errW_some] <;> rfl), by repeat (first | (with_reducible first | exact HB.out | apply zJ | apply zF | apply zI | refine zE ?_ GE246.out) | exact HB.out)⟩
def r2_Of.f (a0 : Int) (a1 : Int) : Option Nat := some (fop .quo (floatOfInt .f64 a0) (floatOfInt .f64 a1))
set_option maxHeartbeats 8000000 in
set_option maxRecDepth 100000 in
theorem r2_Of.calls (a0 : Int) (a1 : Int) (r : Nat) (w : World) (h : r2_Of.f a0 a1 = some r) :
    Calls Try.prog 34 #[.int .i64 a0, .int .i64 a1] w fun e w' => ∃ b_ : Nat, e = .returned (.float .f64 b_) ∧ Drawn0 w w' ∧ FR r b_ := by
  have hu3 : (Try.prog.underlying 3).isSome = true := by kernel_rfl
  have hu24 := Try.underlying24; obtain rfl := Option.some.inj h
  obtain ⟨b, m, hrun, hb⟩ := run_rough (P := Try.prog) w .quo (by simp) 24 (floatOfInt .f64 a0) (floatOfInt .f64 a1)
  go_enter Try.func34, Try.ntmps34
  go_wp2
  go_ret
  exact ⟨b, rfl, ⟨⟨m, rfl⟩⟩, fr_fop hb⟩
def r3_Gaps.l0 : Nat → Int → Int → Int → Int → List (S62) → List Int → Option (Int)
  | 0, _, _, _, _, _, _ => none
  | k + 1, x1, x2, x7, x8, x253000, x253001 => (r3_Trim.f k x253000 x253001 x1 x2).bind fun t253 => (if x8 < t253 then (if 0 ≤ x8 then (if x8 < (x253000.length : Int) then (if ((rd_T62 x253000 x8).f3) = 1 then (r3_Gaps.l0 k x1 x2 (wrap64 (x7 + 1)) (wrap64 (x8 + 1)) x253000 x253001) else (r3_Gaps.l0 k x1 x2 x7 (wrap64 (x8 + 1)) x253000 x253001)) else (none)) else (none)) else (some x7))
def r3_Gaps.f (k : Nat) (l0_0 : List (S62)) (l0_1 : List Int) (a1 : Int) (a2 : Int) : Option (Int) := r3_Gaps.l0 k a1 a2 0 a1 l0_0 l0_1
theorem r3_Gaps.mono_l : ∀ k, (∀ y0 y1 y2 y3 y4 y5, LeO (r3_Gaps.l0 k y0 y1 y2 y3 y4 y5) (r3_Gaps.l0 (k + 1) y0 y1 y2 y3 y4 y5))
  | 0 => fun _ _ _ _ _ _ r h => by simp [r3_Gaps.l0] at h
  | k + 1 => by
    have ih0 := r3_Gaps.mono_l k
    · intro y0 y1 y2 y3 y4 y5
      unfold r3_Gaps.l0
      repeat' (with_reducible first | exact ih0 _ _ _ _ _ _ | exact r3_Trim.mono _ _ _ _ _ | exact LeO.refl _ | exact LeO.none _ | refine LeO.ite ?_ ?_ | refine LeO.bind ?_ (fun _ => ?_))
theorem r3_Gaps.mono : ∀ a0 a1 a2 a3 k, LeO (r3_Gaps.f k a0 a1 a2 a3) (r3_Gaps.f (k + 1) a0 a1 a2 a3) := by
  intro a0 a1 a2 a3 k
  have ih0 := r3_Gaps.mono_l k; unfold r3_Gaps.f
  repeat' (with_reducible first | exact ih0 _ _ _ _ _ _ | exact r3_Trim.mono _ _ _ _ _ | exact LeO.refl _ | exact LeO.none _ | refine LeO.ite ?_ ?_ | refine LeO.bind ?_ (fun _ => ?_))
set_option maxHeartbeats 8000000 in
set_option maxRecDepth 100000 in
theorem r3_Gaps.calls (k : Nat) (A0_0 : Option Addr) (c0_0 : Nat) (l0_0 : List (S62)) (A0_1 : Option Addr) (c0_1 : Nat) (l0_1 : List Int) (a1 : Int) (a2 : Int) (r : Int) (w : World) (hr0_0 : Kd.C k62 w A0_0 l0_0.length l0_0) (hc0_0 : l0_0.length ≤ c0_0) (hr0_1 : Kd.C (Kd.int .u8) w A0_1 l0_1.length l0_1) (hc0_1 : l0_1.length ≤ c0_1) (h : r3_Gaps.f k l0_0 l0_1 a1 a2 = some r) :
    Calls Try.prog 35 #[.agg #[.slice A0_0 l0_0.length c0_0, .slice A0_1 l0_1.length c0_1], .int .i64 a1, .int .i64 a2] w fun e w' => e = .returned (.int .i64 r) ∧ Below w.heap.size w w' := by
  have hu31 := Try.underlying31; have HR0_0 := zA.mk hr0_0; have HC0_0 := zA.mk hc0_0; clear hr0_0 hc0_0; have HR0_1 := zA.mk hr0_1; have HC0_1 := zA.mk hc0_1; clear hr0_1 hc0_1; have HB := zA.mk (Below.refl w.heap.size w); have H : (r3_Gaps.l0 k a1 a2 0 a1 l0_0 l0_1) = some r := h
  clear h; have H' := zA.mk H
  clear H; go_enter Try.func35, Try.ntmps35
  go_wp2_with (first | ((with_reducible refine gate_dst (N := 3) rfl ?_); refine box_event ?hg (N := 3) ?hd (cs := #[.slice A0_0 l0_0.length c0_0, .slice A0_1 l0_1.length c0_1]) (t := 31) ?hr ?_; (case hd => rfl); (case hg => rfl); (case hr => first | (go_simp; done) | (go_simp; rfl)); intro gb252 hg w4 hbox hb; have n0_ := zA.mk (zL (by repeat (first | (with_reducible first | exact HB.out | apply zJ | apply zF | apply zI) | exact HB.out)) hb); have n1_ := zA.mk (hbox); have n2_ := zA.mk ((by rw [hg]; exact (zM (by repeat (first | (with_reducible first | exact HB.out | apply zJ | apply zF | apply zI) | exact HB.out))) : w.heap.size ≤ gb252)); have n3_ := n2_; clear HB; have HB := n0_; have BK252 := n1_; have GW252 := n2_; have GE252 := n3_; clear n0_ n1_ n2_ n3_; clear hb hbox hg))
  go_loopg [7, 8] k (fun kq v7 v8 w' => ∃ (x7_1 : Int) (x8_1 : Int), v7 = .int .i64 x7_1 ∧ v8 = .int .i64 x8_1 ∧ zA (r3_Gaps.l0 kq a1 a2 x7_1 x8_1 l0_0 l0_1 = some r) ∧ zA (kq ≤ k) ∧ zA (w'.heap[gb252]? = some (.cells #[(.slice A0_0 l0_0.length c0_0), (.slice A0_1 l0_1.length c0_1)] 31 (0, 0))) ∧ zA (Below w.heap.size w w'))
  case atStart => exact ⟨(0), (a1), (by first | rfl | (simp; done) | (simp [*]; done)), (by first | rfl | (simp; done) | (simp [*]; done)), H', ⟨Nat.le_refl _⟩, ⟨by (with_reducible repeat (first | refine zC ?_ _ | refine zD ?_ | refine zB ?_ _)); exact BK252.out⟩, ⟨by repeat (first | (with_reducible first | exact HB.out | apply zJ | apply zF | apply zI | refine zE ?_ GE252.out) | exact HB.out)⟩⟩
  clear H'; obtain ⟨x7_1, x8_1, rfl, rfl, HA, HK1, BK252, HB⟩ := hrel; cases gk with
  | zero => exact absurd HA.out (by simp [r3_Gaps.l0])
  | succ k1 =>
    have H := HA.out; clear HA; simp only [r3_Gaps.l0] at H; replace H := Option.bind_eq_some_iff.mp H; obtain ⟨t253, A50, H⟩ := H; replace H : (if x8_1 < t253 then (if 0 ≤ x8_1 then (if x8_1 < (l0_0.length : Int) then (if ((rd_T62 l0_0 x8_1).f3) = 1 then (r3_Gaps.l0 k1 a1 a2 (wrap64 (x7_1 + 1)) (wrap64 (x8_1 + 1)) l0_0 l0_1) else (r3_Gaps.l0 k1 a1 a2 x7_1 (wrap64 (x8_1 + 1)) l0_0 l0_1)) else (none)) else (none)) else (some x7_1)) = some r := H; have A5 := zA.mk A50; clear A50; by_cases c6 : x8_1 < t253
    rotate_left
    · rw [if_neg c6] at H
      have c6b0 : decide (x8_1 < t253) = false := decide_eq_false c6
      clear c6; obtain rfl := Option.some.inj H
      have hcz16_0 : wr.cell? ⟨gb252, 0, none⟩ = some (.slice A0_0 l0_0.length c0_0) := (zG BK252.out 0).trans rfl
      have hcz16_1 : wr.cell? ⟨gb252, 1, none⟩ = some (.slice A0_1 l0_1.length c0_1) := (zG BK252.out 1).trans rfl
      have hfz16_0 := zH BK252.out 0; have hfz16_1 := zH BK252.out 1; go_wp2_with (first | ((with_reducible refine gate_callee (f := 29) rfl ?_); refine goesL_ (some 14) rfl rfl Try.func29 (by kernel_rfl) rfl #[.agg #[.slice A0_0 l0_0.length c0_0, .slice A0_1 l0_1.length c0_1], .int .i64 a1, .int .i64 a2] rfl (by (try simp only [List.map_toArray, List.map_cons, List.map_nil]); first | done | rfl | (simp only [List.length_drop, List.length_take]; rfl)) ?_; (with_reducible refine (r3_Trim.calls k1 _ _ l0_0 _ _ l0_1 a1 a2 t253 _ ?side1 ?side2 ?side3 ?side4 A5.out).mono ?_); (case side1 => repeat (first | exact (Kd.zT HR0_0.out HB.out) | (with_reducible refine Kd.zQ ?_ _) | (with_reducible refine Kd.zR ?_ _) | (with_reducible refine Kd.zS ?_))); (case side2 => exact HC0_0.out); (case side3 => repeat (first | exact (Kd.zT HR0_1.out HB.out) | (with_reducible refine Kd.zQ ?_ _) | (with_reducible refine Kd.zR ?_ _) | (with_reducible refine Kd.zS ?_))); (case side4 => exact HC0_1.out); rintro e w17 ⟨rfl, hb⟩; refine ⟨_, rfl, ?_⟩; replace BK252 := zA.mk (zK (by (with_reducible repeat (first | refine zC ?_ _ | refine zD ?_ | refine zB ?_ _)); exact BK252.out) hb); replace HB := zA.mk (zL (by repeat (first | (with_reducible first | exact HB.out | apply zJ | apply zF | apply zI | refine zE ?_ GE252.out) | exact HB.out)) hb); (try clear hb); (try clear hb2); (try clear hk); (try clear hi)))
      go_ret
      exact ⟨by first | rfl | (simp [errW_none, errW_some] <;> rfl) | (simp [*, errW_none, errW_some] <;> rfl), by repeat (first | (with_reducible first | exact HB.out | apply zJ | apply zF | apply zI | refine zE ?_ GE252.out) | exact HB.out)⟩
    rw [if_pos c6] at H; have c6b0 : decide (x8_1 < t253) = true := decide_eq_true c6
    clear c6; by_cases c7 : 0 ≤ x8_1
    rotate_left
    · rw [if_neg c7] at H
      exact absurd H (by simp)
    rw [if_pos c7] at H; have c7b0 : decide (0 ≤ x8_1) = true := decide_eq_true c7
    clear c7; by_cases c8 : x8_1 < (l0_0.length : Int)
    rotate_left
    · rw [if_neg c8] at H
      exact absurd H (by simp)
    rw [if_pos c8] at H; have c8b0 : decide (x8_1 < (l0_0.length : Int)) = true := decide_eq_true c8
    clear c8; by_cases c9 : ((rd_T62 l0_0 x8_1).f3) = 1
    · rw [if_pos c9] at H
      have c9b0 : (((rd_T62 l0_0 x8_1).f3) == 1) = true := beq_iff_eq.mpr c9
      have c9b1 : (((rd_T62 l0_0 x8_1).f3) != 1) = false := bne_eq_false_iff_eq.mpr c9
      clear c9; have H' := zA.mk H
      clear H; have hcz10_0 : wr.cell? ⟨gb252, 0, none⟩ = some (.slice A0_0 l0_0.length c0_0) := (zG BK252.out 0).trans rfl
      have hcz10_1 : wr.cell? ⟨gb252, 1, none⟩ = some (.slice A0_1 l0_1.length c0_1) := (zG BK252.out 1).trans rfl
      have hfz10_0 := zH BK252.out 0; have hfz10_1 := zH BK252.out 1; go_wp2_with (first | ((with_reducible refine gate_callee (f := 29) rfl ?_); refine goesL_ (some 14) rfl rfl Try.func29 (by kernel_rfl) rfl #[.agg #[.slice A0_0 l0_0.length c0_0, .slice A0_1 l0_1.length c0_1], .int .i64 a1, .int .i64 a2] rfl (by (try simp only [List.map_toArray, List.map_cons, List.map_nil]); first | done | rfl | (simp only [List.length_drop, List.length_take]; rfl)) ?_; (with_reducible refine (r3_Trim.calls k1 _ _ l0_0 _ _ l0_1 a1 a2 t253 _ ?side1 ?side2 ?side3 ?side4 A5.out).mono ?_); (case side1 => repeat (first | exact (Kd.zT HR0_0.out HB.out) | (with_reducible refine Kd.zQ ?_ _) | (with_reducible refine Kd.zR ?_ _) | (with_reducible refine Kd.zS ?_))); (case side2 => exact HC0_0.out); (case side3 => repeat (first | exact (Kd.zT HR0_1.out HB.out) | (with_reducible refine Kd.zQ ?_ _) | (with_reducible refine Kd.zR ?_ _) | (with_reducible refine Kd.zS ?_))); (case side4 => exact HC0_1.out); rintro e w11 ⟨rfl, hb⟩; refine ⟨_, rfl, ?_⟩; replace BK252 := zA.mk (zK (by (with_reducible repeat (first | refine zC ?_ _ | refine zD ?_ | refine zB ?_ _)); exact BK252.out) hb); replace HB := zA.mk (zL (by repeat (first | (with_reducible first | exact HB.out | apply zJ | apply zF | apply zI | refine zE ?_ GE252.out) | exact HB.out)) hb); (try clear hb); (try clear hb2); (try clear hk); (try clear hi); have hcz12_0 : w11.cell? ⟨gb252, 0, none⟩ = some (.slice A0_0 l0_0.length c0_0) := (zG BK252.out 0).trans rfl; have hcz12_1 : w11.cell? ⟨gb252, 1, none⟩ = some (.slice A0_1 l0_1.length c0_1) := (zG BK252.out 1).trans rfl; have hfz12_0 := zH BK252.out 0; have hfz12_1 := zH BK252.out 1; have p254 : 0 ≤ (x8_1 : Int) := of_decide_eq_true (by first | (with_reducible assumption) | assumption); have q254 : x8_1 < (l0_0.length : Int) := of_decide_eq_true (by first | (with_reducible assumption) | assumption); obtain ⟨ad254, e254, hx254_0, hx254_1, hx254_2, hx254_3⟩ := at_T62 HR0_0.out x8_1 p254 q254; cases e254; replace hx254_0 := (HB.out.cell (World.block_lt_of_cell? w _ hx254_0)).trans hx254_0; replace hx254_1 := (HB.out.cell (World.block_lt_of_cell? w _ hx254_1)).trans hx254_1; replace hx254_2 := (HB.out.cell (World.block_lt_of_cell? w _ hx254_2)).trans hx254_2; replace hx254_3 := (HB.out.cell (World.block_lt_of_cell? w _ hx254_3)).trans hx254_3; replace p254 := eq_true p254; replace q254 := eq_true q254))
      go_roundg k1
      case measure => have := HK1.out; omega
      case rel => exact ⟨(wrap64 (x7_1 + 1)), (wrap64 (x8_1 + 1)), (by first | rfl | (simp; done) | (simp [*]; done)), (by first | rfl | (simp; done) | (simp [*]; done)), H', ⟨by have := HK1.out; omega⟩, ⟨by (with_reducible repeat (first | refine zC ?_ _ | refine zD ?_ | refine zB ?_ _)); exact BK252.out⟩, ⟨by repeat (first | (with_reducible first | exact HB.out | apply zJ | apply zF | apply zI | refine zE ?_ GE252.out) | exact HB.out)⟩⟩
    rw [if_neg c9] at H; have c9b0 : (((rd_T62 l0_0 x8_1).f3) == 1) = false := beq_eq_false_iff_ne.mpr c9
    have c9b1 : (((rd_T62 l0_0 x8_1).f3) != 1) = true := bne_iff_ne.mpr c9
    have H' := zA.mk H
    clear H; have hcz13_0 : wr.cell? ⟨gb252, 0, none⟩ = some (.slice A0_0 l0_0.length c0_0) := (zG BK252.out 0).trans rfl
    have hcz13_1 : wr.cell? ⟨gb252, 1, none⟩ = some (.slice A0_1 l0_1.length c0_1) := (zG BK252.out 1).trans rfl
    have hfz13_0 := zH BK252.out 0; have hfz13_1 := zH BK252.out 1; go_wp2_with (first | ((with_reducible refine gate_callee (f := 29) rfl ?_); refine goesL_ (some 14) rfl rfl Try.func29 (by kernel_rfl) rfl #[.agg #[.slice A0_0 l0_0.length c0_0, .slice A0_1 l0_1.length c0_1], .int .i64 a1, .int .i64 a2] rfl (by (try simp only [List.map_toArray, List.map_cons, List.map_nil]); first | done | rfl | (simp only [List.length_drop, List.length_take]; rfl)) ?_; (with_reducible refine (r3_Trim.calls k1 _ _ l0_0 _ _ l0_1 a1 a2 t253 _ ?side1 ?side2 ?side3 ?side4 A5.out).mono ?_); (case side1 => repeat (first | exact (Kd.zT HR0_0.out HB.out) | (with_reducible refine Kd.zQ ?_ _) | (with_reducible refine Kd.zR ?_ _) | (with_reducible refine Kd.zS ?_))); (case side2 => exact HC0_0.out); (case side3 => repeat (first | exact (Kd.zT HR0_1.out HB.out) | (with_reducible refine Kd.zQ ?_ _) | (with_reducible refine Kd.zR ?_ _) | (with_reducible refine Kd.zS ?_))); (case side4 => exact HC0_1.out); rintro e w14 ⟨rfl, hb⟩; refine ⟨_, rfl, ?_⟩; replace BK252 := zA.mk (zK (by (with_reducible repeat (first | refine zC ?_ _ | refine zD ?_ | refine zB ?_ _)); exact BK252.out) hb); replace HB := zA.mk (zL (by repeat (first | (with_reducible first | exact HB.out | apply zJ | apply zF | apply zI | refine zE ?_ GE252.out) | exact HB.out)) hb); (try clear hb); (try clear hb2); (try clear hk); (try clear hi); have hcz15_0 : w14.cell? ⟨gb252, 0, none⟩ = some (.slice A0_0 l0_0.length c0_0) := (zG BK252.out 0).trans rfl; have hcz15_1 : w14.cell? ⟨gb252, 1, none⟩ = some (.slice A0_1 l0_1.length c0_1) := (zG BK252.out 1).trans rfl; have hfz15_0 := zH BK252.out 0; have hfz15_1 := zH BK252.out 1; have p254 : 0 ≤ (x8_1 : Int) := of_decide_eq_true (by first | (with_reducible assumption) | assumption); have q254 : x8_1 < (l0_0.length : Int) := of_decide_eq_true (by first | (with_reducible assumption) | assumption); obtain ⟨ad254, e254, hx254_0, hx254_1, hx254_2, hx254_3⟩ := at_T62 HR0_0.out x8_1 p254 q254; cases e254; replace hx254_0 := (HB.out.cell (World.block_lt_of_cell? w _ hx254_0)).trans hx254_0; replace hx254_1 := (HB.out.cell (World.block_lt_of_cell? w _ hx254_1)).trans hx254_1; replace hx254_2 := (HB.out.cell (World.block_lt_of_cell? w _ hx254_2)).trans hx254_2; replace hx254_3 := (HB.out.cell (World.block_lt_of_cell? w _ hx254_3)).trans hx254_3; replace p254 := eq_true p254; replace q254 := eq_true q254))
    go_roundg k1
    case measure => have := HK1.out; omega
    case rel => exact ⟨(x7_1), (wrap64 (x8_1 + 1)), (by first | rfl | (simp; done) | (simp [*]; done)), (by first | rfl | (simp; done) | (simp [*]; done)), H', ⟨by have := HK1.out; omega⟩, ⟨by (with_reducible repeat (first | refine zC ?_ _ | refine zD ?_ | refine zB ?_ _)); exact BK252.out⟩, ⟨by repeat (first | (with_reducible first | exact HB.out | apply zJ | apply zF | apply zI | refine zE ?_ GE252.out) | exact HB.out)⟩⟩
def r2_None.f (a0 : Nat) : Option (Bool) := some (FloatKind.f64.format.order a0 a0 != some .eq)
set_option maxHeartbeats 8000000 in
set_option maxRecDepth 100000 in
theorem r2_None.calls (a0 : Nat) (r : Bool) (w : World) (h : r2_None.f a0 = some r) :
    Calls Try.prog 45 #[.float .f64 a0] w fun e w' => e = .returned (.bool r) ∧ Drawn0 w w' := by
  have H : (some (FloatKind.f64.format.order a0 a0 != some .eq)) = some r := h
  clear h; obtain rfl := Option.some.inj H
  go_enter Try.func45, Try.ntmps45
  go_wp2
  go_ret
  exact ⟨by first | rfl | (simp; done) | (simp [*]; done), by repeat (first | exact Drawn0.refl _ | apply Drawn0.step)⟩
def r2_Minus.f (a0 : Nat) : Option Bool := some ((a0 : Int) / 9223372036854775808 == 1)
set_option maxHeartbeats 8000000 in
set_option maxRecDepth 100000 in
theorem r2_Minus.calls (a0 : Nat) (r : Bool) (w : World) (h : r2_Minus.f a0 = some r) :
    Calls Try.prog 46 #[.float .f64 a0] w fun e w' => e = .returned (.bool r) ∧ Drawn0 w w' := by
  have hu24 := Try.underlying24; have hu86 := Try.underlying86; have hA : ∀ (b : Nat) (W : World), (callFunc 50 #[.float .f64 b]).run Try.prog W = .ok (.value (.int .u64 b)) W := fun b W => by rw [run_callFunc_extern (fn := Try.f50) (e := Extern.MathFloatBits.float64bits) (by kernel_rfl) (by kernel_rfl) (by kernel_rfl) (by rfl) (by rfl)]; rfl
  obtain rfl := Option.some.inj h
  go_enter Try.func46, Try.ntmps46
  go_wp2
  go_ret
  exact ⟨rfl, Drawn0.refl _⟩
def rabs (x : Nat) : Nat := if ((x : Int) / 9223372036854775808 == 1) = true then Op.negFloat .f64 x else x
def rcube (x : Nat) : Nat := fop .mul (fop .mul (fop .mul 4636737291354636288 (rabs x)) (rabs x)) (rabs x)
def r2_Badness.l0 : Nat → Nat → Int → Option Int
  | 0, _, _ => none
  | k + 1, z, n => if (FloatKind.f64.format.order (floatOfInt .f64 (wrap64 (n + 1))) z == some .lt || FloatKind.f64.format.order (floatOfInt .f64 (wrap64 (n + 1))) z == some .eq) = true then r2_Badness.l0 k z (wrap64 (n + 1)) else some n
def r2_Badness.f (k : Nat) (a0 : Nat) : Option Int := if isNan a0 = true then some 0 else if (FloatKind.f64.format.order (rcube a0) 4666723172467343360 == some .gt || FloatKind.f64.format.order (rcube a0) 4666723172467343360 == some .eq) = true then some 10000 else if isNan (rcube a0) = true then some 10000 else r2_Badness.l0 k (rcube a0) 0
theorem r2_Badness.mono : ∀ a0 k, LeO (r2_Badness.f k a0) (r2_Badness.f (k + 1) a0) := by
  intro a0 k
  have ih : ∀ k, (∀ y0 y1, LeO (r2_Badness.l0 k y0 y1) (r2_Badness.l0 (k + 1) y0 y1)) := by
    intro k
    induction k with
    | zero => exact fun _ _ r h => by simp [r2_Badness.l0] at h
    | succ k ih =>
      intro y0 y1
      unfold r2_Badness.l0
      exact LeO.ite (ih _ _) (LeO.refl _)
  unfold r2_Badness.f
  exact LeO.ite (LeO.refl _) (LeO.ite (LeO.refl _) (LeO.ite (LeO.refl _) (ih _ _ _)))
theorem none_nan (b : Nat) : r2_None.f b = some (isNan b) := by
  unfold r2_None.f
  cases h : isNan b with
  | true => rw [order_nan_l h]; rfl
  | false => rw [order_self h]; rfl
theorem bad_step (x z : Nat) : (FloatKind.f64.format.order x z = some .lt ∨ FloatKind.f64.format.order x z = some .eq) ∨ (FloatKind.f64.format.order x z = none ∨ FloatKind.f64.format.order x z = some .gt) := by
  cases FloatKind.f64.format.order x z with
  | none => exact .inr (.inl rfl)
  | some o => cases o <;> simp
set_option maxHeartbeats 8000000 in
set_option maxRecDepth 100000 in
theorem r2_Badness.calls (k : Nat) (a0 : Nat) (r : Int) (w : World) (h : r2_Badness.f k a0 = some r) {b0_ : Nat} (hf0_ : zA (FR a0 b0_) := by first | assumption | exact ⟨FR.same _⟩) :
    Calls Try.prog 36 #[.float .f64 b0_] w fun e w' => e = .returned (.int .i64 r) ∧ Drawn0 w w' := by
  have hu24 := Try.underlying24; have hu3 := Try.underlying3; unfold r2_Badness.f at h
  have hn := none_nan b0_; rw [← hf0_.out.nan] at hn; by_cases hx : isNan a0 = true
  · rw [if_pos hx] at h
    rw [hx] at hn; obtain rfl := Option.some.inj h
    have H' := zA.mk hn
    clear hn; go_enter Try.func36, Try.ntmps36
    go_wp2_with (first | ((with_reducible refine gate_callee (f := 45) rfl ?_); refine goesL_ (some 9) rfl rfl Try.func45 (by kernel_rfl) rfl #[.float .f64 b0_] rfl (by (try simp only [List.map_toArray, List.map_cons, List.map_nil]); first | done | rfl | (simp only [List.length_drop, List.length_take]; rfl)) ?_; (with_reducible refine (r2_None.calls b0_ true _ H'.out).mono ?_); rintro e w' ⟨rfl, ⟨⟨nd, rfl⟩⟩⟩; refine ⟨_, rfl, ?_⟩))
    go_ret
    exact ⟨rfl, ⟨⟨_, rfl⟩⟩⟩
  rw [if_neg hx] at h; have hx' : isNan a0 = false := by simpa using hx
  rw [hx'] at hn; obtain rfl := hf0_.out.eq_of hx'
  have H0 := zA.mk hn; clear hn; have H1 : zA (r2_Minus.f a0 = some ((a0 : Int) / 9223372036854775808 == 1)) := ⟨rfl⟩
  have hneg : ∀ W : World, (Op.unary .neg (.float .f64 a0)).run Try.prog W = .ok (.float .f64 (Op.negFloat .f64 a0)) W := fun W => rfl
  obtain ⟨p, hp⟩ := Classical.axiomOfChoice (fun x : World × Nat × Nat => run_rough (P := Try.prog) x.1 .mul (by simp) 24 x.2.1 x.2.2)
  obtain ⟨m, hm⟩ := Classical.axiomOfChoice hp; have hr : ∀ (W : World) (x y : Nat), (binOp .mul 24 (.float .f64 x) (.float .f64 y)).run Try.prog W = .ok (.float .f64 (p (W, x, y))) (W.drewN (m (W, x, y))) := fun W x y => (hm (W, x, y)).1
  have hf : ∀ (W : World) (x y : Nat), FR (fop .mul x y) (p (W, x, y)) := fun W x y => fr_fop (hm (W, x, y)).2
  clear hp; have hf := zA.mk hf; have hm := zA.mk hm; cases hs : ((a0 : Int) / 9223372036854775808 == 1) with
  | true =>
    rw [hs] at H1; have ha : rabs a0 = (Op.negFloat .f64 a0) := by unfold rabs; rw [hs]; rfl
    go_enter Try.func36, Try.ntmps36
    go_upto_region 9 with (first | ((with_reducible refine gate_callee (f := 45) rfl ?_); refine goesL_ (some 9) rfl rfl Try.func45 (by kernel_rfl) rfl #[.float .f64 a0] rfl (by (try simp only [List.map_toArray, List.map_cons, List.map_nil]); first | done | rfl | (simp only [List.length_drop, List.length_take]; rfl)) ?_; (with_reducible refine (r2_None.calls a0 false _ H0.out).mono ?_); rintro e w' ⟨rfl, ⟨⟨nd0, rfl⟩⟩⟩; refine ⟨_, rfl, ?_⟩) | ((with_reducible refine gate_callee (f := 46) rfl ?_); refine goesL_ (some 12) rfl rfl Try.func46 (by kernel_rfl) rfl #[.float .f64 a0] rfl (by (try simp only [List.map_toArray, List.map_cons, List.map_nil]); first | done | rfl | (simp only [List.length_drop, List.length_take]; rfl)) ?_; (with_reducible refine (r2_Minus.calls a0 true _ H1.out).mono ?_); rintro e w' ⟨rfl, ⟨⟨nd1, rfl⟩⟩⟩; refine ⟨_, rfl, ?_⟩))
    generalize hp1 : p (w.drewN (nd0 + nd1), 4636737291354636288, (Op.negFloat .f64 a0)) = p1
    generalize m (w.drewN (nd0 + nd1), 4636737291354636288, (Op.negFloat .f64 a0)) = m1
    generalize hp2 : p (w.drewN (nd0 + nd1 + m1), p1, (Op.negFloat .f64 a0)) = p2
    generalize m (w.drewN (nd0 + nd1 + m1), p1, (Op.negFloat .f64 a0)) = m2
    generalize hp3 : p (w.drewN (nd0 + nd1 + m1 + m2), p2, (Op.negFloat .f64 a0)) = p3
    generalize m (w.drewN (nd0 + nd1 + m1 + m2), p2, (Op.negFloat .f64 a0)) = m3
    have hz : FR (rcube a0) p3 := by
      unfold rcube
      rw [ha]; exact ((show FR (fop .mul 4636737291354636288 (Op.negFloat .f64 a0)) p1 from hp1 ▸ hf.out _ _ _).fop_l (show FR (fop .mul p1 (Op.negFloat .f64 a0)) p2 from hp2 ▸ hf.out _ _ _)).fop_l (show FR (fop .mul p2 (Op.negFloat .f64 a0)) p3 from hp3 ▸ hf.out _ _ _)
    clear hp1 hp2 hp3 hf hm hr; have hoz := hz.order_l 4666723172467343360; rw [← hoz] at h; clear hoz; have hnz := none_nan p3; rw [← hz.nan] at hnz; have hge : (FloatKind.f64.format.order p3 4666723172467343360 = some .gt ∨ FloatKind.f64.format.order p3 4666723172467343360 = some .eq) ∨ (FloatKind.f64.format.order p3 4666723172467343360 = none ∨ FloatKind.f64.format.order p3 4666723172467343360 = some .lt) := by
      cases FloatKind.f64.format.order p3 4666723172467343360 with
      | none => exact .inr (.inl rfl)
      | some o => cases o <;> simp
    rcases hge with ho | ho
    · have h2 : r = 10000 := by rcases ho with ho | ho <;> (rw [ho] at h; exact (Option.some.inj h).symm)
      subst h2; clear h hz hnz; rcases ho with ho | ho <;> (go_wp2; go_ret; exact ⟨rfl, ⟨⟨_, rfl⟩⟩⟩)
    have h2 : (if isNan (rcube a0) = true then some 10000 else r2_Badness.l0 k (rcube a0) 0) = some r := by rcases ho with ho | ho <;> (rw [ho] at h; exact h)
    clear h; by_cases hnn : isNan (rcube a0) = true
    · rw [if_pos hnn] at h2
      rw [hnn] at hnz; obtain rfl := Option.some.inj h2
      have H2 := zA.mk hnz; clear hnz hz hnn; rcases ho with ho | ho <;> (go_wp2_with (first | (((with_reducible refine gate_callee (f := 45) rfl ?_); (refine gate_guard (by rfl) ?_; dsimp only); refine goesL_ (some 27) rfl rfl Try.func45 (by kernel_rfl) rfl #[.float .f64 p3] rfl (by (try simp only [List.map_toArray, List.map_cons, List.map_nil]); first | done | rfl | (simp only [List.length_drop, List.length_take]; rfl)) ?_; (with_reducible refine (r2_None.calls p3 true _ H2.out).mono ?_); rintro e w' ⟨rfl, ⟨⟨nd2, rfl⟩⟩⟩; refine ⟨_, rfl, ?_⟩))); go_ret; exact ⟨rfl, ⟨⟨_, rfl⟩⟩⟩)
    rw [if_neg hnn] at h2; have hnn' : isNan (rcube a0) = false := by simpa using hnn
    rw [hnn'] at hnz; have H2 := zA.mk hnz; clear hnz; obtain rfl := hz.eq_of hnn'
    have H' := zA.mk h2
    clear h2 hnn hnn' hz; generalize rcube a0 = z at *
    rcases ho with ho | ho <;> (go_wp2_with (first | (((with_reducible refine gate_callee (f := 45) rfl ?_); (refine gate_guard (by rfl) ?_; dsimp only); refine goesL_ (some 27) rfl rfl Try.func45 (by kernel_rfl) rfl #[.float .f64 z] rfl (by (try simp only [List.map_toArray, List.map_cons, List.map_nil]); first | done | rfl | (simp only [List.length_drop, List.length_take]; rfl)) ?_; (with_reducible refine (r2_None.calls z false _ H2.out).mono ?_); rintro e w' ⟨rfl, ⟨⟨nd2, rfl⟩⟩⟩; refine ⟨_, rfl, ?_⟩))); clear ho; go_loopg [7] k (fun kq v7 w' => ∃ (x7_1 : Int), v7 = .int .i64 x7_1 ∧ zA (r2_Badness.l0 kq z x7_1 = some r) ∧ zA (kq ≤ k) ∧ zA (Drawn0 w w')); (case atStart => exact ⟨0, rfl, H', ⟨Nat.le_refl _⟩, ⟨⟨⟨_, rfl⟩⟩⟩⟩); clear H'; obtain ⟨n, rfl, HA, HK1, HB⟩ := hrel; cases gk with
      | zero => exact absurd HA.out (by simp [r2_Badness.l0])
      | succ k1 =>
        have H := HA.out; clear HA; simp only [r2_Badness.l0] at H; rcases bad_step (floatOfInt .f64 (wrap64 (n + 1))) z with ho | ho
        · have H2 : r2_Badness.l0 k1 z (wrap64 (n + 1)) = some r := by rcases ho with ho | ho <;> (rw [ho] at H; exact H)
          have H' := zA.mk H2
          clear H H2; rcases ho with ho | ho <;> (go_wp2; go_roundg k1; (case measure => have := HK1.out; omega); (case rel => exact ⟨wrap64 (n + 1), rfl, H', ⟨by have := HK1.out; omega⟩, ⟨by repeat (first | exact HB.out | apply Drawn0.step)⟩⟩))
        · have H2 : n = r := by rcases ho with ho | ho <;> (rw [ho] at H; exact Option.some.inj H)
          subst H2; clear H; rcases ho with ho | ho <;> (go_wp2; go_ret; exact ⟨rfl, by repeat (first | exact HB.out | apply Drawn0.step)⟩))
  | false =>
    rw [hs] at H1; have ha : rabs a0 = a0 := by unfold rabs; rw [hs]; rfl
    go_enter Try.func36, Try.ntmps36
    go_upto_region 9 with (first | ((with_reducible refine gate_callee (f := 45) rfl ?_); refine goesL_ (some 9) rfl rfl Try.func45 (by kernel_rfl) rfl #[.float .f64 a0] rfl (by (try simp only [List.map_toArray, List.map_cons, List.map_nil]); first | done | rfl | (simp only [List.length_drop, List.length_take]; rfl)) ?_; (with_reducible refine (r2_None.calls a0 false _ H0.out).mono ?_); rintro e w' ⟨rfl, ⟨⟨nd0, rfl⟩⟩⟩; refine ⟨_, rfl, ?_⟩) | ((with_reducible refine gate_callee (f := 46) rfl ?_); refine goesL_ (some 12) rfl rfl Try.func46 (by kernel_rfl) rfl #[.float .f64 a0] rfl (by (try simp only [List.map_toArray, List.map_cons, List.map_nil]); first | done | rfl | (simp only [List.length_drop, List.length_take]; rfl)) ?_; (with_reducible refine (r2_Minus.calls a0 false _ H1.out).mono ?_); rintro e w' ⟨rfl, ⟨⟨nd1, rfl⟩⟩⟩; refine ⟨_, rfl, ?_⟩))
    generalize hp1 : p (w.drewN (nd0 + nd1), 4636737291354636288, a0) = p1
    generalize m (w.drewN (nd0 + nd1), 4636737291354636288, a0) = m1
    generalize hp2 : p (w.drewN (nd0 + nd1 + m1), p1, a0) = p2
    generalize m (w.drewN (nd0 + nd1 + m1), p1, a0) = m2
    generalize hp3 : p (w.drewN (nd0 + nd1 + m1 + m2), p2, a0) = p3
    generalize m (w.drewN (nd0 + nd1 + m1 + m2), p2, a0) = m3
    have hz : FR (rcube a0) p3 := by
      unfold rcube
      rw [ha]; exact ((show FR (fop .mul 4636737291354636288 a0) p1 from hp1 ▸ hf.out _ _ _).fop_l (show FR (fop .mul p1 a0) p2 from hp2 ▸ hf.out _ _ _)).fop_l (show FR (fop .mul p2 a0) p3 from hp3 ▸ hf.out _ _ _)
    clear hp1 hp2 hp3 hf hm hr; have hoz := hz.order_l 4666723172467343360; rw [← hoz] at h; clear hoz; have hnz := none_nan p3; rw [← hz.nan] at hnz; have hge : (FloatKind.f64.format.order p3 4666723172467343360 = some .gt ∨ FloatKind.f64.format.order p3 4666723172467343360 = some .eq) ∨ (FloatKind.f64.format.order p3 4666723172467343360 = none ∨ FloatKind.f64.format.order p3 4666723172467343360 = some .lt) := by
      cases FloatKind.f64.format.order p3 4666723172467343360 with
      | none => exact .inr (.inl rfl)
      | some o => cases o <;> simp
    rcases hge with ho | ho
    · have h2 : r = 10000 := by rcases ho with ho | ho <;> (rw [ho] at h; exact (Option.some.inj h).symm)
      subst h2; clear h hz hnz; rcases ho with ho | ho <;> (go_wp2; go_ret; exact ⟨rfl, ⟨⟨_, rfl⟩⟩⟩)
    have h2 : (if isNan (rcube a0) = true then some 10000 else r2_Badness.l0 k (rcube a0) 0) = some r := by rcases ho with ho | ho <;> (rw [ho] at h; exact h)
    clear h; by_cases hnn : isNan (rcube a0) = true
    · rw [if_pos hnn] at h2
      rw [hnn] at hnz; obtain rfl := Option.some.inj h2
      have H2 := zA.mk hnz; clear hnz hz hnn; rcases ho with ho | ho <;> (go_wp2_with (first | (((with_reducible refine gate_callee (f := 45) rfl ?_); (refine gate_guard (by rfl) ?_; dsimp only); refine goesL_ (some 27) rfl rfl Try.func45 (by kernel_rfl) rfl #[.float .f64 p3] rfl (by (try simp only [List.map_toArray, List.map_cons, List.map_nil]); first | done | rfl | (simp only [List.length_drop, List.length_take]; rfl)) ?_; (with_reducible refine (r2_None.calls p3 true _ H2.out).mono ?_); rintro e w' ⟨rfl, ⟨⟨nd2, rfl⟩⟩⟩; refine ⟨_, rfl, ?_⟩))); go_ret; exact ⟨rfl, ⟨⟨_, rfl⟩⟩⟩)
    rw [if_neg hnn] at h2; have hnn' : isNan (rcube a0) = false := by simpa using hnn
    rw [hnn'] at hnz; have H2 := zA.mk hnz; clear hnz; obtain rfl := hz.eq_of hnn'
    have H' := zA.mk h2
    clear h2 hnn hnn' hz; generalize rcube a0 = z at *
    rcases ho with ho | ho <;> (go_wp2_with (first | (((with_reducible refine gate_callee (f := 45) rfl ?_); (refine gate_guard (by rfl) ?_; dsimp only); refine goesL_ (some 27) rfl rfl Try.func45 (by kernel_rfl) rfl #[.float .f64 z] rfl (by (try simp only [List.map_toArray, List.map_cons, List.map_nil]); first | done | rfl | (simp only [List.length_drop, List.length_take]; rfl)) ?_; (with_reducible refine (r2_None.calls z false _ H2.out).mono ?_); rintro e w' ⟨rfl, ⟨⟨nd2, rfl⟩⟩⟩; refine ⟨_, rfl, ?_⟩))); clear ho; go_loopg [7] k (fun kq v7 w' => ∃ (x7_1 : Int), v7 = .int .i64 x7_1 ∧ zA (r2_Badness.l0 kq z x7_1 = some r) ∧ zA (kq ≤ k) ∧ zA (Drawn0 w w')); (case atStart => exact ⟨0, rfl, H', ⟨Nat.le_refl _⟩, ⟨⟨⟨_, rfl⟩⟩⟩⟩); clear H'; obtain ⟨n, rfl, HA, HK1, HB⟩ := hrel; cases gk with
      | zero => exact absurd HA.out (by simp [r2_Badness.l0])
      | succ k1 =>
        have H := HA.out; clear HA; simp only [r2_Badness.l0] at H; rcases bad_step (floatOfInt .f64 (wrap64 (n + 1))) z with ho | ho
        · have H2 : r2_Badness.l0 k1 z (wrap64 (n + 1)) = some r := by rcases ho with ho | ho <;> (rw [ho] at H; exact H)
          have H' := zA.mk H2
          clear H H2; rcases ho with ho | ho <;> (go_wp2; go_roundg k1; (case measure => have := HK1.out; omega); (case rel => exact ⟨wrap64 (n + 1), rfl, H', ⟨by have := HK1.out; omega⟩, ⟨by repeat (first | exact HB.out | apply Drawn0.step)⟩⟩))
        · have H2 : n = r := by rcases ho with ho | ho <;> (rw [ho] at H; exact Option.some.inj H)
          subst H2; clear H; rcases ho with ho | ho <;> (go_wp2; go_ret; exact ⟨rfl, by repeat (first | exact HB.out | apply Drawn0.step)⟩))
mutual
def r3_Cost.j0 : Nat → Int → Int → Bool → Bool → List (S62) → List Int → Int → Int → Int → Int → Int → Nat → Option (Int × Bool)
  | 0, _, _, _, _, _, _, _, _, _, _, _, _ => none
  | k + 1, x1, x2, x3, x26, x256000, x256001, x257000, x257001, x257002, x257003, x257004, x257005 => if x26 = true then (some (0, false)) else (if 0 ≤ x2 then (if x2 < (x256001.length : Int) then ((r3_Cells.f k x256000 x256001 x1 x2 (rd x256001 x2) x257001).bind fun t259 => (if t259 > x257000 then (some (0, false)) else (if x3 = true then (r3_Cost.j1 k x1 x2 0 x256000 x256001 x257000 x257001 x257002 x257003 x257004 x257005) else ((r3_Gaps.f k x256000 x256001 x1 x2).bind fun t260 => ((r2_Of.f (wrap64 (x257000 - t259)) t260).bind fun t261 => (if (FloatKind.f64.format.order t261 x257005 == some .gt) = true then (some (0, false)) else ((r2_Badness.f k t261).bind fun t262 => (r3_Cost.j1 k x1 x2 t262 x256000 x256001 x257000 x257001 x257002 x257003 x257004 x257005)))))))) else (none)) else (none))
def r3_Cost.j1 : Nat → Int → Int → Int → List (S62) → List Int → Int → Int → Int → Int → Int → Nat → Option (Int × Bool)
  | 0, _, _, _, _, _, _, _, _, _, _, _ => none
  | k + 1, x1, x2, x13, x256000, x256001, x257000, x257001, x257002, x257003, x257004, x257005 => if 0 ≤ x2 then (if x2 < (x256001.length : Int) then (if (rd x256001 x2) = 3 then (if 0 ≤ x1 then (if x1 < (x256001.length : Int) then (if (rd x256001 x1) = 3 then (some (wrap64 ((wrap64 ((wrap64 ((wrap64 (100 + (wrap64 (20 * x13)))) + (wrap64 (x13 * x13)))) + x257003)) + x257004), true)) else (some (wrap64 ((wrap64 ((wrap64 (100 + (wrap64 (20 * x13)))) + (wrap64 (x13 * x13)))) + x257003), true))) else (none)) else (none)) else (some (wrap64 ((wrap64 (100 + (wrap64 (20 * x13)))) + (wrap64 (x13 * x13))), true))) else (none)) else (none)
end
def r3_Cost.f (k : Nat) (l0_0 : List (S62)) (l0_1 : List Int) (a1 : Int) (a2 : Int) (a3 : Bool) (a4_0 : Int) (a4_1 : Int) (a4_2 : Int) (a4_3 : Int) (a4_4 : Int) (a4_5 : Nat) : Option (Int × Bool) := if a2 ≤ a1 then (r3_Cost.j0 k a1 a2 a3 true l0_0 l0_1 a4_0 a4_1 a4_2 a4_3 a4_4 a4_5) else (if 0 ≤ a2 then (if a2 < (l0_1.length : Int) then (r3_Cost.j0 k a1 a2 a3 ((rd l0_1 a2) == 0) l0_0 l0_1 a4_0 a4_1 a4_2 a4_3 a4_4 a4_5) else (none)) else (none))
theorem r3_Cost.mono_l : ∀ k, (∀ y0 y1 y2 y3 y4 y5 y6 y7 y8 y9 y10 y11, LeO (r3_Cost.j0 k y0 y1 y2 y3 y4 y5 y6 y7 y8 y9 y10 y11) (r3_Cost.j0 (k + 1) y0 y1 y2 y3 y4 y5 y6 y7 y8 y9 y10 y11)) ∧ (∀ y0 y1 y2 y3 y4 y5 y6 y7 y8 y9 y10, LeO (r3_Cost.j1 k y0 y1 y2 y3 y4 y5 y6 y7 y8 y9 y10) (r3_Cost.j1 (k + 1) y0 y1 y2 y3 y4 y5 y6 y7 y8 y9 y10))
  | 0 => ⟨fun _ _ _ _ _ _ _ _ _ _ _ _ r h => by simp [r3_Cost.j0] at h, fun _ _ _ _ _ _ _ _ _ _ _ r h => by simp [r3_Cost.j1] at h⟩
  | k + 1 => by
    obtain ⟨ih0, ih1⟩ := r3_Cost.mono_l k; refine ⟨?_, ?_⟩
    · intro y0 y1 y2 y3 y4 y5 y6 y7 y8 y9 y10 y11
      unfold r3_Cost.j0
      repeat' (with_reducible first | exact ih0 _ _ _ _ _ _ _ _ _ _ _ _ | exact ih1 _ _ _ _ _ _ _ _ _ _ _ | exact r2_Badness.mono _ _ | exact r3_Cells.mono _ _ _ _ _ _ _ | exact r3_Gaps.mono _ _ _ _ _ | exact LeO.refl _ | exact LeO.none _ | refine LeO.ite ?_ ?_ | refine LeO.bind ?_ (fun _ => ?_))
    · intro y0 y1 y2 y3 y4 y5 y6 y7 y8 y9 y10
      unfold r3_Cost.j1
      repeat' (with_reducible first | exact ih0 _ _ _ _ _ _ _ _ _ _ _ _ | exact ih1 _ _ _ _ _ _ _ _ _ _ _ | exact r2_Badness.mono _ _ | exact r3_Cells.mono _ _ _ _ _ _ _ | exact r3_Gaps.mono _ _ _ _ _ | exact LeO.refl _ | exact LeO.none _ | refine LeO.ite ?_ ?_ | refine LeO.bind ?_ (fun _ => ?_))
theorem r3_Cost.mono : ∀ a0 a1 a2 a3 a4 a5 a6 a7 a8 a9 a10 k, LeO (r3_Cost.f k a0 a1 a2 a3 a4 a5 a6 a7 a8 a9 a10) (r3_Cost.f (k + 1) a0 a1 a2 a3 a4 a5 a6 a7 a8 a9 a10) := by
  intro a0 a1 a2 a3 a4 a5 a6 a7 a8 a9 a10 k
  obtain ⟨ih0, ih1⟩ := r3_Cost.mono_l k; unfold r3_Cost.f
  repeat' (with_reducible first | exact ih0 _ _ _ _ _ _ _ _ _ _ _ _ | exact ih1 _ _ _ _ _ _ _ _ _ _ _ | exact r2_Badness.mono _ _ | exact r3_Cells.mono _ _ _ _ _ _ _ | exact r3_Gaps.mono _ _ _ _ _ | exact LeO.refl _ | exact LeO.none _ | refine LeO.ite ?_ ?_ | refine LeO.bind ?_ (fun _ => ?_))
def r3_Cost.T3 : Bool × List (List Nat × List Nat) := (true, [([], []), ([], []), ([], []), ([], []), ([3], [3]), ([], []), ([4, 5], [4, 5]), ([6], [6]), ([], []), ([8], [8]), ([0, 1, 2, 7, 9], [0, 1, 2, 7, 9]), ([10, 10, 0, 1, 2, 3, 4, 5, 6, 7, 8, 9, 10], [10])])
def r3_Cost.B3 : List Nat := [0, 0, 0, 0, 8, 0, 56, 120, 0, 256, 1023, 2047]
theorem r3_Cost.tab3 : rtab .any (opsOf Try.f20 3) = r3_Cost.T3 := by kernel_rfl
theorem r3_Cost.bits3 : waitsOk r3_Cost.T3.2 r3_Cost.B3 = true := by kernel_rfl
def r3_Cost.T8 : Bool × List (List Nat × List Nat) := (true, [([], []), ([0], [0]), ([], []), ([1, 2], [1, 2]), ([], []), ([], []), ([], []), ([4, 5, 6], [4, 5, 6]), ([3, 7, 7], [3, 7]), ([8, 8, 0, 1, 2, 3, 4, 5, 6, 7, 8], [8])])
def r3_Cost.B8 : List Nat := [0, 1, 0, 7, 0, 0, 0, 112, 255, 511]
theorem r3_Cost.tab8 : rtab .any (opsOf Try.f20 8) = r3_Cost.T8 := by kernel_rfl
theorem r3_Cost.bits8 : waitsOk r3_Cost.T8.2 r3_Cost.B8 = true := by kernel_rfl
set_option maxHeartbeats 8000000 in
set_option maxRecDepth 100000 in
theorem r3_Cost.calls (k : Nat) (A0_0 : Option Addr) (c0_0 : Nat) (l0_0 : List (S62)) (A0_1 : Option Addr) (c0_1 : Nat) (l0_1 : List Int) (a1 : Int) (a2 : Int) (a3 : Bool) (a4_0 : Int) (a4_1 : Int) (a4_2 : Int) (a4_3 : Int) (a4_4 : Int) (a4_5 : Nat) (r1 : Int) (r2 : Bool) (w : World) (hr0_0 : Kd.C k62 w A0_0 l0_0.length l0_0) (hc0_0 : l0_0.length ≤ c0_0) (hr0_1 : Kd.C (Kd.int .u8) w A0_1 l0_1.length l0_1) (hc0_1 : l0_1.length ≤ c0_1) (h : r3_Cost.f k l0_0 l0_1 a1 a2 a3 a4_0 a4_1 a4_2 a4_3 a4_4 a4_5 = some (r1, r2)) :
    Calls Try.prog 20 #[.agg #[.slice A0_0 l0_0.length c0_0, .slice A0_1 l0_1.length c0_1], .int .i64 a1, .int .i64 a2, .bool a3, .agg #[.int .i64 a4_0, .int .i64 a4_1, .int .u8 a4_2, .int .i64 a4_3, .int .i64 a4_4, .float .f64 a4_5]] w fun e w' => e = .returned (.tuple #[.int .i64 r1, .bool r2]) ∧ Below w.heap.size w w' := by
  have hu31 := Try.underlying31; have hu35 := Try.underlying35; have HR0_0 := zA.mk hr0_0; have HC0_0 := zA.mk hc0_0; clear hr0_0 hc0_0; have HR0_1 := zA.mk hr0_1; have HC0_1 := zA.mk hc0_1; clear hr0_1 hc0_1; have HB := zA.mk (Below.refl w.heap.size w); have H : (if a2 ≤ a1 then (r3_Cost.j0 k a1 a2 a3 true l0_0 l0_1 a4_0 a4_1 a4_2 a4_3 a4_4 a4_5) else (if 0 ≤ a2 then (if a2 < (l0_1.length : Int) then (r3_Cost.j0 k a1 a2 a3 ((rd l0_1 a2) == 0) l0_0 l0_1 a4_0 a4_1 a4_2 a4_3 a4_4 a4_5) else (none)) else (none))) = some (r1, r2) := h
  clear h; have HC6 := zA.mk H; clear H; go_enter Try.func20, Try.ntmps20
  go_upto_region 1 with (first | ((with_reducible refine gate_dst (N := 5) rfl ?_); refine box_event ?hg (N := 5) ?hd (cs := #[.slice A0_0 l0_0.length c0_0, .slice A0_1 l0_1.length c0_1]) (t := 31) ?hr ?_; (case hd => rfl); (case hg => rfl); (case hr => first | (go_simp; done) | (go_simp; rfl)); intro gb255 hg w7 hbox hb; have n0_ := zA.mk (zL (by repeat (first | (with_reducible first | exact HB.out | apply zJ | apply zF | apply zI) | exact HB.out)) hb); have n1_ := zA.mk (hbox); have n2_ := zA.mk ((by rw [hg]; exact (zM (by repeat (first | (with_reducible first | exact HB.out | apply zJ | apply zF | apply zI) | exact HB.out))) : w.heap.size ≤ gb255)); have n3_ := n2_; clear HB; have HB := n0_; have BK255 := n1_; have GW255 := n2_; have GE255 := n3_; clear n0_ n1_ n2_ n3_; clear hb hbox hg) | ((with_reducible refine gate_dst (N := 9) rfl ?_); refine box_event ?hg (N := 9) ?hd (cs := #[.int .i64 a4_0, .int .i64 a4_1, .int .u8 a4_2, .int .i64 a4_3, .int .i64 a4_4, .float .f64 a4_5]) (t := 35) ?hr ?_; (case hd => rfl); (case hg => rfl); (case hr => first | (go_simp; done) | (go_simp; rfl)); intro gb256 hg w8 hbox hb; have n0_ := zA.mk (zK (by (with_reducible repeat (first | refine zC ?_ _ | refine zD ?_ | refine zB ?_ _)); exact BK255.out) hb); have n1_ := zA.mk (zL (by repeat (first | (with_reducible first | exact HB.out | apply zJ | apply zF | apply zI | refine zE ?_ GE255.out) | exact HB.out)) hb); have n2_ := zA.mk (hbox); have n3_ := zA.mk ((by rw [hg]; exact (zM (by repeat (first | (with_reducible first | exact HB.out | apply zJ | apply zF | apply zI | refine zE ?_ GE255.out) | exact HB.out))) : w.heap.size ≤ gb256)); have n4_ := n3_; have n5_ := zA.mk ((by rw [hg]; exact Nat.ne_of_lt (blk_lt (by (with_reducible repeat (first | refine zC ?_ _ | refine zD ?_ | refine zB ?_ _)); exact BK255.out)) : gb255 ≠ gb256)); have n6_ := zA.mk n5_.out.symm; clear BK255; clear HB; have BK255 := n0_; have HB := n1_; have BK256 := n2_; have GW256 := n3_; have GE256 := n4_; have NB255_256 := n5_; have NB256_255 := n6_; clear n0_ n1_ n2_ n3_ n4_ n5_ n6_; clear hb hbox hg))
  (try simp only [Act.put, sA_, sB_, sC_])
  go_cut [26] (fun v26 wc => ∃ (kq : Nat) (x26_5 : Bool), v26 = .bool x26_5 ∧ zA (r3_Cost.j0 kq a1 a2 a3 x26_5 l0_0 l0_1 a4_0 a4_1 a4_2 a4_3 a4_4 a4_5 = some (r1, r2)) ∧ zA (kq ≤ k) ∧ zA (wc.heap[gb255]? = some (.cells #[(.slice A0_0 l0_0.length c0_0), (.slice A0_1 l0_1.length c0_1)] 31 (0, 0))) ∧ zA (wc.heap[gb256]? = some (.cells #[.int .i64 a4_0, .int .i64 a4_1, .int .u8 a4_2, .int .i64 a4_3, .int .i64 a4_4, .float .f64 a4_5] 35 (0, 0))) ∧ zA (Below w.heap.size w wc))
  case first =>
    have H := HC6.out; clear HC6; by_cases c9 : a2 ≤ a1
    · rw [if_pos c9] at H
      have c9b0 : decide (a2 ≤ a1) = true := decide_eq_true c9
      clear c9; (first | rw [c9b0] | (simp only [i64_w, i32_w]; rw [c9b0]) | skip)
      have H' := zA.mk H
      clear H; go_wp2
      go_meet
      case rel => exact ⟨_, (true), (by first | rfl | (simp; done) | (simp [*]; done)), H', ⟨by first | omega | exact Nat.le_refl _⟩, ⟨by (with_reducible repeat (first | refine zC ?_ _ | refine zD ?_ | refine zB ?_ _)); exact BK255.out⟩, ⟨by (with_reducible repeat (first | refine zC ?_ _ | refine zD ?_ | refine zB ?_ _)); exact BK256.out⟩, ⟨by repeat (first | (with_reducible first | exact HB.out | apply zJ | apply zF | apply zI | refine zE ?_ GE255.out | refine zE ?_ GE256.out) | exact HB.out)⟩⟩
    rw [if_neg c9] at H; have c9b0 : decide (a2 ≤ a1) = false := decide_eq_false c9
    clear c9; (first | rw [c9b0] | (simp only [i64_w, i32_w]; rw [c9b0]) | skip)
    by_cases c10 : 0 ≤ a2
    rotate_left
    · rw [if_neg c10] at H
      exact absurd H (by simp)
    rw [if_pos c10] at H; have c10b0 : decide (0 ≤ a2) = true := decide_eq_true c10
    clear c10; by_cases c11 : a2 < (l0_1.length : Int)
    rotate_left
    · rw [if_neg c11] at H
      exact absurd H (by simp)
    rw [if_pos c11] at H; have c11b0 : decide (a2 < (l0_1.length : Int)) = true := decide_eq_true c11
    clear c11; have H' := zA.mk H
    clear H; have hnb12 := NB255_256.out; have hnc12 := NB256_255.out; have hcz13_0 : w8.cell? ⟨gb255, 0, none⟩ = some (.slice A0_0 l0_0.length c0_0) := (zG BK255.out 0).trans rfl
    have hcz13_1 : w8.cell? ⟨gb255, 1, none⟩ = some (.slice A0_1 l0_1.length c0_1) := (zG BK255.out 1).trans rfl
    have hfz13_0 := zH BK255.out 0; have hfz13_1 := zH BK255.out 1; have p257 : 0 ≤ (a2 : Int) := of_decide_eq_true (by first | (with_reducible assumption) | assumption)
    have q257 : a2 < (l0_1.length : Int) := of_decide_eq_true (by first | (with_reducible assumption) | assumption)
    obtain ⟨ad257, e257, hx257_0⟩ := Kd.at_int HR0_1.out a2 p257 q257; cases e257
    replace hx257_0 := (HB.out.cell (World.block_lt_of_cell? w _ hx257_0)).trans hx257_0; replace p257 := eq_true p257; replace q257 := eq_true q257; go_wp2
    go_meet
    case rel => exact ⟨_, (((rd l0_1 a2) == 0)), (by first | rfl | (simp; done) | (simp [*]; done)), H', ⟨by first | omega | exact Nat.le_refl _⟩, ⟨by (with_reducible repeat (first | refine zC ?_ _ | refine zD ?_ | refine zB ?_ _)); exact BK255.out⟩, ⟨by (with_reducible repeat (first | refine zC ?_ _ | refine zD ?_ | refine zB ?_ _)); exact BK256.out⟩, ⟨by repeat (first | (with_reducible first | exact HB.out | apply zJ | apply zF | apply zI | refine zE ?_ GE255.out | refine zE ?_ GE256.out) | exact HB.out)⟩⟩
  clear HC6; obtain ⟨kq, x26_5, rfl, HA, HJ5, BK255, BK256, HB⟩ := hcut; cases kq with
  | zero => exact absurd HA.out (by simp [r3_Cost.j0])
  | succ kj5 =>
    have H := HA.out; clear HA; simp only [r3_Cost.j0] at H; by_cases c14 : x26_5 = true
    · subst c14
      have H1 : (some (0, false)) = some (r1, r2) := by rw [if_pos rfl] at H; exact H
      clear H; have H := H1; clear H1; simp only [Option.some.injEq, Prod.mk.injEq] at H; obtain ⟨rfl, rfl⟩ := H; go_wp2
      go_ret2
      exact ⟨by first | rfl | (simp [errW_none, errW_some] <;> rfl) | (simp [*, errW_none, errW_some] <;> rfl), by repeat (first | (with_reducible first | exact HB.out | apply zJ | apply zF | apply zI | refine zE ?_ GE255.out | refine zE ?_ GE256.out) | exact HB.out)⟩
    replace c14 := Bool.eq_false_iff.mpr c14; subst c14; have H1 : (if 0 ≤ a2 then (if a2 < (l0_1.length : Int) then ((r3_Cells.f kj5 l0_0 l0_1 a1 a2 (rd l0_1 a2) a4_1).bind fun t259 => (if t259 > a4_0 then (some (0, false)) else (if a3 = true then (r3_Cost.j1 kj5 a1 a2 0 l0_0 l0_1 a4_0 a4_1 a4_2 a4_3 a4_4 a4_5) else ((r3_Gaps.f kj5 l0_0 l0_1 a1 a2).bind fun t260 => ((r2_Of.f (wrap64 (a4_0 - t259)) t260).bind fun t261 => (if (FloatKind.f64.format.order t261 a4_5 == some .gt) = true then (some (0, false)) else ((r2_Badness.f kj5 t261).bind fun t262 => (r3_Cost.j1 kj5 a1 a2 t262 l0_0 l0_1 a4_0 a4_1 a4_2 a4_3 a4_4 a4_5)))))))) else (none)) else (none)) = some (r1, r2) := by rw [if_neg (show ¬ (false = true) by decide)] at H; exact H
    clear H; have H := H1; clear H1; by_cases c15 : 0 ≤ a2
    rotate_left
    · rw [if_neg c15] at H
      exact absurd H (by simp)
    rw [if_pos c15] at H; have c15b0 : decide (0 ≤ a2) = true := decide_eq_true c15
    clear c15; by_cases c16 : a2 < (l0_1.length : Int)
    rotate_left
    · rw [if_neg c16] at H
      exact absurd H (by simp)
    rw [if_pos c16] at H; have c16b0 : decide (a2 < (l0_1.length : Int)) = true := decide_eq_true c16
    clear c16; replace H := Option.bind_eq_some_iff.mp H; obtain ⟨t259, A170, H⟩ := H; replace H : (if t259 > a4_0 then (some (0, false)) else (if a3 = true then (r3_Cost.j1 kj5 a1 a2 0 l0_0 l0_1 a4_0 a4_1 a4_2 a4_3 a4_4 a4_5) else ((r3_Gaps.f kj5 l0_0 l0_1 a1 a2).bind fun t260 => ((r2_Of.f (wrap64 (a4_0 - t259)) t260).bind fun t261 => (if (FloatKind.f64.format.order t261 a4_5 == some .gt) = true then (some (0, false)) else ((r2_Badness.f kj5 t261).bind fun t262 => (r3_Cost.j1 kj5 a1 a2 t262 l0_0 l0_1 a4_0 a4_1 a4_2 a4_3 a4_4 a4_5))))))) = some (r1, r2) := H
    have A17 := zA.mk A170; clear A170; by_cases c18 : t259 > a4_0
    · rw [if_pos c18] at H
      have c18b0 : decide (a4_0 < t259) = true := decide_eq_true c18
      clear c18; simp only [Option.some.injEq, Prod.mk.injEq] at H; obtain ⟨rfl, rfl⟩ := H; try go_wp2
      replace BK255 := zA.mk (zD BK255.out); replace BK256 := zA.mk (zD BK256.out); replace HB := zA.mk (zI HB.out); have p258 : 0 ≤ (a2 : Int) := of_decide_eq_true (by first | (with_reducible assumption) | assumption)
      have q258 : a2 < (l0_1.length : Int) := of_decide_eq_true (by first | (with_reducible assumption) | assumption)
      obtain ⟨ad258, e258, hx258_0⟩ := Kd.at_int HR0_1.out a2 p258 q258; have hw258_0 := hx258_0; cases e258
      replace hx258_0 := (HB.out.cell (World.block_lt_of_cell? w _ hx258_0)).trans hx258_0; replace p258 := eq_true p258; replace q258 := eq_true q258; refine start_ (n := 12) (S := fun w' => w'.cell? ⟨gb255, 0, none⟩ = some (.slice A0_0 l0_0.length c0_0) ∧ w'.cell? ⟨gb255, 1, none⟩ = some (.slice (some ad258) l0_1.length c0_1) ∧ w'.cell? ⟨gb256, 0, none⟩ = some (.int .i64 a4_0) ∧ w'.cell? ⟨gb256, 1, none⟩ = some (.int .i64 a4_1) ∧ w'.cell? ⟨gb256, 2, none⟩ = some (.int .u8 a4_2) ∧ w'.cell? ⟨gb256, 3, none⟩ = some (.int .i64 a4_3) ∧ w'.cell? ⟨gb256, 4, none⟩ = some (.int .i64 a4_4) ∧ w'.cell? ⟨gb256, 5, none⟩ = some (.float .f64 a4_5) ∧ w'.cell? (ad258.add (a2).toNat) = some (.int .u8 (rd l0_1 a2))) (ds := []) #[false, false, false, false, false, false, false, false, false, false, false, false] (by kernel_rfl) rfl rfl ⟨(zG BK255.out 0).trans rfl, (zG BK255.out 1).trans rfl, (zG BK256.out 0).trans rfl, (zG BK256.out 1).trans rfl, (zG BK256.out 2).trans rfl, (zG BK256.out 3).trans rfl, (zG BK256.out 4).trans rfl, (zG BK256.out 5).trans rfl, ((HB.out.cell (World.block_lt_of_cell? w _ hw258_0)).trans hw258_0)⟩ (fun hHeld => ?_); refine with_tabW r3_Cost.tab3 r3_Cost.bits3 (fun HT_ HW_ => ?_)
      generalize wc.drew = w19 at BK255 BK256 HB hx258_0 hHeld ⊢
      refine pure_ (i := 1) (N := some 28) (v := ?_) (a' := ?_) (tb_ 2 12) rfl rfl (any_of HT_.out (by kernel_rfl)) (fun _ _ _ h => h) (Or.inl ⟨by rfl, ?_⟩) ?_ ?_
      rotate_left
      · intro w'
        go_simp
        with_reducible rfl
      rotate_left
      · simp only [Act.put, sA_, sB_, sC_, i64_w, i32_w]
        rfl
      refine pure_ (i := 2) (N := some 29) (v := ?_) (a' := ?_) (tb_ 6 12) rfl rfl (any_of HT_.out (by kernel_rfl)) (fun _ _ _ h => h) (Or.inl ⟨by rfl, ?_⟩) ?_ ?_
      rotate_left
      · intro w'
        go_simp
        with_reducible rfl
      rotate_left
      · simp only [Act.put, sA_, sB_, sC_, i64_w, i32_w]
        rfl
      refine pure_ (i := 3) (N := some 30) (v := ?_) (a' := ?_) (tb_ 14 12) rfl rfl (any_of HT_.out (by kernel_rfl)) (fun _ _ _ h => h) (Or.inl ⟨by rfl, ?_⟩) ?_ ?_
      rotate_left
      · intro w'
        go_simp
        with_reducible rfl
      rotate_left
      · simp only [Act.put, sA_, sB_, sC_, i64_w, i32_w]
        rfl
      refine pure_ (i := 5) (N := some 32) (v := ?_) (a' := ?_) (tb_ 46 12) rfl rfl (any_of HT_.out (by kernel_rfl)) (fun _ _ _ h => h) (Or.inl ⟨by rfl, ?_⟩) ?_ ?_
      rotate_left
      · intro w'
        go_simp
        with_reducible rfl
      rotate_left
      · simp only [Act.put, sA_, sB_, sC_, i64_w, i32_w]
        rfl
      refine pure_ (i := 8) (N := some 35) (v := ?_) (a' := ?_) (tb_ 302 12) rfl rfl (any_of HT_.out (by kernel_rfl)) (fun _ _ _ h => h) (Or.inl ⟨by rfl, ?_⟩) ?_ ?_
      rotate_left
      · intro w'
        go_simp
        with_reducible rfl
      rotate_left
      · simp only [Act.put, sA_, sB_, sC_, i64_w, i32_w]
        rfl
      refine take_ (i := 0) (N := some 27) (v := ?_) (a' := ?_) (tb_ 303 12) rfl rfl (take_ofW HT_.out HW_.out (by kernel_rfl)) (fun _ _ _ h => h) (Or.inl ⟨by rfl, ?_⟩) hHeld ?_ ?_
      rotate_left
      · rintro w' ⟨s0, s1, s2, s3, s4, s5, s6, s7, s8⟩
        go_simp
        with_reducible rfl
      rotate_left
      · simp only [Act.put, sA_, sB_, sC_, i64_w, i32_w]
        rfl
      refine take_ (i := 4) (N := some 31) (v := ?_) (a' := ?_) (tb_ 319 12) rfl rfl (take_ofW HT_.out HW_.out (by kernel_rfl)) (fun _ _ _ h => h) (Or.inl ⟨by rfl, ?_⟩) hHeld ?_ ?_
      rotate_left
      · rintro w' ⟨s0, s1, s2, s3, s4, s5, s6, s7, s8⟩
        go_simp
        with_reducible rfl
      rotate_left
      · simp only [Act.put, sA_, sB_, sC_, i64_w, i32_w]
        rfl
      refine pure_ (i := 6) (N := some 33) (v := ?_) (a' := ?_) (tb_ 383 12) rfl rfl (any_of HT_.out (by kernel_rfl)) (fun _ _ _ h => h) (Or.inl ⟨by rfl, ?_⟩) ?_ ?_
      rotate_left
      · intro w'
        go_simp
        with_reducible rfl
      rotate_left
      · simp only [Act.put, sA_, sB_, sC_, i64_w, i32_w]
        rfl
      refine take_ (i := 7) (N := some 34) (v := ?_) (a' := ?_) (tf_ 9 12) rfl rfl (take_ofW HT_.out HW_.out (by kernel_rfl)) (fun _ _ _ h => h) (Or.inl ⟨by rfl, ?_⟩) hHeld ?_ ?_
      rotate_left
      · rintro w' ⟨s0, s1, s2, s3, s4, s5, s6, s7, s8⟩
        go_simp
        with_reducible rfl
      rotate_left
      · simp only [Act.put, sA_, sB_, sC_, i64_w, i32_w]
        rfl
      refine take_ (i := 9) (N := some 36) (v := ?_) (a' := ?_) (tf_ 10 12) rfl rfl (take_ofW HT_.out HW_.out (by kernel_rfl)) (fun _ _ _ h => h) (Or.inl ⟨by rfl, ?_⟩) hHeld ?_ ?_
      rotate_left
      · rintro w' ⟨s0, s1, s2, s3, s4, s5, s6, s7, s8⟩
        go_simp
        with_reducible rfl
      rotate_left
      · simp only [Act.put, sA_, sB_, sC_, i64_w, i32_w]
        rfl
      refine one_ (i := 10) (N := some 37) (tb_ 2047 12) rfl rfl (one_of HT_.out (by kernel_rfl)) (by decide) (fun K hK => ?_)
      refine goes_ Try.func18 (by kernel_rfl) rfl #[.agg #[.slice A0_0 l0_0.length c0_0, .slice (some ad258) l0_1.length c0_1], .int .i64 a1, .int .i64 a2, .int .u8 (rd l0_1 a2), .int .i64 a4_1] (by rfl) rfl rfl (by (try simp only [List.map_toArray, List.map_cons, List.map_nil]); first | done | rfl | (simp only [List.length_drop, List.length_take]; rfl)) ?_
      with_reducible refine (r3_Cells.calls kj5 _ _ l0_0 _ _ l0_1 a1 a2 (rd l0_1 a2) a4_1 t259 _ ?side1 ?side2 ?side3 ?side4 A17.out).mono ?_
      (case side1 => repeat (first | exact (Kd.zT HR0_0.out HB.out) | (with_reducible refine Kd.zQ ?_ _) | (with_reducible refine Kd.zR ?_ _) | (with_reducible refine Kd.zS ?_)))
      (case side2 => exact HC0_0.out)
      (case side3 => repeat (first | exact (Kd.zT HR0_1.out HB.out) | (with_reducible refine Kd.zQ ?_ _) | (with_reducible refine Kd.zR ?_ _) | (with_reducible refine Kd.zS ?_)))
      (case side4 => exact HC0_1.out)
      rintro e w20 ⟨rfl, hb⟩
      refine ⟨_, rfl, ?_⟩
      replace BK255 := zA.mk (zK (by (with_reducible repeat (first | refine zC ?_ _ | refine zD ?_ | refine zB ?_ _)); exact BK255.out) hb)
      replace BK256 := zA.mk (zK (by (with_reducible repeat (first | refine zC ?_ _ | refine zD ?_ | refine zB ?_ _)); exact BK256.out) hb)
      replace HB := zA.mk (zL (by repeat (first | (with_reducible first | exact HB.out | apply zJ | apply zF | apply zI | refine zE ?_ GE255.out | refine zE ?_ GE256.out) | exact HB.out)) hb)
      (try clear hb)
      (try clear hb2)
      (try clear hk)
      (try clear hi)
      refine hK.out _ _ ⟨(zG BK255.out 0).trans rfl, (zG BK255.out 1).trans rfl, (zG BK256.out 0).trans rfl, (zG BK256.out 1).trans rfl, (zG BK256.out 2).trans rfl, (zG BK256.out 3).trans rfl, (zG BK256.out 4).trans rfl, (zG BK256.out 5).trans rfl, ((HB.out.cell (World.block_lt_of_cell? w _ hw258_0)).trans hw258_0)⟩ (fun hHeld => ?_)
      clear hK K; refine norm_ (a' := ?_) ?_ ?_
      rotate_left
      · show Act.put _ (some 37) _ = _
        simp only [Act.put, sA_, sB_, sC_, i64_w, i32_w]; rfl
      refine pure_ (i := 11) (N := some 12) (v := ?_) (a' := ?_) (tb_ 4095 12) rfl rfl (any_of HT_.out (by kernel_rfl)) (fun _ _ _ h => h) (Or.inl ⟨by rfl, ?_⟩) ?_ ?_
      rotate_left
      · intro w'
        go_simp
        with_reducible rfl
      rotate_left
      · simp only [Act.put, sA_, sB_, sC_, i64_w, i32_w]
        rfl
      refine done_ (done_of HT_.out (by kernel_rfl)) ?_
      have hnb21 := NB256_255.out; have hnc21 := NB255_256.out; have hcz22_0 : w20.cell? ⟨gb256, 0, none⟩ = some (.int .i64 a4_0) := (zG BK256.out 0).trans rfl
      have hcz22_1 : w20.cell? ⟨gb256, 1, none⟩ = some (.int .i64 a4_1) := (zG BK256.out 1).trans rfl
      have hcz22_2 : w20.cell? ⟨gb256, 2, none⟩ = some (.int .u8 a4_2) := (zG BK256.out 2).trans rfl
      have hcz22_3 : w20.cell? ⟨gb256, 3, none⟩ = some (.int .i64 a4_3) := (zG BK256.out 3).trans rfl
      have hcz22_4 : w20.cell? ⟨gb256, 4, none⟩ = some (.int .i64 a4_4) := (zG BK256.out 4).trans rfl
      have hcz22_5 : w20.cell? ⟨gb256, 5, none⟩ = some (.float .f64 a4_5) := (zG BK256.out 5).trans rfl
      have hfz22_0 := zH BK256.out 0; have hfz22_1 := zH BK256.out 1; have hfz22_2 := zH BK256.out 2; have hfz22_3 := zH BK256.out 3; have hfz22_4 := zH BK256.out 4; have hfz22_5 := zH BK256.out 5; try go_wp2
      go_ret2
      exact ⟨by first | rfl | (simp [errW_none, errW_some] <;> rfl) | (simp [*, errW_none, errW_some] <;> rfl), by repeat (first | (with_reducible first | exact HB.out | apply zJ | apply zF | apply zI | refine zE ?_ GE255.out | refine zE ?_ GE256.out) | exact HB.out)⟩
    rw [if_neg c18] at H; have c18b0 : decide (a4_0 < t259) = false := decide_eq_false c18
    clear c18; have HC23 := zA.mk H; clear H; try go_wp2
    replace BK255 := zA.mk (zD BK255.out); replace BK256 := zA.mk (zD BK256.out); replace HB := zA.mk (zI HB.out); have p258 : 0 ≤ (a2 : Int) := of_decide_eq_true (by first | (with_reducible assumption) | assumption)
    have q258 : a2 < (l0_1.length : Int) := of_decide_eq_true (by first | (with_reducible assumption) | assumption)
    obtain ⟨ad258, e258, hx258_0⟩ := Kd.at_int HR0_1.out a2 p258 q258; have hw258_0 := hx258_0; cases e258
    replace hx258_0 := (HB.out.cell (World.block_lt_of_cell? w _ hx258_0)).trans hx258_0; replace p258 := eq_true p258; replace q258 := eq_true q258; refine start_ (n := 12) (S := fun w' => w'.cell? ⟨gb255, 0, none⟩ = some (.slice A0_0 l0_0.length c0_0) ∧ w'.cell? ⟨gb255, 1, none⟩ = some (.slice (some ad258) l0_1.length c0_1) ∧ w'.cell? ⟨gb256, 0, none⟩ = some (.int .i64 a4_0) ∧ w'.cell? ⟨gb256, 1, none⟩ = some (.int .i64 a4_1) ∧ w'.cell? ⟨gb256, 2, none⟩ = some (.int .u8 a4_2) ∧ w'.cell? ⟨gb256, 3, none⟩ = some (.int .i64 a4_3) ∧ w'.cell? ⟨gb256, 4, none⟩ = some (.int .i64 a4_4) ∧ w'.cell? ⟨gb256, 5, none⟩ = some (.float .f64 a4_5) ∧ w'.cell? (ad258.add (a2).toNat) = some (.int .u8 (rd l0_1 a2))) (ds := []) #[false, false, false, false, false, false, false, false, false, false, false, false] (by kernel_rfl) rfl rfl ⟨(zG BK255.out 0).trans rfl, (zG BK255.out 1).trans rfl, (zG BK256.out 0).trans rfl, (zG BK256.out 1).trans rfl, (zG BK256.out 2).trans rfl, (zG BK256.out 3).trans rfl, (zG BK256.out 4).trans rfl, (zG BK256.out 5).trans rfl, ((HB.out.cell (World.block_lt_of_cell? w _ hw258_0)).trans hw258_0)⟩ (fun hHeld => ?_); refine with_tabW r3_Cost.tab3 r3_Cost.bits3 (fun HT_ HW_ => ?_)
    generalize wc.drew = w24 at BK255 BK256 HB hx258_0 hHeld ⊢
    refine pure_ (i := 1) (N := some 28) (v := ?_) (a' := ?_) (tb_ 2 12) rfl rfl (any_of HT_.out (by kernel_rfl)) (fun _ _ _ h => h) (Or.inl ⟨by rfl, ?_⟩) ?_ ?_
    rotate_left
    · intro w'
      go_simp
      with_reducible rfl
    rotate_left
    · simp only [Act.put, sA_, sB_, sC_, i64_w, i32_w]
      rfl
    refine pure_ (i := 2) (N := some 29) (v := ?_) (a' := ?_) (tb_ 6 12) rfl rfl (any_of HT_.out (by kernel_rfl)) (fun _ _ _ h => h) (Or.inl ⟨by rfl, ?_⟩) ?_ ?_
    rotate_left
    · intro w'
      go_simp
      with_reducible rfl
    rotate_left
    · simp only [Act.put, sA_, sB_, sC_, i64_w, i32_w]
      rfl
    refine pure_ (i := 3) (N := some 30) (v := ?_) (a' := ?_) (tb_ 14 12) rfl rfl (any_of HT_.out (by kernel_rfl)) (fun _ _ _ h => h) (Or.inl ⟨by rfl, ?_⟩) ?_ ?_
    rotate_left
    · intro w'
      go_simp
      with_reducible rfl
    rotate_left
    · simp only [Act.put, sA_, sB_, sC_, i64_w, i32_w]
      rfl
    refine pure_ (i := 5) (N := some 32) (v := ?_) (a' := ?_) (tb_ 46 12) rfl rfl (any_of HT_.out (by kernel_rfl)) (fun _ _ _ h => h) (Or.inl ⟨by rfl, ?_⟩) ?_ ?_
    rotate_left
    · intro w'
      go_simp
      with_reducible rfl
    rotate_left
    · simp only [Act.put, sA_, sB_, sC_, i64_w, i32_w]
      rfl
    refine pure_ (i := 8) (N := some 35) (v := ?_) (a' := ?_) (tb_ 302 12) rfl rfl (any_of HT_.out (by kernel_rfl)) (fun _ _ _ h => h) (Or.inl ⟨by rfl, ?_⟩) ?_ ?_
    rotate_left
    · intro w'
      go_simp
      with_reducible rfl
    rotate_left
    · simp only [Act.put, sA_, sB_, sC_, i64_w, i32_w]
      rfl
    refine take_ (i := 0) (N := some 27) (v := ?_) (a' := ?_) (tb_ 303 12) rfl rfl (take_ofW HT_.out HW_.out (by kernel_rfl)) (fun _ _ _ h => h) (Or.inl ⟨by rfl, ?_⟩) hHeld ?_ ?_
    rotate_left
    · rintro w' ⟨s0, s1, s2, s3, s4, s5, s6, s7, s8⟩
      go_simp
      with_reducible rfl
    rotate_left
    · simp only [Act.put, sA_, sB_, sC_, i64_w, i32_w]
      rfl
    refine take_ (i := 4) (N := some 31) (v := ?_) (a' := ?_) (tb_ 319 12) rfl rfl (take_ofW HT_.out HW_.out (by kernel_rfl)) (fun _ _ _ h => h) (Or.inl ⟨by rfl, ?_⟩) hHeld ?_ ?_
    rotate_left
    · rintro w' ⟨s0, s1, s2, s3, s4, s5, s6, s7, s8⟩
      go_simp
      with_reducible rfl
    rotate_left
    · simp only [Act.put, sA_, sB_, sC_, i64_w, i32_w]
      rfl
    refine pure_ (i := 6) (N := some 33) (v := ?_) (a' := ?_) (tb_ 383 12) rfl rfl (any_of HT_.out (by kernel_rfl)) (fun _ _ _ h => h) (Or.inl ⟨by rfl, ?_⟩) ?_ ?_
    rotate_left
    · intro w'
      go_simp
      with_reducible rfl
    rotate_left
    · simp only [Act.put, sA_, sB_, sC_, i64_w, i32_w]
      rfl
    refine take_ (i := 7) (N := some 34) (v := ?_) (a' := ?_) (tf_ 9 12) rfl rfl (take_ofW HT_.out HW_.out (by kernel_rfl)) (fun _ _ _ h => h) (Or.inl ⟨by rfl, ?_⟩) hHeld ?_ ?_
    rotate_left
    · rintro w' ⟨s0, s1, s2, s3, s4, s5, s6, s7, s8⟩
      go_simp
      with_reducible rfl
    rotate_left
    · simp only [Act.put, sA_, sB_, sC_, i64_w, i32_w]
      rfl
    refine take_ (i := 9) (N := some 36) (v := ?_) (a' := ?_) (tf_ 10 12) rfl rfl (take_ofW HT_.out HW_.out (by kernel_rfl)) (fun _ _ _ h => h) (Or.inl ⟨by rfl, ?_⟩) hHeld ?_ ?_
    rotate_left
    · rintro w' ⟨s0, s1, s2, s3, s4, s5, s6, s7, s8⟩
      go_simp
      with_reducible rfl
    rotate_left
    · simp only [Act.put, sA_, sB_, sC_, i64_w, i32_w]
      rfl
    refine one_ (i := 10) (N := some 37) (tb_ 2047 12) rfl rfl (one_of HT_.out (by kernel_rfl)) (by decide) (fun K hK => ?_)
    refine goes_ Try.func18 (by kernel_rfl) rfl #[.agg #[.slice A0_0 l0_0.length c0_0, .slice (some ad258) l0_1.length c0_1], .int .i64 a1, .int .i64 a2, .int .u8 (rd l0_1 a2), .int .i64 a4_1] (by rfl) rfl rfl (by (try simp only [List.map_toArray, List.map_cons, List.map_nil]); first | done | rfl | (simp only [List.length_drop, List.length_take]; rfl)) ?_
    with_reducible refine (r3_Cells.calls kj5 _ _ l0_0 _ _ l0_1 a1 a2 (rd l0_1 a2) a4_1 t259 _ ?side1 ?side2 ?side3 ?side4 A17.out).mono ?_
    (case side1 => repeat (first | exact (Kd.zT HR0_0.out HB.out) | (with_reducible refine Kd.zQ ?_ _) | (with_reducible refine Kd.zR ?_ _) | (with_reducible refine Kd.zS ?_)))
    (case side2 => exact HC0_0.out)
    (case side3 => repeat (first | exact (Kd.zT HR0_1.out HB.out) | (with_reducible refine Kd.zQ ?_ _) | (with_reducible refine Kd.zR ?_ _) | (with_reducible refine Kd.zS ?_)))
    (case side4 => exact HC0_1.out)
    rintro e w25 ⟨rfl, hb⟩
    refine ⟨_, rfl, ?_⟩
    replace BK255 := zA.mk (zK (by (with_reducible repeat (first | refine zC ?_ _ | refine zD ?_ | refine zB ?_ _)); exact BK255.out) hb)
    replace BK256 := zA.mk (zK (by (with_reducible repeat (first | refine zC ?_ _ | refine zD ?_ | refine zB ?_ _)); exact BK256.out) hb)
    replace HB := zA.mk (zL (by repeat (first | (with_reducible first | exact HB.out | apply zJ | apply zF | apply zI | refine zE ?_ GE255.out | refine zE ?_ GE256.out) | exact HB.out)) hb)
    (try clear hb)
    (try clear hb2)
    (try clear hk)
    (try clear hi)
    refine hK.out _ _ ⟨(zG BK255.out 0).trans rfl, (zG BK255.out 1).trans rfl, (zG BK256.out 0).trans rfl, (zG BK256.out 1).trans rfl, (zG BK256.out 2).trans rfl, (zG BK256.out 3).trans rfl, (zG BK256.out 4).trans rfl, (zG BK256.out 5).trans rfl, ((HB.out.cell (World.block_lt_of_cell? w _ hw258_0)).trans hw258_0)⟩ (fun hHeld => ?_)
    clear hK K; refine norm_ (a' := ?_) ?_ ?_
    rotate_left
    · show Act.put _ (some 37) _ = _
      simp only [Act.put, sA_, sB_, sC_, i64_w, i32_w]; rfl
    refine pure_ (i := 11) (N := some 12) (v := ?_) (a' := ?_) (tb_ 4095 12) rfl rfl (any_of HT_.out (by kernel_rfl)) (fun _ _ _ h => h) (Or.inl ⟨by rfl, ?_⟩) ?_ ?_
    rotate_left
    · intro w'
      go_simp
      with_reducible rfl
    rotate_left
    · simp only [Act.put, sA_, sB_, sC_, i64_w, i32_w]
      rfl
    refine done_ (done_of HT_.out (by kernel_rfl)) ?_
    have hnb26 := NB256_255.out; have hnc26 := NB255_256.out; have hcz27_0 : w25.cell? ⟨gb256, 0, none⟩ = some (.int .i64 a4_0) := (zG BK256.out 0).trans rfl
    have hcz27_1 : w25.cell? ⟨gb256, 1, none⟩ = some (.int .i64 a4_1) := (zG BK256.out 1).trans rfl
    have hcz27_2 : w25.cell? ⟨gb256, 2, none⟩ = some (.int .u8 a4_2) := (zG BK256.out 2).trans rfl
    have hcz27_3 : w25.cell? ⟨gb256, 3, none⟩ = some (.int .i64 a4_3) := (zG BK256.out 3).trans rfl
    have hcz27_4 : w25.cell? ⟨gb256, 4, none⟩ = some (.int .i64 a4_4) := (zG BK256.out 4).trans rfl
    have hcz27_5 : w25.cell? ⟨gb256, 5, none⟩ = some (.float .f64 a4_5) := (zG BK256.out 5).trans rfl
    have hfz27_0 := zH BK256.out 0; have hfz27_1 := zH BK256.out 1; have hfz27_2 := zH BK256.out 2; have hfz27_3 := zH BK256.out 3; have hfz27_4 := zH BK256.out 4; have hfz27_5 := zH BK256.out 5; go_upto_if 43 with (fail)
    go_cut [13] (fun v13 wc => ∃ (kq : Nat) (x13_22 : Int), v13 = .int .i64 x13_22 ∧ zA (r3_Cost.j1 kq a1 a2 x13_22 l0_0 l0_1 a4_0 a4_1 a4_2 a4_3 a4_4 a4_5 = some (r1, r2)) ∧ zA (kq ≤ kj5) ∧ zA (wc.heap[gb255]? = some (.cells #[(.slice A0_0 l0_0.length c0_0), (.slice (some ad258) l0_1.length c0_1)] 31 (0, 0))) ∧ zA (wc.heap[gb256]? = some (.cells #[.int .i64 a4_0, .int .i64 a4_1, .int .u8 a4_2, .int .i64 a4_3, .int .i64 a4_4, .float .f64 a4_5] 35 (0, 0))) ∧ zA (Below w.heap.size w wc))
    case first =>
      have H := HC23.out; clear HC23; by_cases c28 : a3 = true
      · subst c28
        have H1 : (r3_Cost.j1 kj5 a1 a2 0 l0_0 l0_1 a4_0 a4_1 a4_2 a4_3 a4_4 a4_5) = some (r1, r2) := by rw [if_pos rfl] at H; exact H
        clear H; have H := H1; clear H1; have H' := zA.mk H
        clear H; go_wp2
        go_meet
        case rel => exact ⟨_, (0), (by first | rfl | (simp; done) | (simp [*]; done)), H', ⟨by have := HJ5.out; first | omega | exact Nat.le_refl _⟩, ⟨by (with_reducible repeat (first | refine zC ?_ _ | refine zD ?_ | refine zB ?_ _)); exact BK255.out⟩, ⟨by (with_reducible repeat (first | refine zC ?_ _ | refine zD ?_ | refine zB ?_ _)); exact BK256.out⟩, ⟨by repeat (first | (with_reducible first | exact HB.out | apply zJ | apply zF | apply zI | refine zE ?_ GE255.out | refine zE ?_ GE256.out) | exact HB.out)⟩⟩
      replace c28 := Bool.eq_false_iff.mpr c28; subst c28; have H1 : ((r3_Gaps.f kj5 l0_0 l0_1 a1 a2).bind fun t260 => ((r2_Of.f (wrap64 (a4_0 - t259)) t260).bind fun t261 => (if (FloatKind.f64.format.order t261 a4_5 == some .gt) = true then (some (0, false)) else ((r2_Badness.f kj5 t261).bind fun t262 => (r3_Cost.j1 kj5 a1 a2 t262 l0_0 l0_1 a4_0 a4_1 a4_2 a4_3 a4_4 a4_5))))) = some (r1, r2) := by rw [if_neg (show ¬ (false = true) by decide)] at H; exact H
      clear H; have H := H1; clear H1; replace H := Option.bind_eq_some_iff.mp H; obtain ⟨t260, A290, H⟩ := H; replace H : ((r2_Of.f (wrap64 (a4_0 - t259)) t260).bind fun t261 => (if (FloatKind.f64.format.order t261 a4_5 == some .gt) = true then (some (0, false)) else ((r2_Badness.f kj5 t261).bind fun t262 => (r3_Cost.j1 kj5 a1 a2 t262 l0_0 l0_1 a4_0 a4_1 a4_2 a4_3 a4_4 a4_5)))) = some (r1, r2) := H
      have A29 := zA.mk A290; clear A290; replace H := Option.bind_eq_some_iff.mp H; obtain ⟨t261, A300, H⟩ := H; replace H : (if (FloatKind.f64.format.order t261 a4_5 == some .gt) = true then (some (0, false)) else ((r2_Badness.f kj5 t261).bind fun t262 => (r3_Cost.j1 kj5 a1 a2 t262 l0_0 l0_1 a4_0 a4_1 a4_2 a4_3 a4_4 a4_5))) = some (r1, r2) := H
      have A30 := zA.mk A300; clear A300; by_cases c31 : (FloatKind.f64.format.order t261 a4_5 == some .gt) = true
      · rw [if_pos c31] at H
        have c31b0 : (FloatKind.f64.format.order t261 a4_5 == some .gt) = true := c31
        (try (have c31b1 : decide (FloatKind.f64.format.order t261 a4_5 = some .gt) = true := by simpa using c31))
        (try (have c31b2 : (FloatKind.f64.format.order t261 a4_5 == some .gt) = true := by simpa using c31))
        clear c31; (first | rw [c31b0] | (simp only [i64_w, i32_w]; rw [c31b0]) | skip)
        simp only [Option.some.injEq, Prod.mk.injEq] at H; obtain ⟨rfl, rfl⟩ := H; try go_wp2
        replace BK255 := zA.mk (zD BK255.out); replace BK256 := zA.mk (zD BK256.out); replace HB := zA.mk (zI HB.out); refine start_ (n := 10) (S := fun w' => w'.cell? ⟨gb256, 0, none⟩ = some (.int .i64 a4_0) ∧ w'.cell? ⟨gb256, 1, none⟩ = some (.int .i64 a4_1) ∧ w'.cell? ⟨gb256, 2, none⟩ = some (.int .u8 a4_2) ∧ w'.cell? ⟨gb256, 3, none⟩ = some (.int .i64 a4_3) ∧ w'.cell? ⟨gb256, 4, none⟩ = some (.int .i64 a4_4) ∧ w'.cell? ⟨gb256, 5, none⟩ = some (.float .f64 a4_5) ∧ w'.cell? ⟨gb255, 0, none⟩ = some (.slice A0_0 l0_0.length c0_0) ∧ w'.cell? ⟨gb255, 1, none⟩ = some (.slice (some ad258) l0_1.length c0_1)) (ds := []) #[false, false, false, false, false, false, false, false, false, false] (by kernel_rfl) rfl rfl ⟨(zG BK256.out 0).trans rfl, (zG BK256.out 1).trans rfl, (zG BK256.out 2).trans rfl, (zG BK256.out 3).trans rfl, (zG BK256.out 4).trans rfl, (zG BK256.out 5).trans rfl, (zG BK255.out 0).trans rfl, (zG BK255.out 1).trans rfl⟩ (fun hHeld => ?_); refine with_tabW r3_Cost.tab8 r3_Cost.bits8 (fun HT_ HW_ => ?_)
        generalize w25.drew = w32 at BK255 BK256 HB hHeld ⊢
        refine pure_ (i := 0) (N := some 44) (v := ?_) (a' := ?_) (tf_ 1 10) rfl rfl (any_of HT_.out (by kernel_rfl)) (fun _ _ _ h => h) (Or.inl ⟨by rfl, ?_⟩) ?_ ?_
        rotate_left
        · intro w'
          go_simp
          with_reducible rfl
        rotate_left
        · simp only [Act.put, sA_, sB_, sC_, i64_w, i32_w]
          rfl
        refine pure_ (i := 2) (N := some 46) (v := ?_) (a' := ?_) (tb_ 5 10) rfl rfl (any_of HT_.out (by kernel_rfl)) (fun _ _ _ h => h) (Or.inl ⟨by rfl, ?_⟩) ?_ ?_
        rotate_left
        · intro w'
          go_simp
          with_reducible rfl
        rotate_left
        · simp only [Act.put, sA_, sB_, sC_, i64_w, i32_w]
          rfl
        refine pure_ (i := 5) (N := some 49) (v := ?_) (a' := ?_) (tb_ 37 10) rfl rfl (any_of HT_.out (by kernel_rfl)) (fun _ _ _ h => h) (Or.inl ⟨by rfl, ?_⟩) ?_ ?_
        rotate_left
        · intro w'
          go_simp
          with_reducible rfl
        rotate_left
        · simp only [Act.put, sA_, sB_, sC_, i64_w, i32_w]
          rfl
        refine pure_ (i := 6) (N := some 50) (v := ?_) (a' := ?_) (tb_ 101 10) rfl rfl (any_of HT_.out (by kernel_rfl)) (fun _ _ _ h => h) (Or.inl ⟨by rfl, ?_⟩) ?_ ?_
        rotate_left
        · intro w'
          go_simp
          with_reducible rfl
        rotate_left
        · simp only [Act.put, sA_, sB_, sC_, i64_w, i32_w]
          rfl
        refine take_ (i := 1) (N := some 45) (v := ?_) (a' := ?_) (tb_ 103 10) rfl rfl (take_ofW HT_.out HW_.out (by kernel_rfl)) (fun _ _ _ h => h) (Or.inl ⟨by rfl, ?_⟩) hHeld ?_ ?_
        rotate_left
        · rintro w' ⟨s0, s1, s2, s3, s4, s5, s6, s7⟩
          go_simp
          with_reducible rfl
        rotate_left
        · simp only [Act.put, sA_, sB_, sC_, i64_w, i32_w]
          rfl
        refine pure_ (i := 3) (N := some 47) (v := ?_) (a' := ?_) (tb_ 111 10) rfl rfl (any_of HT_.out (by kernel_rfl)) (fun _ _ _ h => h) (Or.inl ⟨by rfl, ?_⟩) ?_ ?_
        rotate_left
        · intro w'
          go_simp
          with_reducible rfl
        rotate_left
        · simp only [Act.put, sA_, sB_, sC_, i64_w, i32_w]
          rfl
        refine take_ (i := 4) (N := some 48) (v := ?_) (a' := ?_) (tf_ 7 10) rfl rfl (take_ofW HT_.out HW_.out (by kernel_rfl)) (fun _ _ _ h => h) (Or.inl ⟨by rfl, ?_⟩) hHeld ?_ ?_
        rotate_left
        · rintro w' ⟨s0, s1, s2, s3, s4, s5, s6, s7⟩
          go_simp
          with_reducible rfl
        rotate_left
        · simp only [Act.put, sA_, sB_, sC_, i64_w, i32_w]
          rfl
        refine one_ (i := 7) (N := some 51) (tb_ 255 10) rfl rfl (one_of HT_.out (by kernel_rfl)) (by decide) (fun K hK => ?_)
        refine goes_ Try.func35 (by kernel_rfl) rfl #[.agg #[.slice A0_0 l0_0.length c0_0, .slice (some ad258) l0_1.length c0_1], .int .i64 a1, .int .i64 a2] (by rfl) rfl rfl (by (try simp only [List.map_toArray, List.map_cons, List.map_nil]); first | done | rfl | (simp only [List.length_drop, List.length_take]; rfl)) ?_
        with_reducible refine (r3_Gaps.calls kj5 _ _ l0_0 _ _ l0_1 a1 a2 t260 _ ?side1 ?side2 ?side3 ?side4 A29.out).mono ?_
        (case side1 => repeat (first | exact (Kd.zT HR0_0.out HB.out) | (with_reducible refine Kd.zQ ?_ _) | (with_reducible refine Kd.zR ?_ _) | (with_reducible refine Kd.zS ?_)))
        (case side2 => exact HC0_0.out)
        (case side3 => repeat (first | exact (Kd.zT HR0_1.out HB.out) | (with_reducible refine Kd.zQ ?_ _) | (with_reducible refine Kd.zR ?_ _) | (with_reducible refine Kd.zS ?_)))
        (case side4 => exact HC0_1.out)
        rintro e w33 ⟨rfl, hb⟩
        refine ⟨_, rfl, ?_⟩
        replace BK255 := zA.mk (zK (by (with_reducible repeat (first | refine zC ?_ _ | refine zD ?_ | refine zB ?_ _)); exact BK255.out) hb)
        replace BK256 := zA.mk (zK (by (with_reducible repeat (first | refine zC ?_ _ | refine zD ?_ | refine zB ?_ _)); exact BK256.out) hb)
        replace HB := zA.mk (zL (by repeat (first | (with_reducible first | exact HB.out | apply zJ | apply zF | apply zI | refine zE ?_ GE255.out | refine zE ?_ GE256.out) | exact HB.out)) hb)
        (try clear hb)
        (try clear hb2)
        (try clear hk)
        (try clear hi)
        refine hK.out _ _ ⟨(zG BK256.out 0).trans rfl, (zG BK256.out 1).trans rfl, (zG BK256.out 2).trans rfl, (zG BK256.out 3).trans rfl, (zG BK256.out 4).trans rfl, (zG BK256.out 5).trans rfl, (zG BK255.out 0).trans rfl, (zG BK255.out 1).trans rfl⟩ (fun hHeld => ?_)
        clear hK K; refine norm_ (a' := ?_) ?_ ?_
        rotate_left
        · show Act.put _ (some 51) _ = _
          simp only [Act.put, sA_, sB_, sC_, i64_w, i32_w]; rfl
        refine one_ (i := 8) (N := some 52) (tb_ 511 10) rfl rfl (one_of HT_.out (by kernel_rfl)) (by decide) (fun K hK => ?_)
        refine goes_ Try.func34 (by kernel_rfl) rfl #[.int .i64 (wrap64 (a4_0 - t259)), .int .i64 t260] (by rfl) rfl rfl (by (try simp only [List.map_toArray, List.map_cons, List.map_nil]); first | done | rfl | (simp only [List.length_drop, List.length_take]; rfl)) ?_
        with_reducible refine (r2_Of.calls (wrap64 (a4_0 - t259)) t260 t261 _ A30.out).mono ?_
        rintro e w' ⟨bt_t261, rfl, ⟨nd, rfl⟩, hfr_⟩; have HF_t261 := zA.mk hfr_; clear hfr_; have c31b0r : (FloatKind.f64.format.order bt_t261 a4_5 == some .gt) = true := (by first | (rw [HF_t261.out.order_l]; exact c31b0) | (rw [HF_t261.out.order_r]; exact c31b0)); have c31b1r : decide (FloatKind.f64.format.order bt_t261 a4_5 = some .gt) = true := (by first | (rw [HF_t261.out.order_l]; exact c31b1) | (rw [HF_t261.out.order_r]; exact c31b1)); have c31b2r : (FloatKind.f64.format.order bt_t261 a4_5 == some .gt) = true := (by first | (rw [HF_t261.out.order_l]; exact c31b2) | (rw [HF_t261.out.order_r]; exact c31b2))
        refine ⟨_, rfl, ?_⟩
        refine hK.out _ _ ⟨(zG BK256.out 0).trans rfl, (zG BK256.out 1).trans rfl, (zG BK256.out 2).trans rfl, (zG BK256.out 3).trans rfl, (zG BK256.out 4).trans rfl, (zG BK256.out 5).trans rfl, (zG BK255.out 0).trans rfl, (zG BK255.out 1).trans rfl⟩ (fun hHeld => ?_)
        clear hK K; refine norm_ (a' := ?_) ?_ ?_
        rotate_left
        · show Act.put _ (some 52) _ = _
          simp only [Act.put, sA_, sB_, sC_, i64_w, i32_w]; rfl
        refine pure_ (i := 9) (N := some 14) (v := ?_) (a' := ?_) (tb_ 1023 10) rfl rfl (any_of HT_.out (by kernel_rfl)) (fun _ _ _ h => h) (Or.inl ⟨by rfl, ?_⟩) ?_ ?_
        rotate_left
        · intro w'
          go_simp
          with_reducible rfl
        rotate_left
        · simp only [Act.put, sA_, sB_, sC_, i64_w, i32_w]
          rfl
        refine done_ (done_of HT_.out (by kernel_rfl)) ?_
        have hnb34 := NB256_255.out; have hnc34 := NB255_256.out; have hcz35_0 : w33.cell? ⟨gb256, 0, none⟩ = some (.int .i64 a4_0) := (zG BK256.out 0).trans rfl
        have hcz35_1 : w33.cell? ⟨gb256, 1, none⟩ = some (.int .i64 a4_1) := (zG BK256.out 1).trans rfl
        have hcz35_2 : w33.cell? ⟨gb256, 2, none⟩ = some (.int .u8 a4_2) := (zG BK256.out 2).trans rfl
        have hcz35_3 : w33.cell? ⟨gb256, 3, none⟩ = some (.int .i64 a4_3) := (zG BK256.out 3).trans rfl
        have hcz35_4 : w33.cell? ⟨gb256, 4, none⟩ = some (.int .i64 a4_4) := (zG BK256.out 4).trans rfl
        have hcz35_5 : w33.cell? ⟨gb256, 5, none⟩ = some (.float .f64 a4_5) := (zG BK256.out 5).trans rfl
        have hfz35_0 := zH BK256.out 0; have hfz35_1 := zH BK256.out 1; have hfz35_2 := zH BK256.out 2; have hfz35_3 := zH BK256.out 3; have hfz35_4 := zH BK256.out 4; have hfz35_5 := zH BK256.out 5; try go_wp2
        go_ret2
        exact ⟨by first | rfl | (simp [errW_none, errW_some] <;> rfl) | (simp [*, errW_none, errW_some] <;> rfl), by repeat (first | (with_reducible first | exact HB.out | apply zJ | apply zF | apply zI | refine zE ?_ GE255.out | refine zE ?_ GE256.out) | exact HB.out)⟩
      rw [if_neg c31] at H; have c31b0 : (FloatKind.f64.format.order t261 a4_5 == some .gt) = false := by simpa using c31
      (try (have c31b1 : decide (FloatKind.f64.format.order t261 a4_5 = some .gt) = false := by simpa using c31))
      (try (have c31b2 : (FloatKind.f64.format.order t261 a4_5 == some .gt) = false := by simpa using c31))
      (try (have c31b3 : ¬ (FloatKind.f64.format.order t261 a4_5 = some .gt) := by simpa using c31))
      clear c31; (first | rw [c31b0] | (simp only [i64_w, i32_w]; rw [c31b0]) | skip)
      replace H := Option.bind_eq_some_iff.mp H; obtain ⟨t262, A360, H⟩ := H; replace H : (r3_Cost.j1 kj5 a1 a2 t262 l0_0 l0_1 a4_0 a4_1 a4_2 a4_3 a4_4 a4_5) = some (r1, r2) := H; have A36 := zA.mk A360; clear A360; have H' := zA.mk H
      clear H; try go_wp2
      replace BK255 := zA.mk (zD BK255.out); replace BK256 := zA.mk (zD BK256.out); replace HB := zA.mk (zI HB.out); refine start_ (n := 10) (S := fun w' => w'.cell? ⟨gb256, 0, none⟩ = some (.int .i64 a4_0) ∧ w'.cell? ⟨gb256, 1, none⟩ = some (.int .i64 a4_1) ∧ w'.cell? ⟨gb256, 2, none⟩ = some (.int .u8 a4_2) ∧ w'.cell? ⟨gb256, 3, none⟩ = some (.int .i64 a4_3) ∧ w'.cell? ⟨gb256, 4, none⟩ = some (.int .i64 a4_4) ∧ w'.cell? ⟨gb256, 5, none⟩ = some (.float .f64 a4_5) ∧ w'.cell? ⟨gb255, 0, none⟩ = some (.slice A0_0 l0_0.length c0_0) ∧ w'.cell? ⟨gb255, 1, none⟩ = some (.slice (some ad258) l0_1.length c0_1)) (ds := []) #[false, false, false, false, false, false, false, false, false, false] (by kernel_rfl) rfl rfl ⟨(zG BK256.out 0).trans rfl, (zG BK256.out 1).trans rfl, (zG BK256.out 2).trans rfl, (zG BK256.out 3).trans rfl, (zG BK256.out 4).trans rfl, (zG BK256.out 5).trans rfl, (zG BK255.out 0).trans rfl, (zG BK255.out 1).trans rfl⟩ (fun hHeld => ?_); refine with_tabW r3_Cost.tab8 r3_Cost.bits8 (fun HT_ HW_ => ?_)
      generalize w25.drew = w37 at BK255 BK256 HB hHeld ⊢
      refine pure_ (i := 0) (N := some 44) (v := ?_) (a' := ?_) (tf_ 1 10) rfl rfl (any_of HT_.out (by kernel_rfl)) (fun _ _ _ h => h) (Or.inl ⟨by rfl, ?_⟩) ?_ ?_
      rotate_left
      · intro w'
        go_simp
        with_reducible rfl
      rotate_left
      · simp only [Act.put, sA_, sB_, sC_, i64_w, i32_w]
        rfl
      refine pure_ (i := 2) (N := some 46) (v := ?_) (a' := ?_) (tb_ 5 10) rfl rfl (any_of HT_.out (by kernel_rfl)) (fun _ _ _ h => h) (Or.inl ⟨by rfl, ?_⟩) ?_ ?_
      rotate_left
      · intro w'
        go_simp
        with_reducible rfl
      rotate_left
      · simp only [Act.put, sA_, sB_, sC_, i64_w, i32_w]
        rfl
      refine pure_ (i := 5) (N := some 49) (v := ?_) (a' := ?_) (tb_ 37 10) rfl rfl (any_of HT_.out (by kernel_rfl)) (fun _ _ _ h => h) (Or.inl ⟨by rfl, ?_⟩) ?_ ?_
      rotate_left
      · intro w'
        go_simp
        with_reducible rfl
      rotate_left
      · simp only [Act.put, sA_, sB_, sC_, i64_w, i32_w]
        rfl
      refine pure_ (i := 6) (N := some 50) (v := ?_) (a' := ?_) (tb_ 101 10) rfl rfl (any_of HT_.out (by kernel_rfl)) (fun _ _ _ h => h) (Or.inl ⟨by rfl, ?_⟩) ?_ ?_
      rotate_left
      · intro w'
        go_simp
        with_reducible rfl
      rotate_left
      · simp only [Act.put, sA_, sB_, sC_, i64_w, i32_w]
        rfl
      refine take_ (i := 1) (N := some 45) (v := ?_) (a' := ?_) (tb_ 103 10) rfl rfl (take_ofW HT_.out HW_.out (by kernel_rfl)) (fun _ _ _ h => h) (Or.inl ⟨by rfl, ?_⟩) hHeld ?_ ?_
      rotate_left
      · rintro w' ⟨s0, s1, s2, s3, s4, s5, s6, s7⟩
        go_simp
        with_reducible rfl
      rotate_left
      · simp only [Act.put, sA_, sB_, sC_, i64_w, i32_w]
        rfl
      refine pure_ (i := 3) (N := some 47) (v := ?_) (a' := ?_) (tb_ 111 10) rfl rfl (any_of HT_.out (by kernel_rfl)) (fun _ _ _ h => h) (Or.inl ⟨by rfl, ?_⟩) ?_ ?_
      rotate_left
      · intro w'
        go_simp
        with_reducible rfl
      rotate_left
      · simp only [Act.put, sA_, sB_, sC_, i64_w, i32_w]
        rfl
      refine take_ (i := 4) (N := some 48) (v := ?_) (a' := ?_) (tf_ 7 10) rfl rfl (take_ofW HT_.out HW_.out (by kernel_rfl)) (fun _ _ _ h => h) (Or.inl ⟨by rfl, ?_⟩) hHeld ?_ ?_
      rotate_left
      · rintro w' ⟨s0, s1, s2, s3, s4, s5, s6, s7⟩
        go_simp
        with_reducible rfl
      rotate_left
      · simp only [Act.put, sA_, sB_, sC_, i64_w, i32_w]
        rfl
      refine one_ (i := 7) (N := some 51) (tb_ 255 10) rfl rfl (one_of HT_.out (by kernel_rfl)) (by decide) (fun K hK => ?_)
      refine goes_ Try.func35 (by kernel_rfl) rfl #[.agg #[.slice A0_0 l0_0.length c0_0, .slice (some ad258) l0_1.length c0_1], .int .i64 a1, .int .i64 a2] (by rfl) rfl rfl (by (try simp only [List.map_toArray, List.map_cons, List.map_nil]); first | done | rfl | (simp only [List.length_drop, List.length_take]; rfl)) ?_
      with_reducible refine (r3_Gaps.calls kj5 _ _ l0_0 _ _ l0_1 a1 a2 t260 _ ?side1 ?side2 ?side3 ?side4 A29.out).mono ?_
      (case side1 => repeat (first | exact (Kd.zT HR0_0.out HB.out) | (with_reducible refine Kd.zQ ?_ _) | (with_reducible refine Kd.zR ?_ _) | (with_reducible refine Kd.zS ?_)))
      (case side2 => exact HC0_0.out)
      (case side3 => repeat (first | exact (Kd.zT HR0_1.out HB.out) | (with_reducible refine Kd.zQ ?_ _) | (with_reducible refine Kd.zR ?_ _) | (with_reducible refine Kd.zS ?_)))
      (case side4 => exact HC0_1.out)
      rintro e w38 ⟨rfl, hb⟩
      refine ⟨_, rfl, ?_⟩
      replace BK255 := zA.mk (zK (by (with_reducible repeat (first | refine zC ?_ _ | refine zD ?_ | refine zB ?_ _)); exact BK255.out) hb)
      replace BK256 := zA.mk (zK (by (with_reducible repeat (first | refine zC ?_ _ | refine zD ?_ | refine zB ?_ _)); exact BK256.out) hb)
      replace HB := zA.mk (zL (by repeat (first | (with_reducible first | exact HB.out | apply zJ | apply zF | apply zI | refine zE ?_ GE255.out | refine zE ?_ GE256.out) | exact HB.out)) hb)
      (try clear hb)
      (try clear hb2)
      (try clear hk)
      (try clear hi)
      refine hK.out _ _ ⟨(zG BK256.out 0).trans rfl, (zG BK256.out 1).trans rfl, (zG BK256.out 2).trans rfl, (zG BK256.out 3).trans rfl, (zG BK256.out 4).trans rfl, (zG BK256.out 5).trans rfl, (zG BK255.out 0).trans rfl, (zG BK255.out 1).trans rfl⟩ (fun hHeld => ?_)
      clear hK K; refine norm_ (a' := ?_) ?_ ?_
      rotate_left
      · show Act.put _ (some 51) _ = _
        simp only [Act.put, sA_, sB_, sC_, i64_w, i32_w]; rfl
      refine one_ (i := 8) (N := some 52) (tb_ 511 10) rfl rfl (one_of HT_.out (by kernel_rfl)) (by decide) (fun K hK => ?_)
      refine goes_ Try.func34 (by kernel_rfl) rfl #[.int .i64 (wrap64 (a4_0 - t259)), .int .i64 t260] (by rfl) rfl rfl (by (try simp only [List.map_toArray, List.map_cons, List.map_nil]); first | done | rfl | (simp only [List.length_drop, List.length_take]; rfl)) ?_
      with_reducible refine (r2_Of.calls (wrap64 (a4_0 - t259)) t260 t261 _ A30.out).mono ?_
      rintro e w' ⟨bt_t261, rfl, ⟨nd, rfl⟩, hfr_⟩; have HF_t261 := zA.mk hfr_; clear hfr_; have c31b0r : (FloatKind.f64.format.order bt_t261 a4_5 == some .gt) = false := (by first | (rw [HF_t261.out.order_l]; exact c31b0) | (rw [HF_t261.out.order_r]; exact c31b0)); have c31b1r : decide (FloatKind.f64.format.order bt_t261 a4_5 = some .gt) = false := (by first | (rw [HF_t261.out.order_l]; exact c31b1) | (rw [HF_t261.out.order_r]; exact c31b1)); have c31b2r : (FloatKind.f64.format.order bt_t261 a4_5 == some .gt) = false := (by first | (rw [HF_t261.out.order_l]; exact c31b2) | (rw [HF_t261.out.order_r]; exact c31b2)); have c31b3r : ¬ (FloatKind.f64.format.order bt_t261 a4_5 = some .gt) := (by first | (rw [HF_t261.out.order_l]; exact c31b3) | (rw [HF_t261.out.order_r]; exact c31b3))
      refine ⟨_, rfl, ?_⟩
      refine hK.out _ _ ⟨(zG BK256.out 0).trans rfl, (zG BK256.out 1).trans rfl, (zG BK256.out 2).trans rfl, (zG BK256.out 3).trans rfl, (zG BK256.out 4).trans rfl, (zG BK256.out 5).trans rfl, (zG BK255.out 0).trans rfl, (zG BK255.out 1).trans rfl⟩ (fun hHeld => ?_)
      clear hK K; refine norm_ (a' := ?_) ?_ ?_
      rotate_left
      · show Act.put _ (some 52) _ = _
        simp only [Act.put, sA_, sB_, sC_, i64_w, i32_w]; rfl
      refine pure_ (i := 9) (N := some 14) (v := ?_) (a' := ?_) (tb_ 1023 10) rfl rfl (any_of HT_.out (by kernel_rfl)) (fun _ _ _ h => h) (Or.inl ⟨by rfl, ?_⟩) ?_ ?_
      rotate_left
      · intro w'
        go_simp
        with_reducible rfl
      rotate_left
      · simp only [Act.put, sA_, sB_, sC_, i64_w, i32_w]
        rfl
      refine done_ (done_of HT_.out (by kernel_rfl)) ?_
      have hnb39 := NB256_255.out; have hnc39 := NB255_256.out; have hcz40_0 : w38.cell? ⟨gb256, 0, none⟩ = some (.int .i64 a4_0) := (zG BK256.out 0).trans rfl
      have hcz40_1 : w38.cell? ⟨gb256, 1, none⟩ = some (.int .i64 a4_1) := (zG BK256.out 1).trans rfl
      have hcz40_2 : w38.cell? ⟨gb256, 2, none⟩ = some (.int .u8 a4_2) := (zG BK256.out 2).trans rfl
      have hcz40_3 : w38.cell? ⟨gb256, 3, none⟩ = some (.int .i64 a4_3) := (zG BK256.out 3).trans rfl
      have hcz40_4 : w38.cell? ⟨gb256, 4, none⟩ = some (.int .i64 a4_4) := (zG BK256.out 4).trans rfl
      have hcz40_5 : w38.cell? ⟨gb256, 5, none⟩ = some (.float .f64 a4_5) := (zG BK256.out 5).trans rfl
      have hfz40_0 := zH BK256.out 0; have hfz40_1 := zH BK256.out 1; have hfz40_2 := zH BK256.out 2; have hfz40_3 := zH BK256.out 3; have hfz40_4 := zH BK256.out 4; have hfz40_5 := zH BK256.out 5; try go_wp2_with (first | ((with_reducible refine gate_callee (f := 36) rfl ?_); refine goesL_ (some 58) rfl rfl Try.func36 (by kernel_rfl) rfl #[.float .f64 bt_t261] rfl (by (try simp only [List.map_toArray, List.map_cons, List.map_nil]); first | done | rfl | (simp only [List.length_drop, List.length_take]; rfl)) ?_; (with_reducible refine (r2_Badness.calls kj5 t261 t262 _ A36.out).mono ?_); rintro e w' ⟨rfl, ⟨nd, rfl⟩⟩; refine ⟨_, rfl, ?_⟩))
      go_meet
      case rel => exact ⟨_, (t262), (by first | rfl | (simp; done) | (simp [*]; done)), H', ⟨by have := HJ5.out; first | omega | exact Nat.le_refl _⟩, ⟨by (with_reducible repeat (first | refine zC ?_ _ | refine zD ?_ | refine zB ?_ _)); exact BK255.out⟩, ⟨by (with_reducible repeat (first | refine zC ?_ _ | refine zD ?_ | refine zB ?_ _)); exact BK256.out⟩, ⟨by repeat (first | (with_reducible first | exact HB.out | apply zJ | apply zF | apply zI | refine zE ?_ GE255.out | refine zE ?_ GE256.out) | exact HB.out)⟩⟩
    clear HC23; obtain ⟨kq, x13_22, rfl, HA, HJ22, BK255, BK256, HB⟩ := hcut; cases kq with
    | zero => exact absurd HA.out (by simp [r3_Cost.j1])
    | succ kj22 =>
      have H := HA.out; clear HA; simp only [r3_Cost.j1] at H; by_cases c41 : 0 ≤ a2
      rotate_left
      · rw [if_neg c41] at H
        exact absurd H (by simp)
      rw [if_pos c41] at H; have c41b0 : decide (0 ≤ a2) = true := decide_eq_true c41
      clear c41; by_cases c42 : a2 < (l0_1.length : Int)
      rotate_left
      · rw [if_neg c42] at H
        exact absurd H (by simp)
      rw [if_pos c42] at H; have c42b0 : decide (a2 < (l0_1.length : Int)) = true := decide_eq_true c42
      clear c42; by_cases c43 : (rd l0_1 a2) = 3
      rotate_left
      · rw [if_neg c43] at H
        have c43b0 : ((rd l0_1 a2) == 3) = false := beq_eq_false_iff_ne.mpr c43
        have c43b1 : ((rd l0_1 a2) != 3) = true := bne_iff_ne.mpr c43
        simp only [Option.some.injEq, Prod.mk.injEq] at H; obtain ⟨rfl, rfl⟩ := H; have hnb53 := NB255_256.out; have hnc53 := NB256_255.out; have hcz54_0 : wc.cell? ⟨gb255, 0, none⟩ = some (.slice A0_0 l0_0.length c0_0) := (zG BK255.out 0).trans rfl
        have hcz54_1 : wc.cell? ⟨gb255, 1, none⟩ = some (.slice (some ad258) l0_1.length c0_1) := (zG BK255.out 1).trans rfl
        have hfz54_0 := zH BK255.out 0; have hfz54_1 := zH BK255.out 1; have p263 : 0 ≤ (a2 : Int) := of_decide_eq_true (by first | (with_reducible assumption) | assumption)
        have q263 : a2 < (l0_1.length : Int) := of_decide_eq_true (by first | (with_reducible assumption) | assumption)
        obtain ⟨ad263, e263, hx263_0⟩ := Kd.at_int HR0_1.out a2 p263 q263; obtain rfl : ad258 = ad263 := (by injection e263)
        replace hx263_0 := (HB.out.cell (World.block_lt_of_cell? w _ hx263_0)).trans hx263_0; replace p263 := eq_true p263; replace q263 := eq_true q263; go_wp2
        go_ret2
        exact ⟨by first | rfl | (simp [errW_none, errW_some] <;> rfl) | (simp [*, errW_none, errW_some] <;> rfl), by repeat (first | (with_reducible first | exact HB.out | apply zJ | apply zF | apply zI | refine zE ?_ GE255.out | refine zE ?_ GE256.out) | exact HB.out)⟩
      rw [if_pos c43] at H; have c43b0 : ((rd l0_1 a2) == 3) = true := beq_iff_eq.mpr c43
      have c43b1 : ((rd l0_1 a2) != 3) = false := bne_eq_false_iff_eq.mpr c43
      clear c43; by_cases c44 : 0 ≤ a1
      rotate_left
      · rw [if_neg c44] at H
        exact absurd H (by simp)
      rw [if_pos c44] at H; have c44b0 : decide (0 ≤ a1) = true := decide_eq_true c44
      clear c44; by_cases c45 : a1 < (l0_1.length : Int)
      rotate_left
      · rw [if_neg c45] at H
        exact absurd H (by simp)
      rw [if_pos c45] at H; have c45b0 : decide (a1 < (l0_1.length : Int)) = true := decide_eq_true c45
      clear c45; by_cases c46 : (rd l0_1 a1) = 3
      · rw [if_pos c46] at H
        have c46b0 : ((rd l0_1 a1) == 3) = true := beq_iff_eq.mpr c46
        have c46b1 : ((rd l0_1 a1) != 3) = false := bne_eq_false_iff_eq.mpr c46
        clear c46; simp only [Option.some.injEq, Prod.mk.injEq] at H; obtain ⟨rfl, rfl⟩ := H; have hnb47 := NB255_256.out; have hnc47 := NB256_255.out; have hcz48_0 : wc.cell? ⟨gb255, 0, none⟩ = some (.slice A0_0 l0_0.length c0_0) := (zG BK255.out 0).trans rfl
        have hcz48_1 : wc.cell? ⟨gb255, 1, none⟩ = some (.slice (some ad258) l0_1.length c0_1) := (zG BK255.out 1).trans rfl
        have hfz48_0 := zH BK255.out 0; have hfz48_1 := zH BK255.out 1; have p263 : 0 ≤ (a2 : Int) := of_decide_eq_true (by first | (with_reducible assumption) | assumption)
        have q263 : a2 < (l0_1.length : Int) := of_decide_eq_true (by first | (with_reducible assumption) | assumption)
        obtain ⟨ad263, e263, hx263_0⟩ := Kd.at_int HR0_1.out a2 p263 q263; obtain rfl : ad258 = ad263 := (by injection e263)
        replace hx263_0 := (HB.out.cell (World.block_lt_of_cell? w _ hx263_0)).trans hx263_0; replace p263 := eq_true p263; replace q263 := eq_true q263; have hcz49_0 : wc.cell? ⟨gb256, 0, none⟩ = some (.int .i64 a4_0) := (zG BK256.out 0).trans rfl
        have hcz49_1 : wc.cell? ⟨gb256, 1, none⟩ = some (.int .i64 a4_1) := (zG BK256.out 1).trans rfl
        have hcz49_2 : wc.cell? ⟨gb256, 2, none⟩ = some (.int .u8 a4_2) := (zG BK256.out 2).trans rfl
        have hcz49_3 : wc.cell? ⟨gb256, 3, none⟩ = some (.int .i64 a4_3) := (zG BK256.out 3).trans rfl
        have hcz49_4 : wc.cell? ⟨gb256, 4, none⟩ = some (.int .i64 a4_4) := (zG BK256.out 4).trans rfl
        have hcz49_5 : wc.cell? ⟨gb256, 5, none⟩ = some (.float .f64 a4_5) := (zG BK256.out 5).trans rfl
        have hfz49_0 := zH BK256.out 0; have hfz49_1 := zH BK256.out 1; have hfz49_2 := zH BK256.out 2; have hfz49_3 := zH BK256.out 3; have hfz49_4 := zH BK256.out 4; have hfz49_5 := zH BK256.out 5; have p264 : 0 ≤ (a1 : Int) := of_decide_eq_true (by first | (with_reducible assumption) | assumption)
        have q264 : a1 < (l0_1.length : Int) := of_decide_eq_true (by first | (with_reducible assumption) | assumption)
        obtain ⟨ad264, e264, hx264_0⟩ := Kd.at_int HR0_1.out a1 p264 q264; obtain rfl : ad258 = ad264 := (by injection e264)
        replace hx264_0 := (HB.out.cell (World.block_lt_of_cell? w _ hx264_0)).trans hx264_0; replace p264 := eq_true p264; replace q264 := eq_true q264; go_wp2
        go_ret2
        exact ⟨by first | rfl | (simp [errW_none, errW_some] <;> rfl) | (simp [*, errW_none, errW_some] <;> rfl), by repeat (first | (with_reducible first | exact HB.out | apply zJ | apply zF | apply zI | refine zE ?_ GE255.out | refine zE ?_ GE256.out) | exact HB.out)⟩
      rw [if_neg c46] at H; have c46b0 : ((rd l0_1 a1) == 3) = false := beq_eq_false_iff_ne.mpr c46
      have c46b1 : ((rd l0_1 a1) != 3) = true := bne_iff_ne.mpr c46
      simp only [Option.some.injEq, Prod.mk.injEq] at H; obtain ⟨rfl, rfl⟩ := H; have hnb50 := NB255_256.out; have hnc50 := NB256_255.out; have hcz51_0 : wc.cell? ⟨gb255, 0, none⟩ = some (.slice A0_0 l0_0.length c0_0) := (zG BK255.out 0).trans rfl
      have hcz51_1 : wc.cell? ⟨gb255, 1, none⟩ = some (.slice (some ad258) l0_1.length c0_1) := (zG BK255.out 1).trans rfl
      have hfz51_0 := zH BK255.out 0; have hfz51_1 := zH BK255.out 1; have p263 : 0 ≤ (a2 : Int) := of_decide_eq_true (by first | (with_reducible assumption) | assumption)
      have q263 : a2 < (l0_1.length : Int) := of_decide_eq_true (by first | (with_reducible assumption) | assumption)
      obtain ⟨ad263, e263, hx263_0⟩ := Kd.at_int HR0_1.out a2 p263 q263; obtain rfl : ad258 = ad263 := (by injection e263)
      replace hx263_0 := (HB.out.cell (World.block_lt_of_cell? w _ hx263_0)).trans hx263_0; replace p263 := eq_true p263; replace q263 := eq_true q263; have hcz52_0 : wc.cell? ⟨gb256, 0, none⟩ = some (.int .i64 a4_0) := (zG BK256.out 0).trans rfl
      have hcz52_1 : wc.cell? ⟨gb256, 1, none⟩ = some (.int .i64 a4_1) := (zG BK256.out 1).trans rfl
      have hcz52_2 : wc.cell? ⟨gb256, 2, none⟩ = some (.int .u8 a4_2) := (zG BK256.out 2).trans rfl
      have hcz52_3 : wc.cell? ⟨gb256, 3, none⟩ = some (.int .i64 a4_3) := (zG BK256.out 3).trans rfl
      have hcz52_4 : wc.cell? ⟨gb256, 4, none⟩ = some (.int .i64 a4_4) := (zG BK256.out 4).trans rfl
      have hcz52_5 : wc.cell? ⟨gb256, 5, none⟩ = some (.float .f64 a4_5) := (zG BK256.out 5).trans rfl
      have hfz52_0 := zH BK256.out 0; have hfz52_1 := zH BK256.out 1; have hfz52_2 := zH BK256.out 2; have hfz52_3 := zH BK256.out 3; have hfz52_4 := zH BK256.out 4; have hfz52_5 := zH BK256.out 5; have p264 : 0 ≤ (a1 : Int) := of_decide_eq_true (by first | (with_reducible assumption) | assumption)
      have q264 : a1 < (l0_1.length : Int) := of_decide_eq_true (by first | (with_reducible assumption) | assumption)
      obtain ⟨ad264, e264, hx264_0⟩ := Kd.at_int HR0_1.out a1 p264 q264; obtain rfl : ad258 = ad264 := (by injection e264)
      replace hx264_0 := (HB.out.cell (World.block_lt_of_cell? w _ hx264_0)).trans hx264_0; replace p264 := eq_true p264; replace q264 := eq_true q264; go_wp2
      go_ret2
      exact ⟨by first | rfl | (simp [errW_none, errW_some] <;> rfl) | (simp [*, errW_none, errW_some] <;> rfl), by repeat (first | (with_reducible first | exact HB.out | apply zJ | apply zF | apply zI | refine zE ?_ GE255.out | refine zE ?_ GE256.out) | exact HB.out)⟩
mutual
def r3_before.l0 : Nat → List Int → List Int → Int → Option (Bool)
  | 0, _, _, _ => none
  | k + 1, x0, x1, x5 => if x5 < (x0.length : Int) then (r3_before.j1 k x0 x1 x5 (decide (x5 < (x1.length : Int)))) else (r3_before.j1 k x0 x1 x5 false)
def r3_before.j1 : Nat → List Int → List Int → Int → Bool → Option (Bool)
  | 0, _, _, _, _ => none
  | k + 1, x0, x1, x5, x15 => if x15 = true then (if 0 ≤ x5 then (if x5 < (x0.length : Int) then (if x5 < (x1.length : Int) then (if (rd x0 x5) = (rd x1 x5) then (r3_before.l0 k x0 x1 (wrap64 (x5 + 1))) else (some (decide ((rd x0 x5) < (rd x1 x5))))) else (none)) else (none)) else (none)) else (some (decide ((x0.length : Int) < (x1.length : Int))))
end
def r3_before.f (k : Nat) (l0 : List Int) (l1 : List Int) : Option (Bool) := r3_before.l0 k l0 l1 0
theorem r3_before.mono_l : ∀ k, (∀ y0 y1 y2, LeO (r3_before.l0 k y0 y1 y2) (r3_before.l0 (k + 1) y0 y1 y2)) ∧ (∀ y0 y1 y2 y3, LeO (r3_before.j1 k y0 y1 y2 y3) (r3_before.j1 (k + 1) y0 y1 y2 y3))
  | 0 => ⟨fun _ _ _ r h => by simp [r3_before.l0] at h, fun _ _ _ _ r h => by simp [r3_before.j1] at h⟩
  | k + 1 => by
    obtain ⟨ih0, ih1⟩ := r3_before.mono_l k; refine ⟨?_, ?_⟩
    · intro y0 y1 y2
      unfold r3_before.l0
      repeat' (with_reducible first | exact ih0 _ _ _ | exact ih1 _ _ _ _ | exact LeO.refl _ | exact LeO.none _ | refine LeO.ite ?_ ?_ | refine LeO.bind ?_ (fun _ => ?_))
    · intro y0 y1 y2 y3
      unfold r3_before.j1
      repeat' (with_reducible first | exact ih0 _ _ _ | exact ih1 _ _ _ _ | exact LeO.refl _ | exact LeO.none _ | refine LeO.ite ?_ ?_ | refine LeO.bind ?_ (fun _ => ?_))
theorem r3_before.mono : ∀ a0 a1 k, LeO (r3_before.f k a0 a1) (r3_before.f (k + 1) a0 a1) := by
  intro a0 a1 k
  obtain ⟨ih0, ih1⟩ := r3_before.mono_l k; unfold r3_before.f
  repeat' (with_reducible first | exact ih0 _ _ _ | exact ih1 _ _ _ _ | exact LeO.refl _ | exact LeO.none _ | refine LeO.ite ?_ ?_ | refine LeO.bind ?_ (fun _ => ?_))
set_option maxHeartbeats 8000000 in
set_option maxRecDepth 100000 in
theorem r3_before.calls (k : Nat) (A0 : Option Addr) (c0 : Nat) (l0 : List Int) (A1 : Option Addr) (c1 : Nat) (l1 : List Int) (r : Bool) (w : World) (hr0 : Kd.C (Kd.int .i64) w A0 l0.length l0) (hc0 : l0.length ≤ c0) (hr1 : Kd.C (Kd.int .i64) w A1 l1.length l1) (hc1 : l1.length ≤ c1) (h : r3_before.f k l0 l1 = some r) :
    Calls Try.prog 26 #[.slice A0 l0.length c0, .slice A1 l1.length c1] w fun e w' => e = .returned (.bool r) ∧ Drawn0 w w' := by
  have HR0 := zA.mk hr0; have HC0 := zA.mk hc0; clear hr0 hc0; have HR1 := zA.mk hr1; have HC1 := zA.mk hc1; clear hr1 hc1; have H : (r3_before.l0 k l0 l1 0) = some r := h
  clear h; have H' := zA.mk H
  clear H; go_enter Try.func26, Try.ntmps26
  go_wp2
  repeat (go_quiet (fail); try go_wp2)
  go_loopg [5] k (fun kq v5 w' => ∃ (x5_1 : Int), v5 = .int .i64 x5_1 ∧ zA (r3_before.l0 kq l0 l1 x5_1 = some r) ∧ zA (kq ≤ k) ∧ Drawn0 w w')
  case atStart => exact ⟨(0), (by first | rfl | (simp; done) | (simp [*]; done)), H', ⟨Nat.le_refl _⟩, by repeat (first | exact Drawn0.refl _ | apply Drawn0.step)⟩
  clear H'; obtain ⟨x5_1, rfl, HA, HK1, ⟨m1, rfl⟩⟩ := hrel; cases gk with
  | zero => exact absurd HA.out (by simp [r3_before.l0])
  | succ k1 =>
    have H := HA.out; clear HA; simp only [r3_before.l0] at H; have HC3 := zA.mk H; clear H; go_upto_region 2 with (fail)
    repeat (go_quiet (fail); go_upto_region 2 with (fail))
    go_cut [15] (fun v15 wc => ∃ (kq : Nat) (x15_2 : Bool), v15 = .bool x15_2 ∧ zA (r3_before.j1 kq l0 l1 x5_1 x15_2 = some r) ∧ zA (kq ≤ k1) ∧ Drawn0 w wc)
    case first =>
      have H := HC3.out; clear HC3; by_cases c4 : x5_1 < (l0.length : Int)
      · rw [if_pos c4] at H
        have c4b0 : decide (x5_1 < (l0.length : Int)) = true := decide_eq_true c4
        clear c4; (first | rw [c4b0] | (simp only [i64_w, i32_w]; rw [c4b0]) | skip)
        have H' := zA.mk H
        clear H; go_wp2
        repeat (go_quiet (fail); try go_wp2)
        go_meet
        case rel => exact ⟨_, (decide (x5_1 < (l1.length : Int))), (by first | rfl | (simp; done) | (simp [*]; done)), H', ⟨by have := HK1.out; first | omega | exact Nat.le_refl _⟩, by repeat (first | exact Drawn0.refl _ | apply Drawn0.step)⟩
      rw [if_neg c4] at H; have c4b0 : decide (x5_1 < (l0.length : Int)) = false := decide_eq_false c4
      clear c4; (first | rw [c4b0] | (simp only [i64_w, i32_w]; rw [c4b0]) | skip)
      have H' := zA.mk H
      clear H; go_wp2
      repeat (go_quiet (fail); try go_wp2)
      go_meet
      case rel => exact ⟨_, (false), (by first | rfl | (simp; done) | (simp [*]; done)), H', ⟨by have := HK1.out; first | omega | exact Nat.le_refl _⟩, by repeat (first | exact Drawn0.refl _ | apply Drawn0.step)⟩
    clear HC3; obtain ⟨kq, x15_2, rfl, HA, HJ2, ⟨mc2, rfl⟩⟩ := hcut; cases kq with
    | zero => exact absurd HA.out (by simp [r3_before.j1])
    | succ kj2 =>
      have H := HA.out; clear HA; simp only [r3_before.j1] at H; by_cases c5 : x15_2 = true
      rotate_left
      · replace c5 := Bool.eq_false_iff.mpr c5
        subst c5; have H1 : (some (decide ((l0.length : Int) < (l1.length : Int)))) = some r := by rw [if_neg (show ¬ (false = true) by decide)] at H; exact H
        clear H; have H := H1; clear H1; obtain rfl := Option.some.inj H
        go_wp2
        repeat (go_quiet (fail); try go_wp2)
        go_ret
        exact ⟨by first | rfl | (simp; done) | (simp [*]; done), by repeat (first | exact Drawn0.refl _ | apply Drawn0.step)⟩
      subst c5; have H1 : (if 0 ≤ x5_1 then (if x5_1 < (l0.length : Int) then (if x5_1 < (l1.length : Int) then (if (rd l0 x5_1) = (rd l1 x5_1) then (r3_before.l0 kj2 l0 l1 (wrap64 (x5_1 + 1))) else (some (decide ((rd l0 x5_1) < (rd l1 x5_1))))) else (none)) else (none)) else (none)) = some r := by rw [if_pos rfl] at H; exact H
      clear H; have H := H1; clear H1; by_cases c6 : 0 ≤ x5_1
      rotate_left
      · rw [if_neg c6] at H
        exact absurd H (by simp)
      rw [if_pos c6] at H; have c6b0 : decide (0 ≤ x5_1) = true := decide_eq_true c6
      clear c6; by_cases c7 : x5_1 < (l0.length : Int)
      rotate_left
      · rw [if_neg c7] at H
        exact absurd H (by simp)
      rw [if_pos c7] at H; have c7b0 : decide (x5_1 < (l0.length : Int)) = true := decide_eq_true c7
      clear c7; by_cases c8 : x5_1 < (l1.length : Int)
      rotate_left
      · rw [if_neg c8] at H
        exact absurd H (by simp)
      rw [if_pos c8] at H; have c8b0 : decide (x5_1 < (l1.length : Int)) = true := decide_eq_true c8
      clear c8; by_cases c9 : (rd l0 x5_1) = (rd l1 x5_1)
      · rw [if_pos c9] at H
        have c9b0 : ((rd l0 x5_1) == (rd l1 x5_1)) = true := beq_iff_eq.mpr c9
        have c9b1 : ((rd l0 x5_1) != (rd l1 x5_1)) = false := bne_eq_false_iff_eq.mpr c9
        clear c9; have H' := zA.mk H
        clear H; have p265 : 0 ≤ (x5_1 : Int) := of_decide_eq_true (by first | (with_reducible assumption) | assumption)
        have q265 : x5_1 < (l0.length : Int) := of_decide_eq_true (by first | (with_reducible assumption) | assumption)
        obtain ⟨ad265, e265, hx265_0⟩ := Kd.at_int HR0.out x5_1 p265 q265; cases e265
        replace p265 := eq_true p265; replace q265 := eq_true q265; have p266 : 0 ≤ (x5_1 : Int) := of_decide_eq_true (by first | (with_reducible assumption) | assumption)
        have q266 : x5_1 < (l1.length : Int) := of_decide_eq_true (by first | (with_reducible assumption) | assumption)
        obtain ⟨ad266, e266, hx266_0⟩ := Kd.at_int HR1.out x5_1 p266 q266; cases e266
        replace p266 := eq_true p266; replace q266 := eq_true q266; go_wp2
        repeat (go_quiet (fail); try go_wp2)
        go_roundg kj2
        case measure => have := HK1.out; have := HJ2.out; omega
        case rel => exact ⟨(wrap64 (x5_1 + 1)), (by first | rfl | (simp; done) | (simp [*]; done)), H', ⟨by have := HK1.out; have := HJ2.out; omega⟩, by repeat (first | exact Drawn0.refl _ | apply Drawn0.step)⟩
      rw [if_neg c9] at H; have c9b0 : ((rd l0 x5_1) == (rd l1 x5_1)) = false := beq_eq_false_iff_ne.mpr c9
      have c9b1 : ((rd l0 x5_1) != (rd l1 x5_1)) = true := bne_iff_ne.mpr c9
      obtain rfl := Option.some.inj H
      have p265 : 0 ≤ (x5_1 : Int) := of_decide_eq_true (by first | (with_reducible assumption) | assumption)
      have q265 : x5_1 < (l0.length : Int) := of_decide_eq_true (by first | (with_reducible assumption) | assumption)
      obtain ⟨ad265, e265, hx265_0⟩ := Kd.at_int HR0.out x5_1 p265 q265; cases e265
      replace p265 := eq_true p265; replace q265 := eq_true q265; have p266 : 0 ≤ (x5_1 : Int) := of_decide_eq_true (by first | (with_reducible assumption) | assumption)
      have q266 : x5_1 < (l1.length : Int) := of_decide_eq_true (by first | (with_reducible assumption) | assumption)
      obtain ⟨ad266, e266, hx266_0⟩ := Kd.at_int HR1.out x5_1 p266 q266; cases e266
      replace p266 := eq_true p266; replace q266 := eq_true q266; have p267 : 0 ≤ (x5_1 : Int) := of_decide_eq_true (by first | (with_reducible assumption) | assumption)
      have q267 : x5_1 < (l0.length : Int) := of_decide_eq_true (by first | (with_reducible assumption) | assumption)
      obtain ⟨ad267, e267, hx267_0⟩ := Kd.at_int HR0.out x5_1 p267 q267; obtain rfl : ad265 = ad267 := (by injection e267)
      replace p267 := eq_true p267; replace q267 := eq_true q267; have p268 : 0 ≤ (x5_1 : Int) := of_decide_eq_true (by first | (with_reducible assumption) | assumption)
      have q268 : x5_1 < (l1.length : Int) := of_decide_eq_true (by first | (with_reducible assumption) | assumption)
      obtain ⟨ad268, e268, hx268_0⟩ := Kd.at_int HR1.out x5_1 p268 q268; obtain rfl : ad266 = ad268 := (by injection e268)
      replace p268 := eq_true p268; replace q268 := eq_true q268; go_wp2
      repeat (go_quiet (fail); try go_wp2)
      go_ret
      exact ⟨by first | rfl | (simp; done) | (simp [*]; done), by repeat (first | exact Drawn0.refl _ | apply Drawn0.step)⟩
def r3_Line.f (k : Nat) (l0_0 : List (S62)) (l0_1 : List Int) (a1 : Int) (a2 : Int) (a3 : Int) (a4 : Int) : Option (Int × Int × Int × Int) := (r3_Cells.f k l0_0 l0_1 a1 a2 a3 a4).bind fun t271 => (some (a1, a2, t271, a3))
theorem r3_Line.mono : ∀ a0 a1 a2 a3 a4 a5 k, LeO (r3_Line.f k a0 a1 a2 a3 a4 a5) (r3_Line.f (k + 1) a0 a1 a2 a3 a4 a5) := by
  intro a0 a1 a2 a3 a4 a5 k
  unfold r3_Line.f
  repeat' (with_reducible first | exact r3_Cells.mono _ _ _ _ _ _ _ | exact LeO.refl _ | exact LeO.none _ | refine LeO.ite ?_ ?_ | refine LeO.bind ?_ (fun _ => ?_))
set_option maxHeartbeats 8000000 in
set_option maxRecDepth 100000 in
theorem r3_Line.calls (k : Nat) (A0_0 : Option Addr) (c0_0 : Nat) (l0_0 : List (S62)) (A0_1 : Option Addr) (c0_1 : Nat) (l0_1 : List Int) (a1 : Int) (a2 : Int) (a3 : Int) (a4 : Int) (r1 : Int) (r2 : Int) (r3 : Int) (r4 : Int) (w : World) (hr0_0 : Kd.C k62 w A0_0 l0_0.length l0_0) (hc0_0 : l0_0.length ≤ c0_0) (hr0_1 : Kd.C (Kd.int .u8) w A0_1 l0_1.length l0_1) (hc0_1 : l0_1.length ≤ c0_1) (h : r3_Line.f k l0_0 l0_1 a1 a2 a3 a4 = some (r1, r2, r3, r4)) :
    Calls Try.prog 27 #[.agg #[.slice A0_0 l0_0.length c0_0, .slice A0_1 l0_1.length c0_1], .int .i64 a1, .int .i64 a2, .int .u8 a3, .int .i64 a4] w fun e w' => e = .returned (.agg #[.int .i64 r1, .int .i64 r2, .int .i64 r3, .int .u8 r4]) ∧ Below w.heap.size w w' := by
  have hu31 := Try.underlying31; have hu48 := Try.underlying48; have HR0_0 := zA.mk hr0_0; have HC0_0 := zA.mk hc0_0; clear hr0_0 hc0_0; have HR0_1 := zA.mk hr0_1; have HC0_1 := zA.mk hc0_1; clear hr0_1 hc0_1; have HB := zA.mk (Below.refl w.heap.size w); have H : ((r3_Cells.f k l0_0 l0_1 a1 a2 a3 a4).bind fun t271 => (some (a1, a2, t271, a3))) = some (r1, r2, r3, r4) := h
  clear h; replace H := Option.bind_eq_some_iff.mp H; obtain ⟨t271, A60, H⟩ := H; replace H : (some (a1, a2, t271, a3)) = some (r1, r2, r3, r4) := H; have A6 := zA.mk A60; clear A60; simp only [Option.some.injEq, Prod.mk.injEq] at H; obtain ⟨rfl, rfl, rfl, rfl⟩ := H; go_enter Try.func27, Try.ntmps27
  go_wp2_with (first | ((with_reducible refine gate_dst (N := 5) rfl ?_); refine box_event ?hg (N := 5) ?hd (cs := #[.slice A0_0 l0_0.length c0_0, .slice A0_1 l0_1.length c0_1]) (t := 31) ?hr ?_; (case hd => rfl); (case hg => rfl); (case hr => first | (go_simp; done) | (go_simp; rfl)); intro gb269 hg w7 hbox hb; have n0_ := zA.mk (zL (by repeat (first | (with_reducible first | exact HB.out | apply zJ | apply zF | apply zI) | exact HB.out)) hb); have n1_ := zA.mk (hbox); have n2_ := zA.mk ((by rw [hg]; exact (zM (by repeat (first | (with_reducible first | exact HB.out | apply zJ | apply zF | apply zI) | exact HB.out))) : w.heap.size ≤ gb269)); have n3_ := n2_; clear HB; have HB := n0_; have BK269 := n1_; have GW269 := n2_; have GE269 := n3_; clear n0_ n1_ n2_ n3_; clear hb hbox hg) | ((with_reducible refine gate_dst (N := 10) rfl ?_); refine box_event ?hg (N := 10) ?hd (cs := #[.int .i64 0, .int .i64 0, .int .i64 0, .int .u8 0]) (t := 48) ?hr ?_; (case hd => rfl); (case hg => rfl); (case hr => first | (go_simp; done) | (go_simp; rfl)); intro gb270 hg w8 hbox hb; have n0_ := zA.mk (zK (by (with_reducible repeat (first | refine zC ?_ _ | refine zD ?_ | refine zB ?_ _)); exact BK269.out) hb); have n1_ := zA.mk (zL (by repeat (first | (with_reducible first | exact HB.out | apply zJ | apply zF | apply zI | refine zE ?_ GE269.out) | exact HB.out)) hb); have n2_ := zA.mk (hbox); have n3_ := zA.mk ((by rw [hg]; exact (zM (by repeat (first | (with_reducible first | exact HB.out | apply zJ | apply zF | apply zI | refine zE ?_ GE269.out) | exact HB.out))) : w.heap.size ≤ gb270)); have n4_ := n3_; have n5_ := zA.mk ((by rw [hg]; exact Nat.ne_of_lt (blk_lt (by (with_reducible repeat (first | refine zC ?_ _ | refine zD ?_ | refine zB ?_ _)); exact BK269.out)) : gb269 ≠ gb270)); have n6_ := zA.mk n5_.out.symm; clear BK269; clear HB; have BK269 := n0_; have HB := n1_; have BK270 := n2_; have GW270 := n3_; have GE270 := n4_; have NB269_270 := n5_; have NB270_269 := n6_; clear n0_ n1_ n2_ n3_ n4_ n5_ n6_; clear hb hbox hg; have hnb9 := NB269_270.out; have hnc9 := NB270_269.out; have hcz10_0 : w8.cell? ⟨gb269, 0, none⟩ = some (.slice A0_0 l0_0.length c0_0) := (zG BK269.out 0).trans rfl; have hcz10_1 : w8.cell? ⟨gb269, 1, none⟩ = some (.slice A0_1 l0_1.length c0_1) := (zG BK269.out 1).trans rfl; have hfz10_0 := zH BK269.out 0; have hfz10_1 := zH BK269.out 1) | ((with_reducible refine gate_callee (f := 18) rfl ?_); refine goesL_ (some 18) rfl rfl Try.func18 (by kernel_rfl) rfl #[.agg #[.slice A0_0 l0_0.length c0_0, .slice A0_1 l0_1.length c0_1], .int .i64 a1, .int .i64 a2, .int .u8 a3, .int .i64 a4] rfl (by (try simp only [List.map_toArray, List.map_cons, List.map_nil]); first | done | rfl | (simp only [List.length_drop, List.length_take]; rfl)) ?_; (with_reducible refine (r3_Cells.calls k _ _ l0_0 _ _ l0_1 a1 a2 a3 a4 t271 _ ?side1 ?side2 ?side3 ?side4 A6.out).mono ?_); (case side1 => repeat (first | exact (Kd.zT HR0_0.out HB.out) | (with_reducible refine Kd.zQ ?_ _) | (with_reducible refine Kd.zR ?_ _) | (with_reducible refine Kd.zS ?_))); (case side2 => exact HC0_0.out); (case side3 => repeat (first | exact (Kd.zT HR0_1.out HB.out) | (with_reducible refine Kd.zQ ?_ _) | (with_reducible refine Kd.zR ?_ _) | (with_reducible refine Kd.zS ?_))); (case side4 => exact HC0_1.out); rintro e w11 ⟨rfl, hb⟩; refine ⟨_, rfl, ?_⟩; replace BK269 := zA.mk (zK (by (with_reducible repeat (first | refine zC ?_ _ | refine zD ?_ | refine zB ?_ _)); exact BK269.out) hb); replace BK270 := zA.mk (zK (by (with_reducible repeat (first | refine zC ?_ _ | refine zD ?_ | refine zB ?_ _)); exact BK270.out) hb); replace HB := zA.mk (zL (by repeat (first | (with_reducible first | exact HB.out | apply zJ | apply zF | apply zI | refine zE ?_ GE269.out | refine zE ?_ GE270.out) | exact HB.out)) hb); (try clear hb); (try clear hb2); (try clear hk); (try clear hi); have hcz12_0 : w11.cell? ⟨gb270, 0, none⟩ = some (.int .i64 0) := (zG BK270.out 0).trans rfl; have hcz12_1 : w11.cell? ⟨gb270, 1, none⟩ = some (.int .i64 0) := (zG BK270.out 1).trans rfl; have hcz12_2 : w11.cell? ⟨gb270, 2, none⟩ = some (.int .i64 0) := (zG BK270.out 2).trans rfl; have hcz12_3 : w11.cell? ⟨gb270, 3, none⟩ = some (.int .u8 0) := (zG BK270.out 3).trans rfl; have hfz12_0 := zH BK270.out 0; have hfz12_1 := zH BK270.out 1; have hfz12_2 := zH BK270.out 2; have hfz12_3 := zH BK270.out 3) | ((with_reducible refine gate_store (t := 48) (p := 10) rfl ?_); refine store_event (t := 48) (p := 10) (v := ?vo_w13) (w1 := ((((w11.setCell ⟨gb270, 0, none⟩ (.int .i64 a1)).setCell ⟨gb270, 1, none⟩ (.int .i64 a2)).setCell ⟨gb270, 2, none⟩ (.int .i64 t271)).setCell ⟨gb270, 3, none⟩ (.int .u8 a3))) ?hg ?ho ?hn ?hr ?_; (case ho => rfl); (case hg => rfl); (case hn => rfl); (case hr => first | (go_simp; done) | (go_simp; rfl)); intro w13 hw; have n0_ : zA (w13.heap[gb269]? = some (.cells #[.slice A0_0 l0_0.length c0_0, .slice A0_1 l0_1.length c0_1] 31 (0, 0))) := ⟨(by rw [hw]; exact (by (with_reducible repeat (first | refine zC ?_ _ | refine zD ?_ | refine zB ?_ _)); refine blk_far ?_ NB269_270.out _; (with_reducible repeat (first | refine zC ?_ _ | refine zD ?_ | refine zB ?_ _)); refine blk_far ?_ NB269_270.out _; (with_reducible repeat (first | refine zC ?_ _ | refine zD ?_ | refine zB ?_ _)); refine blk_far ?_ NB269_270.out _; (with_reducible repeat (first | refine zC ?_ _ | refine zD ?_ | refine zB ?_ _)); refine blk_far ?_ NB269_270.out _; (with_reducible repeat (first | refine zC ?_ _ | refine zD ?_ | refine zB ?_ _)); exact BK269.out))⟩; have n1_ : zA (w13.heap[gb270]? = some (.cells #[.int .i64 a1, .int .i64 a2, .int .i64 t271, .int .u8 a3] 48 (0, 0))) := ⟨(by rw [hw]; exact (by (with_reducible repeat (first | refine zC ?_ _ | refine zD ?_ | refine zB ?_ _)); refine blk_put (cs := #[.int .i64 a1, .int .i64 a2, .int .i64 t271, .int .u8 0]) ?_ 3 _ rfl; (with_reducible repeat (first | refine zC ?_ _ | refine zD ?_ | refine zB ?_ _)); refine blk_put (cs := #[.int .i64 a1, .int .i64 a2, .int .i64 0, .int .u8 0]) ?_ 2 _ rfl; (with_reducible repeat (first | refine zC ?_ _ | refine zD ?_ | refine zB ?_ _)); refine blk_put (cs := #[.int .i64 a1, .int .i64 0, .int .i64 0, .int .u8 0]) ?_ 1 _ rfl; (with_reducible repeat (first | refine zC ?_ _ | refine zD ?_ | refine zB ?_ _)); refine blk_put (cs := #[.int .i64 0, .int .i64 0, .int .i64 0, .int .u8 0]) ?_ 0 _ rfl; (with_reducible repeat (first | refine zC ?_ _ | refine zD ?_ | refine zB ?_ _)); exact BK270.out))⟩; have n2_ : zA (Below w.heap.size w w13) := ⟨(by rw [hw]; exact (by repeat (first | (with_reducible first | exact HB.out | apply zJ | apply zF | apply zI | refine zE ?_ GE269.out | refine zE ?_ GE270.out) | exact HB.out)))⟩; clear hw; clear BK269; clear BK270; clear HB; have BK269 := n0_; have BK270 := n1_; have HB := n2_; clear n0_ n1_ n2_))
  refine bodyPost_ret (results_cell_row rfl _ _ gb270 48 #[.int .i64 a1, .int .i64 a2, .int .i64 t271, .int .u8 a3] (0, 0) _ rfl (by (with_reducible repeat (first | refine zC ?_ _ | refine zD ?_ | refine zB ?_ _)); exact BK270.out) Try.underlying48 rfl (by kernel_rfl)) rfl ?_
  exact ⟨by first | rfl | (simp [errW_none, errW_some] <;> rfl) | (simp [*, errW_none, errW_some] <;> rfl), by repeat (first | (with_reducible first | exact HB.out | apply zJ | apply zF | apply zI | refine zE ?_ GE269.out | refine zE ?_ GE270.out) | exact HB.out)⟩
end Go.Proofs.Ytlgclhhkgohanaa.F
end
