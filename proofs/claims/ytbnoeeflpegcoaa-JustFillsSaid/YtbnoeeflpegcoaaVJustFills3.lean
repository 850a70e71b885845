/- Printed by a program: Lean functions that answer as the Go functions do, and the proofs of it. -/
import Derived.Test.YtbnoeeflpegcoaaVJustFills0
import Derived.Test.YtbnoeeflpegcoaaVJustFills1
section
namespace Go.Proofs.Ytbnoeeflpegcoaa.F
open Go.RowKit Go.Proofs.YtbnoeeflpegcoaaW.PrintWords Go.Proofs.YtbnoeeflpegcoaaW.PrintLast Go.Proofs.YtbnoeeflpegcoaaW.PrintMore
attribute [local go_sem] max2_int min2_int max_two min_two max_three min_three max_four min_four   -- for this text's walks alone
set_option linter.unusedVariables false
set_option linter.unusedSimpArgs false
def span_Gaps.l0 : Nat → Int → List (S41) → Int → Int → Option (Int)
  | 0, _, _, _, _ => none
  | k + 1, x7, x17, x18, x19 => if x19 < x18 then (if 0 ≤ x19 then (if x19 < (x17.length : Int) then (if ((rd_T41 x17 x19).f3) = 1 then (span_Gaps.l0 k (wrap64 (x7 + 1)) x17 x18 (wrap64 (x19 + 1))) else (span_Gaps.l0 k x7 x17 x18 (wrap64 (x19 + 1)))) else (none)) else (none)) else (some x7)
def span_Gaps.f (k : Nat) (l0_0 : List (S41)) (l0_1 : List Int) (a1 : Int) (a2 : Int) : Option (Int) := (span_Trim.f k l0_0 l0_1 a1 a2).bind fun t193 => (if 0 ≤ a1 then (if a1 ≤ t193 then (if t193 ≤ (l0_0.length : Int) then ((some ((l0_0.take (t193 : Int).toNat).drop (a1 : Int).toNat : List (S41))).bind fun y194 => (span_Gaps.l0 k 0 y194 (y194.length : Int) 0)) else (none)) else (none)) else (none))
theorem span_Gaps.mono_l : ∀ k, (∀ y0 y1 y2 y3, LeO (span_Gaps.l0 k y0 y1 y2 y3) (span_Gaps.l0 (k + 1) y0 y1 y2 y3))
  | 0 => fun _ _ _ _ r h => by simp [span_Gaps.l0] at h
  | k + 1 => by
    have ih0 := span_Gaps.mono_l k
    · intro y0 y1 y2 y3
      unfold span_Gaps.l0
      repeat' first
      | (with_reducible exact ih0 _ _ _ _)
      | (with_reducible exact span_Trim.mono _ _ _ _ _)
      | (with_reducible exact LeO.refl _)
      | (with_reducible exact LeO.none _)
      | (with_reducible refine LeO.ite ?_ ?_)
      | (with_reducible refine LeO.bind ?_ (fun _ => ?_))
      | exact ih0 _ _ _ _
      | exact span_Trim.mono _ _ _ _ _
      | exact LeO.none _
      | refine LeO.ite ?_ ?_
      | refine LeO.bind ?_ (fun _ => ?_)
theorem span_Gaps.mono : ∀ a0 a1 a2 a3 k, LeO (span_Gaps.f k a0 a1 a2 a3) (span_Gaps.f (k + 1) a0 a1 a2 a3) := by
  intro a0 a1 a2 a3 k
  have ih0 := span_Gaps.mono_l k; unfold span_Gaps.f
  repeat' first
      | (with_reducible exact ih0 _ _ _ _)
      | (with_reducible exact span_Trim.mono _ _ _ _ _)
      | (with_reducible exact LeO.refl _)
      | (with_reducible exact LeO.none _)
      | (with_reducible refine LeO.ite ?_ ?_)
      | (with_reducible refine LeO.bind ?_ (fun _ => ?_))
      | exact ih0 _ _ _ _
      | exact span_Trim.mono _ _ _ _ _
      | exact LeO.none _
      | refine LeO.ite ?_ ?_
      | refine LeO.bind ?_ (fun _ => ?_)
def span_Gaps.T2 : Bool × List (List Nat × List Nat) := (true, [([], []), ([0], [0]), ([], []), ([], []), ([], []), ([], []), ([3, 4, 5], [3, 4, 5]), ([1, 2, 6], [1, 2, 6]), ([7], [7]), ([], [])])
def span_Gaps.B2 : List Nat := [0, 1, 0, 0, 0, 0, 56, 127, 255, 0]
theorem span_Gaps.tab2 : rtab .any (opsOf Try.f27 2) = span_Gaps.T2 := by kernel_rfl
theorem span_Gaps.bits2 : waitsOk span_Gaps.T2.2 span_Gaps.B2 = true := by kernel_rfl
set_option maxHeartbeats 8000000 in
set_option maxRecDepth 100000 in
theorem span_Gaps.calls (k : Nat) (A0_0 : Option Addr) (c0_0 : Nat) (l0_0 : List (S41)) (A0_1 : Option Addr) (c0_1 : Nat) (l0_1 : List Int) (a1 : Int) (a2 : Int) (r : Int) (w : World) (hr0_0 : Kd.C k41 w A0_0 l0_0.length l0_0) (hc0_0 : l0_0.length ≤ c0_0) (hr0_1 : Kd.C (Kd.int .u8) w A0_1 l0_1.length l0_1) (hc0_1 : l0_1.length ≤ c0_1) (h : span_Gaps.f k l0_0 l0_1 a1 a2 = some r) :
    Calls Try.prog 27 #[.agg #[.slice A0_0 l0_0.length c0_0, .slice A0_1 l0_1.length c0_1], .int .i64 a1, .int .i64 a2] w fun e w' => e = .returned (.int .i64 r) ∧ Below w.heap.size w w' := by
  have hu35 := Try.underlying35; have hu41 := Try.underlying41; have HR0_0 := zA.mk hr0_0; have HC0_0 := zA.mk hc0_0; clear hr0_0 hc0_0; have HR0_1 := zA.mk hr0_1; have HC0_1 := zA.mk hc0_1; clear hr0_1 hc0_1; have HB := zA.mk (Below.refl w.heap.size w); have H : ((span_Trim.f k l0_0 l0_1 a1 a2).bind fun t193 => (if 0 ≤ a1 then (if a1 ≤ t193 then (if t193 ≤ (l0_0.length : Int) then ((some ((l0_0.take (t193 : Int).toNat).drop (a1 : Int).toNat : List (S41))).bind fun y194 => (span_Gaps.l0 k 0 y194 (y194.length : Int) 0)) else (none)) else (none)) else (none))) = some r := h
  clear h; replace H := Option.bind_eq_some_iff.mp H; obtain ⟨t193, A40, H⟩ := H; replace H : (if 0 ≤ a1 then (if a1 ≤ t193 then (if t193 ≤ (l0_0.length : Int) then ((some ((l0_0.take (t193 : Int).toNat).drop (a1 : Int).toNat : List (S41))).bind fun y194 => (span_Gaps.l0 k 0 y194 (y194.length : Int) 0)) else (none)) else (none)) else (none)) = some r := H
  have A4 := zA.mk A40; clear A40; by_cases c5 : 0 ≤ a1
  · rw [if_pos c5] at H
    have c5b0 := eq_true c5; have c5b1 : decide (0 ≤ a1) = true := decide_eq_true c5
    clear c5; by_cases c6 : a1 ≤ t193
    · rw [if_pos c6] at H
      have c6b0 := eq_true c6; have c6b1 : decide (a1 ≤ t193) = true := decide_eq_true c6
      clear c6; by_cases c7 : t193 ≤ (l0_0.length : Int)
      · rw [if_pos c7] at H
        have c7b0 := eq_true c7; have c7b1 : decide (t193 ≤ (l0_0.length : Int)) = true := decide_eq_true c7
        clear c7; obtain ⟨y194, hy194⟩ : ∃ y_ : List (S41), y_ = ((l0_0.take (t193 : Int).toNat).drop (a1 : Int).toNat) := ⟨_, rfl⟩; replace H : (span_Gaps.l0 k 0 y194 (y194.length : Int) 0) = some r := by first | (rw [hy194]; with_reducible exact H) | (have H2_ := (Option.bind_some _ _).symm.trans H; rw [hy194]; with_reducible exact H2_) | (have H2_ := (Option.bind_some _ _).symm.trans H; with_reducible exact H2_) | with_reducible exact H | (rw [hy194]; exact H) | exact H
        have Ny194 := zA.mk hy194; clear hy194; have H' := zA.mk H
        clear H; go_enter Try.func27, Try.ntmps27
        try go_wp2_with (first | ((with_reducible refine gate_dst (N := 3) rfl ?_); refine box_event ?hg (N := 3) ?hd (cs := #[.slice A0_0 l0_0.length c0_0, .slice A0_1 l0_1.length c0_1]) (t := 35) ?hr ?_; (case hd => rfl); (case hg => rfl); (case hr => first | (go_simp; done) | (go_simp; rfl)); intro gb192 hg w8 hbox hb; have n0_ := zA.mk (zO (by repeat (first | (with_reducible first | exact HB.out | apply zI | apply zF | apply zH) | exact HB.out)) hb); have n1_ := zA.mk (hbox); have n2_ := zA.mk ((by rw [hg]; exact (zK (by repeat (first | (with_reducible first | exact HB.out | apply zI | apply zF | apply zH) | exact HB.out))) : w.heap.size ≤ gb192)); have n3_ := zA.mk ((by rw [hg]; exact (zK (by repeat (first | (with_reducible first | exact HB.out | apply zI | apply zF | apply zH) | exact HB.out))) : w.heap.size ≤ gb192)); clear HB; have HB := n0_; have BK192 := n1_; have GW192 := n2_; have GE192 := n3_; clear n0_ n1_ n2_ n3_; clear hb hbox hg))
        have n0_ := zA.mk (zD BK192.out); have n1_ := zA.mk (zH HB.out); clear BK192; clear HB; have BK192 := n0_; have HB := n1_; clear n0_ n1_; refine start_ (n := 10) (S := fun w' => w'.cell? ⟨gb192, 0, none⟩ = some (.slice A0_0 l0_0.length c0_0) ∧ w'.cell? ⟨gb192, 1, none⟩ = some (.slice A0_1 l0_1.length c0_1)) (ds := []) #[false, false, false, false, false, false, false, false, false, false] (by kernel_rfl) rfl rfl ⟨(zG BK192.out 0).trans rfl, (zG BK192.out 1).trans rfl⟩ (fun hHeld => ?_); refine with_tabW span_Gaps.tab2 span_Gaps.bits2 (fun HT_ HW_ => ?_)
        generalize w8.drew = w9 at BK192 HB hHeld ⊢
        refine pure_ (i := 0) (N := some 10) (v := ?_) (a' := ?_) #[true, false, false, false, false, false, false, false, false, false] rfl rfl (any_of HT_.out (by kernel_rfl)) (fun _ _ _ h => h) (Or.inl ⟨by rfl, ?_⟩) ?_ ?_
        rotate_left
        · intro w'
          go_simp
          with_reducible rfl
        rotate_left
        · simp only [Act.put, List.setIfInBounds_toArray, List.set_cons_zero, List.set_cons_succ, zM, zN]
          rfl
        refine pure_ (i := 2) (N := some 12) (v := ?_) (a' := ?_) #[true, false, true, false, false, false, false, false, false, false] rfl rfl (any_of HT_.out (by kernel_rfl)) (fun _ _ _ h => h) (Or.inl ⟨by rfl, ?_⟩) ?_ ?_
        rotate_left
        · intro w'
          go_simp
          with_reducible rfl
        rotate_left
        · simp only [Act.put, List.setIfInBounds_toArray, List.set_cons_zero, List.set_cons_succ, zM, zN]
          rfl
        refine pure_ (i := 4) (N := some 14) (v := ?_) (a' := ?_) #[true, false, true, false, true, false, false, false, false, false] rfl rfl (any_of HT_.out (by kernel_rfl)) (fun _ _ _ h => h) (Or.inl ⟨by rfl, ?_⟩) ?_ ?_
        rotate_left
        · intro w'
          go_simp
          with_reducible rfl
        rotate_left
        · simp only [Act.put, List.setIfInBounds_toArray, List.set_cons_zero, List.set_cons_succ, zM, zN]
          rfl
        refine pure_ (i := 5) (N := some 15) (v := ?_) (a' := ?_) #[true, false, true, false, true, true, false, false, false, false] rfl rfl (any_of HT_.out (by kernel_rfl)) (fun _ _ _ h => h) (Or.inl ⟨by rfl, ?_⟩) ?_ ?_
        rotate_left
        · intro w'
          go_simp
          with_reducible rfl
        rotate_left
        · simp only [Act.put, List.setIfInBounds_toArray, List.set_cons_zero, List.set_cons_succ, zM, zN]
          rfl
        refine pure_ (i := 9) (N := some 19) (v := ?_) (a' := ?_) #[true, false, true, false, true, true, false, false, false, true] rfl rfl (any_of HT_.out (by kernel_rfl)) (fun _ _ _ h => h) (Or.inl ⟨by rfl, ?_⟩) ?_ ?_
        rotate_left
        · intro w'
          go_simp
          with_reducible rfl
        rotate_left
        · simp only [Act.put, List.setIfInBounds_toArray, List.set_cons_zero, List.set_cons_succ, zM, zN]
          rfl
        refine take_ (i := 1) (N := some 11) (v := ?_) (a' := ?_) #[true, true, true, false, true, true, false, false, false, true] rfl rfl (take_ofW HT_.out HW_.out (by kernel_rfl)) (fun _ _ _ h => h) (Or.inl ⟨by rfl, ?_⟩) hHeld ?_ ?_
        rotate_left
        · rintro w' ⟨s0, s1⟩
          go_simp
          with_reducible rfl
        rotate_left
        · simp only [Act.put, List.setIfInBounds_toArray, List.set_cons_zero, List.set_cons_succ, zM, zN]
          rfl
        refine take_ (i := 3) (N := some 13) (v := ?_) (a' := ?_) #[true, true, true, true, true, true, false, false, false, true] rfl rfl (take_ofW HT_.out HW_.out (by kernel_rfl)) (fun _ _ _ h => h) (Or.inl ⟨by rfl, ?_⟩) hHeld ?_ ?_
        rotate_left
        · rintro w' ⟨s0, s1⟩
          go_simp
          with_reducible rfl
        rotate_left
        · simp only [Act.put, List.setIfInBounds_toArray, List.set_cons_zero, List.set_cons_succ, zM, zN]
          rfl
        refine one_ (i := 6) (N := some 16) #[true, true, true, true, true, true, true, false, false, true] rfl rfl (one_of HT_.out (by kernel_rfl)) (by decide) (fun K hK => ?_)
        refine goes_ Try.func26 (by kernel_rfl) rfl #[.agg #[.slice A0_0 l0_0.length c0_0, .slice A0_1 l0_1.length c0_1], .int .i64 a1, .int .i64 a2] (by rfl) rfl rfl (by (try simp only [List.map_toArray, List.map_cons, List.map_nil]); first | done | rfl | (simp only [List.length_drop, List.length_take]; rfl)) ?_
        with_reducible refine (span_Trim.calls k _ _ l0_0 _ _ l0_1 a1 a2 t193 _ ?side1 ?side2 ?side3 ?side4 A4.out).mono ?_
        (case side1 => repeat (first | exact (Kd.C_below HR0_0.out HB.out) | (with_reducible refine Kd.C_alloc ?_ _) | (with_reducible refine Kd.C_drewN ?_ _) | (with_reducible refine Kd.C_drew ?_)))
        (case side2 => exact HC0_0.out)
        (case side3 => repeat (first | exact (Kd.C_below HR0_1.out HB.out) | (with_reducible refine Kd.C_alloc ?_ _) | (with_reducible refine Kd.C_drewN ?_ _) | (with_reducible refine Kd.C_drew ?_)))
        (case side4 => exact HC0_1.out)
        rintro e w10 ⟨rfl, hb⟩
        refine ⟨_, rfl, ?_⟩
        have n0_ := zA.mk (zL (g := gb192) (o := .cells #[.slice A0_0 l0_0.length c0_0, .slice A0_1 l0_1.length c0_1] 35 (0, 0)) (by (with_reducible repeat (first | refine zC ?_ _ | refine zD ?_ | refine zB ?_ _)); exact BK192.out) hb)
        have n1_ := zA.mk (zO (by repeat (first | (with_reducible first | exact HB.out | apply zI | apply zF | apply zH | refine zE ?_ GE192.out) | exact HB.out)) hb)
        clear BK192 HB; have BK192 := n0_; have HB := n1_; clear n0_ n1_; (try clear hb)
        (try clear hb2)
        (try clear hk)
        (try clear hi)
        have q11 : (t193 : Int) ≤ ((l0_0.length : Int) : Int) := of_decide_eq_true (by first | (with_reducible assumption) | assumption)
        obtain ⟨i011, hi011, _, hsz11, _⟩ := info_parts info41; have hroom11 : l0_0.length ≤ c0_0 := HC0_0.out
        have hC11 : Kd.C k41 _ A0_0 l0_0.length l0_0 := HR0_0.out
        have ql11 : (a1 : Int) ≤ (t193 : Int) := of_decide_eq_true (by first | (with_reducible assumption) | assumption)
        have q011 : (0 : Int) ≤ (a1 : Int) := of_decide_eq_true (by first | (with_reducible assumption) | assumption)
        have hcut11 := cut_mid (P := Try.prog) 32 41 .i64 .i64 Try.underlying32 hi011 4 hsz11 A0_0 l0_0.length c0_0 a1 t193 q011 ql11 q11 hroom11; have hr11 := Kd.C_mid (lo := (a1 : Int).toNat) (hi := (t193 : Int).toNat) (c := c0_0) hC11 (by omega) (by omega) hroom11
        obtain ⟨A11, hA11⟩ : ∃ A1, A1 = (if c0_0 = (a1 : Int).toNat then A0_0 else (A0_0 : Option Addr).map (·.add ((a1 : Int).toNat * 4))) := ⟨_, rfl⟩
        obtain ⟨c11, hc11⟩ : ∃ c1, c1 = c0_0 - (a1 : Int).toNat := ⟨_, rfl⟩; have hy11 : y194.length = (t193 : Int).toNat - (a1 : Int).toNat := (by rw [Ny194.out, List.length_drop, List.length_take] <;> omega)
        rw [show ((l0_0).take (t193 : Int).toNat).drop (a1 : Int).toNat = y194 from Ny194.out.symm] at hr11; replace hr11 : Kd.C k41 _ A11 y194.length y194 := (by rw [hA11]; exact hr11)
        rw [← hy11, ← hA11, ← hc11] at hcut11; have HR197 := zA.mk hr11; have HC197 := zA.mk (show y194.length ≤ c11 from by rw [hy11, hc11]; exact Nat.sub_le_sub_right (Nat.le_trans (by omega) hroom11) _)
        clear hr11 hC11 hroom11 hi011 hsz11 hc11; have KY11 := zA.mk hy11; have KA11 := zA.mk hA11; clear hy11 hA11; replace q11 := eq_true q11; refine hK.out _ _ ⟨(zG BK192.out 0).trans rfl, (zG BK192.out 1).trans rfl⟩ (fun hHeld => ?_)
        clear hK K; refine norm_ (a' := ?_) ?_ ?_
        rotate_left
        · show Act.put _ (some 16) _ = _
          simp only [Act.put, List.setIfInBounds_toArray, List.set_cons_zero, List.set_cons_succ, zM, zN]; rfl
        refine pure_ (i := 7) (N := some 17) (v := ?_) (a' := ?_) #[true, true, true, true, true, true, true, true, false, true] rfl rfl (any_of HT_.out (by kernel_rfl)) (fun _ _ _ h => h) (Or.inl ⟨by rfl, ?_⟩) ?_ ?_
        rotate_left
        · intro w'
          go_simp
          with_reducible rfl
        rotate_left
        · simp only [Act.put, List.setIfInBounds_toArray, List.set_cons_zero, List.set_cons_succ, zM, zN]
          rfl
        refine pure_ (i := 8) (N := some 18) (v := ?_) (a' := ?_) #[true, true, true, true, true, true, true, true, true, true] rfl rfl (any_of HT_.out (by kernel_rfl)) (fun _ _ _ h => h) (Or.inl ⟨by rfl, ?_⟩) ?_ ?_
        rotate_left
        · intro w'
          go_simp
          with_reducible rfl
        rotate_left
        · simp only [Act.put, List.setIfInBounds_toArray, List.set_cons_zero, List.set_cons_succ, zM, zN]
          rfl
        refine done_ (done_of HT_.out (by kernel_rfl)) ?_
        try go_wp2
        go_loopg [7, 19] k (fun kq v7 v19 w' => ∃ (x7_1 : Int) (x19_1 : Int), v7 = .int .i64 x7_1 ∧ v19 = .int .i64 x19_1 ∧ zA (span_Gaps.l0 kq x7_1 y194 (y194.length : Int) x19_1 = some r) ∧ zA (kq ≤ k) ∧ zA (w'.heap[gb192]? = some (.cells #[(.slice A0_0 l0_0.length c0_0), (.slice A0_1 l0_1.length c0_1)] 35 (0, 0))) ∧ zA (Below w.heap.size w w'))
        case atStart => exact ⟨(0), (0), (by first | rfl | (simp; done) | (simp [*]; done)), (by first | rfl | (simp; done) | (simp [*]; done)), H', ⟨Nat.le_refl _⟩, ⟨by (with_reducible repeat (first | refine zC ?_ _ | refine zD ?_ | refine zB ?_ _)); exact BK192.out⟩, ⟨by repeat (first | (with_reducible first | exact HB.out | apply zI | apply zF | apply zH | refine zE ?_ GE192.out) | exact HB.out)⟩⟩
        case round =>
          clear H'; try clear c1
          try clear q1
          try clear c2
          try clear p2
          try clear c5
          try clear c5b0
          try clear c5b1
          try clear c6
          try clear c6b0
          try clear c6b1
          try clear c7
          try clear c7b0
          try clear c7b1
          try clear c11
          try clear q11
          try clear q011
          try clear q11
          obtain ⟨x7_1, x19_1, rfl, rfl, HA, HK1, BK192, HB⟩ := hrel; cases gk with
          | zero => exact absurd HA.out (by simp [span_Gaps.l0])
          | succ k1 =>
            have H := HA.out; clear HA; simp only [span_Gaps.l0] at H; by_cases c12 : x19_1 < (y194.length : Int)
            · rw [if_pos c12] at H
              have c12b0 : decide (x19_1 < (y194.length : Int)) = true := decide_eq_true c12
              clear c12; by_cases c13 : 0 ≤ x19_1
              · rw [if_pos c13] at H
                have c13b0 : decide (0 ≤ x19_1) = true := decide_eq_true c13
                clear c13; by_cases c14 : x19_1 < (y194.length : Int)
                · rw [if_pos c14] at H
                  have c14b0 : decide (x19_1 < (y194.length : Int)) = true := decide_eq_true c14
                  clear c14; by_cases c15 : ((rd_T41 y194 x19_1).f3) = 1
                  · rw [if_pos c15] at H
                    have c15b0 : (((rd_T41 y194 x19_1).f3) == 1) = true := beq_iff_eq.mpr c15
                    have c15b1 : (((rd_T41 y194 x19_1).f3) != 1) = false := bne_eq_false_iff_eq.mpr c15
                    clear c15; have H' := zA.mk H
                    clear H; have p198 : 0 ≤ (x19_1 : Int) := of_decide_eq_true (by first | (with_reducible assumption) | assumption)
                    have q198 : x19_1 < (y194.length : Int) := of_decide_eq_true (by first | (with_reducible assumption) | assumption)
                    obtain ⟨ad198, e198, hx198_0, hx198_1, hx198_2, hx198_3⟩ := at_T41 HR197.out x19_1 p198 q198; cases e198
                    replace hx198_0 := (HB.out.cell (World.block_lt_of_cell? w _ hx198_0)).trans hx198_0; replace hx198_1 := (HB.out.cell (World.block_lt_of_cell? w _ hx198_1)).trans hx198_1; replace hx198_2 := (HB.out.cell (World.block_lt_of_cell? w _ hx198_2)).trans hx198_2; replace hx198_3 := (HB.out.cell (World.block_lt_of_cell? w _ hx198_3)).trans hx198_3; replace p198 := eq_true p198; replace q198 := eq_true q198; go_wp2_with (first | ((with_reducible refine gate_dst (N := 9) rfl ?_); refine box_event ?hg (N := 9) ?hd (cs := #[.int .i64 0, .int .i64 0, .int .i64 0, .int .u8 0]) (t := 41) ?hr ?_; (case hd => rfl); (case hg => rfl); (case hr => first | (go_simp; done) | (go_simp; rfl)); intro gb199 hg w16 hbox hb; have n0_ := zA.mk (zL (g := gb192) (o := .cells #[.slice A0_0 l0_0.length c0_0, .slice A0_1 l0_1.length c0_1] 35 (0, 0)) (by (with_reducible repeat (first | refine zC ?_ _ | refine zD ?_ | refine zB ?_ _)); exact BK192.out) hb); have n1_ := zA.mk (zO (by repeat (first | (with_reducible first | exact HB.out | apply zI | apply zF | apply zH | refine zE ?_ GE192.out) | exact HB.out)) hb); have n2_ := zA.mk (hbox); have n3_ := zA.mk ((by rw [hg]; exact (zK (by repeat (first | (with_reducible first | exact HB.out | apply zI | apply zF | apply zH | refine zE ?_ GE192.out) | exact HB.out))) : w.heap.size ≤ gb199)); have n4_ := zA.mk ((by rw [hg]; exact (zK (by repeat (first | (with_reducible first | exact HB.out | apply zI | apply zF | apply zH | refine zE ?_ GE192.out) | exact HB.out))) : w.heap.size ≤ gb199)); have n5_ := zA.mk ((by rw [hg]; exact Nat.ne_of_lt (blk_lt (g := gb192) (o := .cells #[.slice A0_0 l0_0.length c0_0, .slice A0_1 l0_1.length c0_1] 35 (0, 0)) (by (with_reducible repeat (first | refine zC ?_ _ | refine zD ?_ | refine zB ?_ _)); exact BK192.out)) : gb192 ≠ gb199)); have n6_ := zA.mk ((by rw [hg]; exact Nat.ne_of_gt (blk_lt (g := gb192) (o := .cells #[.slice A0_0 l0_0.length c0_0, .slice A0_1 l0_1.length c0_1] 35 (0, 0)) (by (with_reducible repeat (first | refine zC ?_ _ | refine zD ?_ | refine zB ?_ _)); exact BK192.out)) : gb199 ≠ gb192)); clear BK192; clear HB; have BK192 := n0_; have HB := n1_; have BK199 := n2_; have GW199 := n3_; have GE199 := n4_; have NB192_199 := n5_; have NB199_192 := n6_; clear n0_ n1_ n2_ n3_ n4_ n5_ n6_; clear hb hbox hg; have hnb17 := NB199_192.out; have hnc17 := NB192_199.out; have hcz18_0 : w16.cell? ⟨gb199, 0, none⟩ = some (.int .i64 0) := (zG BK199.out 0).trans rfl; have hcz18_1 : w16.cell? ⟨gb199, 1, none⟩ = some (.int .i64 0) := (zG BK199.out 1).trans rfl; have hcz18_2 : w16.cell? ⟨gb199, 2, none⟩ = some (.int .i64 0) := (zG BK199.out 2).trans rfl; have hcz18_3 : w16.cell? ⟨gb199, 3, none⟩ = some (.int .u8 0) := (zG BK199.out 3).trans rfl; have hfz18_0 := zJ BK199.out 0; have hfz18_1 := zJ BK199.out 1; have hfz18_2 := zJ BK199.out 2; have hfz18_3 := zJ BK199.out 3) | ((with_reducible refine gate_store (t := 41) (p := 9) rfl ?_); refine store_event (t := 41) (p := 9) (v := ?vo_w19) (w1 := ((((w16.setCell ⟨gb199, 0, none⟩ (.int .i64 ((rd_T41 y194 x19_1).f0))).setCell ⟨gb199, 1, none⟩ (.int .i64 ((rd_T41 y194 x19_1).f1))).setCell ⟨gb199, 2, none⟩ (.int .i64 ((rd_T41 y194 x19_1).f2))).setCell ⟨gb199, 3, none⟩ (.int .u8 ((rd_T41 y194 x19_1).f3)))) ?hg ?ho ?hn ?hr ?_; (case ho => rfl); (case hg => rfl); (case hn => rfl); (case hr => first | (go_simp; done) | (go_simp; rfl)); intro w19 hw; have n0_ : zA (w19.heap[gb192]? = some (.cells #[.slice A0_0 l0_0.length c0_0, .slice A0_1 l0_1.length c0_1] 35 (0, 0))) := ⟨(by rw [hw]; exact (by (with_reducible repeat (first | refine zC ?_ _ | refine zD ?_ | refine zB ?_ _)); refine blk_far ?_ NB192_199.out _; (with_reducible repeat (first | refine zC ?_ _ | refine zD ?_ | refine zB ?_ _)); refine blk_far ?_ NB192_199.out _; (with_reducible repeat (first | refine zC ?_ _ | refine zD ?_ | refine zB ?_ _)); refine blk_far ?_ NB192_199.out _; (with_reducible repeat (first | refine zC ?_ _ | refine zD ?_ | refine zB ?_ _)); refine blk_far ?_ NB192_199.out _; (with_reducible repeat (first | refine zC ?_ _ | refine zD ?_ | refine zB ?_ _)); exact BK192.out))⟩; have n1_ : zA (w19.heap[gb199]? = some (.cells #[.int .i64 ((rd_T41 y194 x19_1).f0), .int .i64 ((rd_T41 y194 x19_1).f1), .int .i64 ((rd_T41 y194 x19_1).f2), .int .u8 ((rd_T41 y194 x19_1).f3)] 41 (0, 0))) := ⟨(by rw [hw]; exact (by (with_reducible repeat (first | refine zC ?_ _ | refine zD ?_ | refine zB ?_ _)); refine blk_put (cs := #[.int .i64 ((rd_T41 y194 x19_1).f0), .int .i64 ((rd_T41 y194 x19_1).f1), .int .i64 ((rd_T41 y194 x19_1).f2), .int .u8 0]) ?_ 3 _ rfl; (with_reducible repeat (first | refine zC ?_ _ | refine zD ?_ | refine zB ?_ _)); refine blk_put (cs := #[.int .i64 ((rd_T41 y194 x19_1).f0), .int .i64 ((rd_T41 y194 x19_1).f1), .int .i64 0, .int .u8 0]) ?_ 2 _ rfl; (with_reducible repeat (first | refine zC ?_ _ | refine zD ?_ | refine zB ?_ _)); refine blk_put (cs := #[.int .i64 ((rd_T41 y194 x19_1).f0), .int .i64 0, .int .i64 0, .int .u8 0]) ?_ 1 _ rfl; (with_reducible repeat (first | refine zC ?_ _ | refine zD ?_ | refine zB ?_ _)); refine blk_put (cs := #[.int .i64 0, .int .i64 0, .int .i64 0, .int .u8 0]) ?_ 0 _ rfl; (with_reducible repeat (first | refine zC ?_ _ | refine zD ?_ | refine zB ?_ _)); exact BK199.out))⟩; have n2_ : zA (Below w.heap.size w w19) := ⟨(by rw [hw]; exact (by repeat (first | (with_reducible first | exact HB.out | apply zI | apply zF | apply zH | refine zE ?_ GE192.out | refine zE ?_ GE199.out) | exact HB.out)))⟩; clear hw; clear BK192; clear BK199; clear HB; have BK192 := n0_; have BK199 := n1_; have HB := n2_; clear n0_ n1_ n2_; have hcz20_0 : w19.cell? ⟨gb199, 0, none⟩ = some (.int .i64 ((rd_T41 y194 x19_1).f0)) := (zG BK199.out 0).trans rfl; have hcz20_1 : w19.cell? ⟨gb199, 1, none⟩ = some (.int .i64 ((rd_T41 y194 x19_1).f1)) := (zG BK199.out 1).trans rfl; have hcz20_2 : w19.cell? ⟨gb199, 2, none⟩ = some (.int .i64 ((rd_T41 y194 x19_1).f2)) := (zG BK199.out 2).trans rfl; have hcz20_3 : w19.cell? ⟨gb199, 3, none⟩ = some (.int .u8 ((rd_T41 y194 x19_1).f3)) := (zG BK199.out 3).trans rfl; have hfz20_0 := zJ BK199.out 0; have hfz20_1 := zJ BK199.out 1; have hfz20_2 := zJ BK199.out 2; have hfz20_3 := zJ BK199.out 3))
                    go_roundg k1
                    case measure => have := HK1.out; omega
                    case rel => exact ⟨(wrap64 (x7_1 + 1)), (wrap64 (x19_1 + 1)), (by first | rfl | (simp; done) | (simp [*]; done)), (by first | rfl | (simp; done) | (simp [*]; done)), H', ⟨by have := HK1.out; omega⟩, ⟨by (with_reducible repeat (first | refine zC ?_ _ | refine zD ?_ | refine zB ?_ _)); exact BK192.out⟩, ⟨by repeat (first | (with_reducible first | exact HB.out | apply zI | apply zF | apply zH | refine zE ?_ GE192.out | refine zE ?_ GE199.out) | exact HB.out)⟩⟩
                  · rw [if_neg c15] at H
                    have c15b0 : (((rd_T41 y194 x19_1).f3) == 1) = false := beq_eq_false_iff_ne.mpr c15
                    have c15b1 : (((rd_T41 y194 x19_1).f3) != 1) = true := bne_iff_ne.mpr c15
                    have H' := zA.mk H
                    clear H; have p198 : 0 ≤ (x19_1 : Int) := of_decide_eq_true (by first | (with_reducible assumption) | assumption)
                    have q198 : x19_1 < (y194.length : Int) := of_decide_eq_true (by first | (with_reducible assumption) | assumption)
                    obtain ⟨ad198, e198, hx198_0, hx198_1, hx198_2, hx198_3⟩ := at_T41 HR197.out x19_1 p198 q198; cases e198
                    replace hx198_0 := (HB.out.cell (World.block_lt_of_cell? w _ hx198_0)).trans hx198_0; replace hx198_1 := (HB.out.cell (World.block_lt_of_cell? w _ hx198_1)).trans hx198_1; replace hx198_2 := (HB.out.cell (World.block_lt_of_cell? w _ hx198_2)).trans hx198_2; replace hx198_3 := (HB.out.cell (World.block_lt_of_cell? w _ hx198_3)).trans hx198_3; replace p198 := eq_true p198; replace q198 := eq_true q198; go_wp2_with (first | ((with_reducible refine gate_dst (N := 9) rfl ?_); refine box_event ?hg (N := 9) ?hd (cs := #[.int .i64 0, .int .i64 0, .int .i64 0, .int .u8 0]) (t := 41) ?hr ?_; (case hd => rfl); (case hg => rfl); (case hr => first | (go_simp; done) | (go_simp; rfl)); intro gb199 hg w21 hbox hb; have n0_ := zA.mk (zL (g := gb192) (o := .cells #[.slice A0_0 l0_0.length c0_0, .slice A0_1 l0_1.length c0_1] 35 (0, 0)) (by (with_reducible repeat (first | refine zC ?_ _ | refine zD ?_ | refine zB ?_ _)); exact BK192.out) hb); have n1_ := zA.mk (zO (by repeat (first | (with_reducible first | exact HB.out | apply zI | apply zF | apply zH | refine zE ?_ GE192.out) | exact HB.out)) hb); have n2_ := zA.mk (hbox); have n3_ := zA.mk ((by rw [hg]; exact (zK (by repeat (first | (with_reducible first | exact HB.out | apply zI | apply zF | apply zH | refine zE ?_ GE192.out) | exact HB.out))) : w.heap.size ≤ gb199)); have n4_ := zA.mk ((by rw [hg]; exact (zK (by repeat (first | (with_reducible first | exact HB.out | apply zI | apply zF | apply zH | refine zE ?_ GE192.out) | exact HB.out))) : w.heap.size ≤ gb199)); have n5_ := zA.mk ((by rw [hg]; exact Nat.ne_of_lt (blk_lt (g := gb192) (o := .cells #[.slice A0_0 l0_0.length c0_0, .slice A0_1 l0_1.length c0_1] 35 (0, 0)) (by (with_reducible repeat (first | refine zC ?_ _ | refine zD ?_ | refine zB ?_ _)); exact BK192.out)) : gb192 ≠ gb199)); have n6_ := zA.mk ((by rw [hg]; exact Nat.ne_of_gt (blk_lt (g := gb192) (o := .cells #[.slice A0_0 l0_0.length c0_0, .slice A0_1 l0_1.length c0_1] 35 (0, 0)) (by (with_reducible repeat (first | refine zC ?_ _ | refine zD ?_ | refine zB ?_ _)); exact BK192.out)) : gb199 ≠ gb192)); clear BK192; clear HB; have BK192 := n0_; have HB := n1_; have BK199 := n2_; have GW199 := n3_; have GE199 := n4_; have NB192_199 := n5_; have NB199_192 := n6_; clear n0_ n1_ n2_ n3_ n4_ n5_ n6_; clear hb hbox hg; have hnb22 := NB199_192.out; have hnc22 := NB192_199.out; have hcz23_0 : w21.cell? ⟨gb199, 0, none⟩ = some (.int .i64 0) := (zG BK199.out 0).trans rfl; have hcz23_1 : w21.cell? ⟨gb199, 1, none⟩ = some (.int .i64 0) := (zG BK199.out 1).trans rfl; have hcz23_2 : w21.cell? ⟨gb199, 2, none⟩ = some (.int .i64 0) := (zG BK199.out 2).trans rfl; have hcz23_3 : w21.cell? ⟨gb199, 3, none⟩ = some (.int .u8 0) := (zG BK199.out 3).trans rfl; have hfz23_0 := zJ BK199.out 0; have hfz23_1 := zJ BK199.out 1; have hfz23_2 := zJ BK199.out 2; have hfz23_3 := zJ BK199.out 3) | ((with_reducible refine gate_store (t := 41) (p := 9) rfl ?_); refine store_event (t := 41) (p := 9) (v := ?vo_w24) (w1 := ((((w21.setCell ⟨gb199, 0, none⟩ (.int .i64 ((rd_T41 y194 x19_1).f0))).setCell ⟨gb199, 1, none⟩ (.int .i64 ((rd_T41 y194 x19_1).f1))).setCell ⟨gb199, 2, none⟩ (.int .i64 ((rd_T41 y194 x19_1).f2))).setCell ⟨gb199, 3, none⟩ (.int .u8 ((rd_T41 y194 x19_1).f3)))) ?hg ?ho ?hn ?hr ?_; (case ho => rfl); (case hg => rfl); (case hn => rfl); (case hr => first | (go_simp; done) | (go_simp; rfl)); intro w24 hw; have n0_ : zA (w24.heap[gb192]? = some (.cells #[.slice A0_0 l0_0.length c0_0, .slice A0_1 l0_1.length c0_1] 35 (0, 0))) := ⟨(by rw [hw]; exact (by (with_reducible repeat (first | refine zC ?_ _ | refine zD ?_ | refine zB ?_ _)); refine blk_far ?_ NB192_199.out _; (with_reducible repeat (first | refine zC ?_ _ | refine zD ?_ | refine zB ?_ _)); refine blk_far ?_ NB192_199.out _; (with_reducible repeat (first | refine zC ?_ _ | refine zD ?_ | refine zB ?_ _)); refine blk_far ?_ NB192_199.out _; (with_reducible repeat (first | refine zC ?_ _ | refine zD ?_ | refine zB ?_ _)); refine blk_far ?_ NB192_199.out _; (with_reducible repeat (first | refine zC ?_ _ | refine zD ?_ | refine zB ?_ _)); exact BK192.out))⟩; have n1_ : zA (w24.heap[gb199]? = some (.cells #[.int .i64 ((rd_T41 y194 x19_1).f0), .int .i64 ((rd_T41 y194 x19_1).f1), .int .i64 ((rd_T41 y194 x19_1).f2), .int .u8 ((rd_T41 y194 x19_1).f3)] 41 (0, 0))) := ⟨(by rw [hw]; exact (by (with_reducible repeat (first | refine zC ?_ _ | refine zD ?_ | refine zB ?_ _)); refine blk_put (cs := #[.int .i64 ((rd_T41 y194 x19_1).f0), .int .i64 ((rd_T41 y194 x19_1).f1), .int .i64 ((rd_T41 y194 x19_1).f2), .int .u8 0]) ?_ 3 _ rfl; (with_reducible repeat (first | refine zC ?_ _ | refine zD ?_ | refine zB ?_ _)); refine blk_put (cs := #[.int .i64 ((rd_T41 y194 x19_1).f0), .int .i64 ((rd_T41 y194 x19_1).f1), .int .i64 0, .int .u8 0]) ?_ 2 _ rfl; (with_reducible repeat (first | refine zC ?_ _ | refine zD ?_ | refine zB ?_ _)); refine blk_put (cs := #[.int .i64 ((rd_T41 y194 x19_1).f0), .int .i64 0, .int .i64 0, .int .u8 0]) ?_ 1 _ rfl; (with_reducible repeat (first | refine zC ?_ _ | refine zD ?_ | refine zB ?_ _)); refine blk_put (cs := #[.int .i64 0, .int .i64 0, .int .i64 0, .int .u8 0]) ?_ 0 _ rfl; (with_reducible repeat (first | refine zC ?_ _ | refine zD ?_ | refine zB ?_ _)); exact BK199.out))⟩; have n2_ : zA (Below w.heap.size w w24) := ⟨(by rw [hw]; exact (by repeat (first | (with_reducible first | exact HB.out | apply zI | apply zF | apply zH | refine zE ?_ GE192.out | refine zE ?_ GE199.out) | exact HB.out)))⟩; clear hw; clear BK192; clear BK199; clear HB; have BK192 := n0_; have BK199 := n1_; have HB := n2_; clear n0_ n1_ n2_; have hcz25_0 : w24.cell? ⟨gb199, 0, none⟩ = some (.int .i64 ((rd_T41 y194 x19_1).f0)) := (zG BK199.out 0).trans rfl; have hcz25_1 : w24.cell? ⟨gb199, 1, none⟩ = some (.int .i64 ((rd_T41 y194 x19_1).f1)) := (zG BK199.out 1).trans rfl; have hcz25_2 : w24.cell? ⟨gb199, 2, none⟩ = some (.int .i64 ((rd_T41 y194 x19_1).f2)) := (zG BK199.out 2).trans rfl; have hcz25_3 : w24.cell? ⟨gb199, 3, none⟩ = some (.int .u8 ((rd_T41 y194 x19_1).f3)) := (zG BK199.out 3).trans rfl; have hfz25_0 := zJ BK199.out 0; have hfz25_1 := zJ BK199.out 1; have hfz25_2 := zJ BK199.out 2; have hfz25_3 := zJ BK199.out 3))
                    go_roundg k1
                    case measure => have := HK1.out; omega
                    case rel => exact ⟨(x7_1), (wrap64 (x19_1 + 1)), (by first | rfl | (simp; done) | (simp [*]; done)), (by first | rfl | (simp; done) | (simp [*]; done)), H', ⟨by have := HK1.out; omega⟩, ⟨by (with_reducible repeat (first | refine zC ?_ _ | refine zD ?_ | refine zB ?_ _)); exact BK192.out⟩, ⟨by repeat (first | (with_reducible first | exact HB.out | apply zI | apply zF | apply zH | refine zE ?_ GE192.out | refine zE ?_ GE199.out) | exact HB.out)⟩⟩
                · rw [if_neg c14] at H
                  exact absurd H (by simp)
              · rw [if_neg c13] at H
                exact absurd H (by simp)
            · rw [if_neg c12] at H
              have c12b0 : decide (x19_1 < (y194.length : Int)) = false := decide_eq_false c12
              clear c12; obtain rfl := Option.some.inj H
              go_wp2
              go_ret
              exact ⟨by first | rfl | (simp [errW_none, errW_some] <;> rfl) | (simp [*, errW_none, errW_some] <;> rfl), by repeat (first | (with_reducible first | exact HB.out | apply zI | apply zF | apply zH | refine zE ?_ GE192.out) | exact HB.out)⟩
      · rw [if_neg c7] at H
        exact absurd H (by simp)
    · rw [if_neg c6] at H
      exact absurd H (by simp)
  · rw [if_neg c5] at H
    exact absurd H (by simp)
end Go.Proofs.Ytbnoeeflpegcoaa.F
end
section
namespace Go.Proofs.Ytbnoeeflpegcoaa.F
open Go.RowKit Go.Proofs.YtbnoeeflpegcoaaW.PrintWords Go.Proofs.YtbnoeeflpegcoaaW.PrintLast Go.Proofs.YtbnoeeflpegcoaaW.PrintMore
attribute [local go_sem] max2_int min2_int max_two min_two max_three min_three max_four min_four   -- for this text's walks alone
set_option linter.unusedVariables false
set_option linter.unusedSimpArgs false
mutual
def just_Line.l0 : Nat → Int → List Int → List Int → Int → List (S41) → List Int → Int → Int → Int → Int → Int → Int → Int → Int → Int → Nat → Option (List Int)
  | 0, _, _, _, _, _, _, _, _, _, _, _, _, _, _, _, _ => none
  | k + 1, x7, x8, x9, x10, x501000, x501001, x502000, x502001, x502002, x502003, x503000, x503001, x503002, x503003, x503004, x503005 => if x10 < x7 then (if 0 ≤ (wrap64 ((wrap64 (x10 - x502000)) + 1)) then (if (wrap64 ((wrap64 (x10 - x502000)) + 1)) < (x8.length : Int) then (if 0 ≤ (wrap64 (x10 - x502000)) then (if (wrap64 (x10 - x502000)) < (x8.length : Int) then (if x9.length < 17592186044416 then (just_Line.l0 k x7 x8 (x9 ++ [wrap64 ((rd x8 (wrap64 ((wrap64 (x10 - x502000)) + 1))) - (rd x8 (wrap64 (x10 - x502000))))]) (wrap64 (x10 + 1)) x501000 x501001 x502000 x502001 x502002 x502003 x503000 x503001 x503002 x503003 x503004 x503005) else (none)) else (none)) else (none)) else (none)) else (none)) else (if x502003 = 2 then (just_Line.j1 k x9 true x501000 x501001 x502000 x502001 x502002 x502003 x503000 x503001 x503002 x503003 x503004 x503005) else (just_Line.j1 k x9 (x502003 == 4) x501000 x501001 x502000 x502001 x502002 x502003 x503000 x503001 x503002 x503003 x503004 x503005))
def just_Line.j1 : Nat → List Int → Bool → List (S41) → List Int → Int → Int → Int → Int → Int → Int → Int → Int → Int → Nat → Option (List Int)
  | 0, _, _, _, _, _, _, _, _, _, _, _, _, _, _ => none
  | k + 1, x9, x60, x501000, x501001, x502000, x502001, x502002, x502003, x503000, x503001, x503002, x503003, x503004, x503005 => if x60 = true then (some x9) else ((span_Cells.f k x501000 x501001 x502000 x502001 x502003 x503001).bind fun t512 => ((span_Gaps.f k x501000 x501001 x502000 x502001).bind fun t513 => ((just_Spread.f k (wrap64 (x503000 - t512)) t513).bind fun t514 => (just_Line.l1 k x9 t514 0 (x9.length : Int) 0 x501000 x501001 x502000 x502001 x502002 x502003))))
def just_Line.l1 : Nat → List Int → List Int → Int → Int → Int → List (S41) → List Int → Int → Int → Int → Int → Option (List Int)
  | 0, _, _, _, _, _, _, _, _, _, _, _ => none
  | k + 1, x9, x11, x12, x83, x84, x501000, x501001, x502000, x502001, x502002, x502003 => if x84 < x83 then (if 0 ≤ (wrap64 (x502000 + x84)) then (if (wrap64 (x502000 + x84)) < (x501000.length : Int) then (if ((rd_T41 x501000 (wrap64 (x502000 + x84))).f3) = 1 then (if x12 < (x11.length : Int) then (if 0 ≤ x84 then (if x84 < (x9.length : Int) then (if 0 ≤ x12 then (just_Line.l1 k (x9.set (x84 : Int).toNat (wrap64 ((rd x9 x84) + (rd x11 x12)))) x11 (wrap64 (x12 + 1)) x83 (wrap64 (x84 + 1)) x501000 x501001 x502000 x502001 x502002 x502003) else (none)) else (none)) else (none)) else (just_Line.l1 k x9 x11 x12 x83 (wrap64 (x84 + 1)) x501000 x501001 x502000 x502001 x502002 x502003)) else (just_Line.l1 k x9 x11 x12 x83 (wrap64 (x84 + 1)) x501000 x501001 x502000 x502001 x502002 x502003)) else (none)) else (none)) else (some x9)
end
def just_Line.f (k : Nat) (l0_0 : List (S41)) (l0_1 : List Int) (a1_0 : Int) (a1_1 : Int) (a1_2 : Int) (a1_3 : Int) (a2_0 : Int) (a2_1 : Int) (a2_2 : Int) (a2_3 : Int) (a2_4 : Int) (a2_5 : Nat) : Option (List Int) := (span_Trim.f k l0_0 l0_1 a1_0 a1_1).bind fun t503 => ((span_Columns.f k l0_0 l0_1 a1_0 t503 a2_1).bind fun t504 => (just_Line.l0 k t503 t504 ([] : List Int) a1_0 l0_0 l0_1 a1_0 a1_1 a1_2 a1_3 a2_0 a2_1 a2_2 a2_3 a2_4 a2_5))
theorem just_Line.mono_l : ∀ k, (∀ y0 y1 y2 y3 y4 y5 y6 y7 y8 y9 y10 y11 y12 y13 y14 y15, LeO (just_Line.l0 k y0 y1 y2 y3 y4 y5 y6 y7 y8 y9 y10 y11 y12 y13 y14 y15) (just_Line.l0 (k + 1) y0 y1 y2 y3 y4 y5 y6 y7 y8 y9 y10 y11 y12 y13 y14 y15)) ∧ (∀ y0 y1 y2 y3 y4 y5 y6 y7 y8 y9 y10 y11 y12 y13, LeO (just_Line.j1 k y0 y1 y2 y3 y4 y5 y6 y7 y8 y9 y10 y11 y12 y13) (just_Line.j1 (k + 1) y0 y1 y2 y3 y4 y5 y6 y7 y8 y9 y10 y11 y12 y13)) ∧ (∀ y0 y1 y2 y3 y4 y5 y6 y7 y8 y9 y10, LeO (just_Line.l1 k y0 y1 y2 y3 y4 y5 y6 y7 y8 y9 y10) (just_Line.l1 (k + 1) y0 y1 y2 y3 y4 y5 y6 y7 y8 y9 y10))
  | 0 => ⟨fun _ _ _ _ _ _ _ _ _ _ _ _ _ _ _ _ r h => by simp [just_Line.l0] at h, fun _ _ _ _ _ _ _ _ _ _ _ _ _ _ r h => by simp [just_Line.j1] at h, fun _ _ _ _ _ _ _ _ _ _ _ r h => by simp [just_Line.l1] at h⟩
  | k + 1 => by
    obtain ⟨ih0, ih1, ih2⟩ := just_Line.mono_l k; refine ⟨?_, ?_, ?_⟩
    · intro y0 y1 y2 y3 y4 y5 y6 y7 y8 y9 y10 y11 y12 y13 y14 y15
      unfold just_Line.l0
      repeat' first
      | (with_reducible exact ih0 _ _ _ _ _ _ _ _ _ _ _ _ _ _ _ _)
      | (with_reducible exact ih1 _ _ _ _ _ _ _ _ _ _ _ _ _ _)
      | (with_reducible exact ih2 _ _ _ _ _ _ _ _ _ _ _)
      | (with_reducible exact just_Spread.mono _ _ _)
      | (with_reducible exact span_Cells.mono _ _ _ _ _ _ _)
      | (with_reducible exact span_Columns.mono _ _ _ _ _ _)
      | (with_reducible exact span_Gaps.mono _ _ _ _ _)
      | (with_reducible exact span_Trim.mono _ _ _ _ _)
      | (with_reducible exact LeO.refl _)
      | (with_reducible exact LeO.none _)
      | (with_reducible refine LeO.ite ?_ ?_)
      | (with_reducible refine LeO.bind ?_ (fun _ => ?_))
      | exact ih0 _ _ _ _ _ _ _ _ _ _ _ _ _ _ _ _
      | exact ih1 _ _ _ _ _ _ _ _ _ _ _ _ _ _
      | exact ih2 _ _ _ _ _ _ _ _ _ _ _
      | exact just_Spread.mono _ _ _
      | exact span_Cells.mono _ _ _ _ _ _ _
      | exact span_Columns.mono _ _ _ _ _ _
      | exact span_Gaps.mono _ _ _ _ _
      | exact span_Trim.mono _ _ _ _ _
      | exact LeO.none _
      | refine LeO.ite ?_ ?_
      | refine LeO.bind ?_ (fun _ => ?_)
    · intro y0 y1 y2 y3 y4 y5 y6 y7 y8 y9 y10 y11 y12 y13
      unfold just_Line.j1
      repeat' first
      | (with_reducible exact ih0 _ _ _ _ _ _ _ _ _ _ _ _ _ _ _ _)
      | (with_reducible exact ih1 _ _ _ _ _ _ _ _ _ _ _ _ _ _)
      | (with_reducible exact ih2 _ _ _ _ _ _ _ _ _ _ _)
      | (with_reducible exact just_Spread.mono _ _ _)
      | (with_reducible exact span_Cells.mono _ _ _ _ _ _ _)
      | (with_reducible exact span_Columns.mono _ _ _ _ _ _)
      | (with_reducible exact span_Gaps.mono _ _ _ _ _)
      | (with_reducible exact span_Trim.mono _ _ _ _ _)
      | (with_reducible exact LeO.refl _)
      | (with_reducible exact LeO.none _)
      | (with_reducible refine LeO.ite ?_ ?_)
      | (with_reducible refine LeO.bind ?_ (fun _ => ?_))
      | exact ih0 _ _ _ _ _ _ _ _ _ _ _ _ _ _ _ _
      | exact ih1 _ _ _ _ _ _ _ _ _ _ _ _ _ _
      | exact ih2 _ _ _ _ _ _ _ _ _ _ _
      | exact just_Spread.mono _ _ _
      | exact span_Cells.mono _ _ _ _ _ _ _
      | exact span_Columns.mono _ _ _ _ _ _
      | exact span_Gaps.mono _ _ _ _ _
      | exact span_Trim.mono _ _ _ _ _
      | exact LeO.none _
      | refine LeO.ite ?_ ?_
      | refine LeO.bind ?_ (fun _ => ?_)
    · intro y0 y1 y2 y3 y4 y5 y6 y7 y8 y9 y10
      unfold just_Line.l1
      repeat' first
      | (with_reducible exact ih0 _ _ _ _ _ _ _ _ _ _ _ _ _ _ _ _)
      | (with_reducible exact ih1 _ _ _ _ _ _ _ _ _ _ _ _ _ _)
      | (with_reducible exact ih2 _ _ _ _ _ _ _ _ _ _ _)
      | (with_reducible exact just_Spread.mono _ _ _)
      | (with_reducible exact span_Cells.mono _ _ _ _ _ _ _)
      | (with_reducible exact span_Columns.mono _ _ _ _ _ _)
      | (with_reducible exact span_Gaps.mono _ _ _ _ _)
      | (with_reducible exact span_Trim.mono _ _ _ _ _)
      | (with_reducible exact LeO.refl _)
      | (with_reducible exact LeO.none _)
      | (with_reducible refine LeO.ite ?_ ?_)
      | (with_reducible refine LeO.bind ?_ (fun _ => ?_))
      | exact ih0 _ _ _ _ _ _ _ _ _ _ _ _ _ _ _ _
      | exact ih1 _ _ _ _ _ _ _ _ _ _ _ _ _ _
      | exact ih2 _ _ _ _ _ _ _ _ _ _ _
      | exact just_Spread.mono _ _ _
      | exact span_Cells.mono _ _ _ _ _ _ _
      | exact span_Columns.mono _ _ _ _ _ _
      | exact span_Gaps.mono _ _ _ _ _
      | exact span_Trim.mono _ _ _ _ _
      | exact LeO.none _
      | refine LeO.ite ?_ ?_
      | refine LeO.bind ?_ (fun _ => ?_)
theorem just_Line.mono : ∀ a0 a1 a2 a3 a4 a5 a6 a7 a8 a9 a10 a11 k, LeO (just_Line.f k a0 a1 a2 a3 a4 a5 a6 a7 a8 a9 a10 a11) (just_Line.f (k + 1) a0 a1 a2 a3 a4 a5 a6 a7 a8 a9 a10 a11) := by
  intro a0 a1 a2 a3 a4 a5 a6 a7 a8 a9 a10 a11 k
  obtain ⟨ih0, ih1, ih2⟩ := just_Line.mono_l k; unfold just_Line.f
  repeat' first
      | (with_reducible exact ih0 _ _ _ _ _ _ _ _ _ _ _ _ _ _ _ _)
      | (with_reducible exact ih1 _ _ _ _ _ _ _ _ _ _ _ _ _ _)
      | (with_reducible exact ih2 _ _ _ _ _ _ _ _ _ _ _)
      | (with_reducible exact just_Spread.mono _ _ _)
      | (with_reducible exact span_Cells.mono _ _ _ _ _ _ _)
      | (with_reducible exact span_Columns.mono _ _ _ _ _ _)
      | (with_reducible exact span_Gaps.mono _ _ _ _ _)
      | (with_reducible exact span_Trim.mono _ _ _ _ _)
      | (with_reducible exact LeO.refl _)
      | (with_reducible exact LeO.none _)
      | (with_reducible refine LeO.ite ?_ ?_)
      | (with_reducible refine LeO.bind ?_ (fun _ => ?_))
      | exact ih0 _ _ _ _ _ _ _ _ _ _ _ _ _ _ _ _
      | exact ih1 _ _ _ _ _ _ _ _ _ _ _ _ _ _
      | exact ih2 _ _ _ _ _ _ _ _ _ _ _
      | exact just_Spread.mono _ _ _
      | exact span_Cells.mono _ _ _ _ _ _ _
      | exact span_Columns.mono _ _ _ _ _ _
      | exact span_Gaps.mono _ _ _ _ _
      | exact span_Trim.mono _ _ _ _ _
      | exact LeO.none _
      | refine LeO.ite ?_ ?_
      | refine LeO.bind ?_ (fun _ => ?_)
def just_Line.T7 : Bool × List (List Nat × List Nat) := (true, [([], []), ([], []), ([], []), ([], []), ([3], [3]), ([2, 4], [2, 4]), ([5], [5]), ([1, 6], [1, 6]), ([7], [7]), ([], []), ([], []), ([], []), ([11], [11]), ([10, 12], [10, 12]), ([9, 13], [9, 13]), ([14], [14]), ([8, 15], [8, 15]), ([16], [16]), ([0, 17], [0, 17]), ([18, 18, 0, 1, 2, 3, 4, 5, 6, 7, 8, 9, 10, 11, 12, 13, 14, 15, 16, 17, 18], [0, 18])])
def just_Line.B7 : List Nat := [0, 0, 0, 0, 8, 28, 60, 126, 254, 0, 0, 0, 2048, 7168, 15872, 32256, 65534, 131070, 262143, 524287]
theorem just_Line.tab7 : rtab .any (opsOf Try.f37 7) = just_Line.T7 := by kernel_rfl
theorem just_Line.bits7 : waitsOk just_Line.T7.2 just_Line.B7 = true := by kernel_rfl
def just_Line.T10 : Bool × List (List Nat × List Nat) := (true, [([], []), ([0], [0]), ([], []), ([], []), ([3], [3]), ([], []), ([5], [5]), ([], []), ([7], [7]), ([], []), ([9], [9]), ([2, 4, 6, 8, 10], [2, 4, 6, 8, 10]), ([1, 11], [1, 11]), ([], []), ([], []), ([14], [14]), ([], []), ([16], [16]), ([13, 15, 17, 11], [13, 15, 17]), ([12, 18, 18], [12, 18]), ([19, 19, 0, 1, 2, 3, 4, 5, 6, 7, 8, 9, 10, 11, 12, 13, 14, 15, 16, 17, 18, 19], [19])])
def just_Line.B10 : List Nat := [0, 1, 0, 0, 8, 0, 32, 0, 128, 0, 512, 2044, 4095, 0, 0, 16384, 0, 65536, 258044, 524287, 1048575]
theorem just_Line.tab10 : rtab .any (opsOf Try.f37 10) = just_Line.T10 := by kernel_rfl
theorem just_Line.bits10 : waitsOk just_Line.T10.2 just_Line.B10 = true := by kernel_rfl
def just_Line.T16 : Bool × List (List Nat × List Nat) := (true, [([], []), ([], []), ([0, 1], [0, 1]), ([2], [2]), ([], []), ([], []), ([4, 5], [4, 5]), ([6], [6]), ([3, 7], [3, 7]), ([0, 1, 0, 1, 2, 3, 4, 5, 6, 7, 8], [0, 1]), ([9, 8, 0, 1, 2, 3, 4, 5, 6, 7, 8], [8, 9])])
def just_Line.B16 : List Nat := [0, 0, 3, 7, 0, 0, 48, 112, 255, 511, 1023]
theorem just_Line.tab16 : rtab .any (opsOf Try.f37 16) = just_Line.T16 := by kernel_rfl
theorem just_Line.bits16 : waitsOk just_Line.T16.2 just_Line.B16 = true := by kernel_rfl
set_option maxHeartbeats 8000000 in
set_option maxRecDepth 100000 in
theorem just_Line.calls (k : Nat) (A0_0 : Option Addr) (c0_0 : Nat) (l0_0 : List (S41)) (A0_1 : Option Addr) (c0_1 : Nat) (l0_1 : List Int) (a1_0 : Int) (a1_1 : Int) (a1_2 : Int) (a1_3 : Int) (a2_0 : Int) (a2_1 : Int) (a2_2 : Int) (a2_3 : Int) (a2_4 : Int) (a2_5 : Nat) (r : List Int) (w : World) (hr0_0 : Kd.C k41 w A0_0 l0_0.length l0_0) (hc0_0 : l0_0.length ≤ c0_0) (hr0_1 : Kd.C (Kd.int .u8) w A0_1 l0_1.length l0_1) (hc0_1 : l0_1.length ≤ c0_1) (h : just_Line.f k l0_0 l0_1 a1_0 a1_1 a1_2 a1_3 a2_0 a2_1 a2_2 a2_3 a2_4 a2_5 = some r) :
    Calls Try.prog 37 #[.agg #[.slice A0_0 l0_0.length c0_0, .slice A0_1 l0_1.length c0_1], .agg #[.int .i64 a1_0, .int .i64 a1_1, .int .i64 a1_2, .int .u8 a1_3], .agg #[.int .i64 a2_0, .int .i64 a2_1, .int .u8 a2_2, .int .i64 a2_3, .int .i64 a2_4, .float .f64 a2_5]] w fun e w' => ∃ v0_ : Value, e = .returned (v0_) ∧ Kd.R (Kd.int .i64) 3 w' w.heap.size (fun _ => True) v0_ r ∧ Below w.heap.size w w' := by
  have hu35 := Try.underlying35; have hu63 := Try.underlying63; have hu58 := Try.underlying58; have HR0_0 := zA.mk hr0_0; have HC0_0 := zA.mk hc0_0; clear hr0_0 hc0_0; have HR0_1 := zA.mk hr0_1; have HC0_1 := zA.mk hc0_1; clear hr0_1 hc0_1; have HB := zA.mk (Below.refl w.heap.size w); have H : ((span_Trim.f k l0_0 l0_1 a1_0 a1_1).bind fun t503 => ((span_Columns.f k l0_0 l0_1 a1_0 t503 a2_1).bind fun t504 => (just_Line.l0 k t503 t504 ([] : List Int) a1_0 l0_0 l0_1 a1_0 a1_1 a1_2 a1_3 a2_0 a2_1 a2_2 a2_3 a2_4 a2_5))) = some r := h
  clear h; replace H := Option.bind_eq_some_iff.mp H; obtain ⟨t503, A40, H⟩ := H; replace H : ((span_Columns.f k l0_0 l0_1 a1_0 t503 a2_1).bind fun t504 => (just_Line.l0 k t503 t504 ([] : List Int) a1_0 l0_0 l0_1 a1_0 a1_1 a1_2 a1_3 a2_0 a2_1 a2_2 a2_3 a2_4 a2_5)) = some r := H
  have A4 := zA.mk A40; clear A40; replace H := Option.bind_eq_some_iff.mp H; obtain ⟨t504, A50, H⟩ := H; replace H : (just_Line.l0 k t503 t504 ([] : List Int) a1_0 l0_0 l0_1 a1_0 a1_1 a1_2 a1_3 a2_0 a2_1 a2_2 a2_3 a2_4 a2_5) = some r := H; have A5 := zA.mk A50; clear A50; have H' := zA.mk H
  clear H; go_enter Try.func37, Try.ntmps37
  go_wp2_with (first | ((with_reducible refine gate_dst (N := 3) rfl ?_); (try (refine gate_guard (by rfl) ?_; dsimp only)); refine box_event ?hg (N := 3) ?hd (cs := #[.slice A0_0 l0_0.length c0_0, .slice A0_1 l0_1.length c0_1]) (t := 35) ?hr ?_; (case hd => rfl); (case hg => rfl); (case hr => first | (go_simp; done) | (go_simp; rfl)); intro gb500 hg w6 hbox hb; have n0_ := zA.mk (zO (by repeat (first | (with_reducible first | exact HB.out | apply zI | apply zF | apply zH) | exact HB.out)) hb); have n1_ := zA.mk (hbox); have n2_ := zA.mk ((by rw [hg]; exact (zK (by repeat (first | (with_reducible first | exact HB.out | apply zI | apply zF | apply zH) | exact HB.out))) : w.heap.size ≤ gb500)); have n3_ := zA.mk ((by rw [hg]; exact (zK (by repeat (first | (with_reducible first | exact HB.out | apply zI | apply zF | apply zH) | exact HB.out))) : w.heap.size ≤ gb500)); clear HB; have HB := n0_; have BK500 := n1_; have GW500 := n2_; have GE500 := n3_; clear n0_ n1_ n2_ n3_; clear hb hbox hg) | ((with_reducible refine gate_dst (N := 4) rfl ?_); (try (refine gate_guard (by rfl) ?_; dsimp only)); refine box_event ?hg (N := 4) ?hd (cs := #[.int .i64 a1_0, .int .i64 a1_1, .int .i64 a1_2, .int .u8 a1_3]) (t := 63) ?hr ?_; (case hd => rfl); (case hg => rfl); (case hr => first | (go_simp; done) | (go_simp; rfl)); intro gb501 hg w7 hbox hb; have n0_ := zA.mk (zL (g := gb500) (o := .cells #[.slice A0_0 l0_0.length c0_0, .slice A0_1 l0_1.length c0_1] 35 (0, 0)) (by (with_reducible repeat (first | refine zC ?_ _ | refine zD ?_ | refine zB ?_ _)); exact BK500.out) hb); have n1_ := zA.mk (zO (by repeat (first | (with_reducible first | exact HB.out | apply zI | apply zF | apply zH | refine zE ?_ GE500.out) | exact HB.out)) hb); have n2_ := zA.mk (hbox); have n3_ := zA.mk ((by rw [hg]; exact (zK (by repeat (first | (with_reducible first | exact HB.out | apply zI | apply zF | apply zH | refine zE ?_ GE500.out) | exact HB.out))) : w.heap.size ≤ gb501)); have n4_ := zA.mk ((by rw [hg]; exact (zK (by repeat (first | (with_reducible first | exact HB.out | apply zI | apply zF | apply zH | refine zE ?_ GE500.out) | exact HB.out))) : w.heap.size ≤ gb501)); have n5_ := zA.mk ((by rw [hg]; exact Nat.ne_of_lt (blk_lt (g := gb500) (o := .cells #[.slice A0_0 l0_0.length c0_0, .slice A0_1 l0_1.length c0_1] 35 (0, 0)) (by (with_reducible repeat (first | refine zC ?_ _ | refine zD ?_ | refine zB ?_ _)); exact BK500.out)) : gb500 ≠ gb501)); have n6_ := zA.mk ((by rw [hg]; exact Nat.ne_of_gt (blk_lt (g := gb500) (o := .cells #[.slice A0_0 l0_0.length c0_0, .slice A0_1 l0_1.length c0_1] 35 (0, 0)) (by (with_reducible repeat (first | refine zC ?_ _ | refine zD ?_ | refine zB ?_ _)); exact BK500.out)) : gb501 ≠ gb500)); clear BK500; clear HB; have BK500 := n0_; have HB := n1_; have BK501 := n2_; have GW501 := n3_; have GE501 := n4_; have NB500_501 := n5_; have NB501_500 := n6_; clear n0_ n1_ n2_ n3_ n4_ n5_ n6_; clear hb hbox hg) | ((with_reducible refine gate_dst (N := 5) rfl ?_); (try (refine gate_guard (by rfl) ?_; dsimp only)); refine box_event ?hg (N := 5) ?hd (cs := #[.int .i64 a2_0, .int .i64 a2_1, .int .u8 a2_2, .int .i64 a2_3, .int .i64 a2_4, .float .f64 a2_5]) (t := 58) ?hr ?_; (case hd => rfl); (case hg => rfl); (case hr => first | (go_simp; done) | (go_simp; rfl)); intro gb502 hg w8 hbox hb; have n0_ := zA.mk (zL (g := gb500) (o := .cells #[.slice A0_0 l0_0.length c0_0, .slice A0_1 l0_1.length c0_1] 35 (0, 0)) (by (with_reducible repeat (first | refine zC ?_ _ | refine zD ?_ | refine zB ?_ _)); exact BK500.out) hb); have n1_ := zA.mk (zL (g := gb501) (o := .cells #[.int .i64 a1_0, .int .i64 a1_1, .int .i64 a1_2, .int .u8 a1_3] 63 (0, 0)) (by (with_reducible repeat (first | refine zC ?_ _ | refine zD ?_ | refine zB ?_ _)); exact BK501.out) hb); have n2_ := zA.mk (zO (by repeat (first | (with_reducible first | exact HB.out | apply zI | apply zF | apply zH | refine zE ?_ GE500.out | refine zE ?_ GE501.out) | exact HB.out)) hb); have n3_ := zA.mk (hbox); have n4_ := zA.mk ((by rw [hg]; exact (zK (by repeat (first | (with_reducible first | exact HB.out | apply zI | apply zF | apply zH | refine zE ?_ GE500.out | refine zE ?_ GE501.out) | exact HB.out))) : w.heap.size ≤ gb502)); have n5_ := zA.mk ((by rw [hg]; exact (zK (by repeat (first | (with_reducible first | exact HB.out | apply zI | apply zF | apply zH | refine zE ?_ GE500.out | refine zE ?_ GE501.out) | exact HB.out))) : w.heap.size ≤ gb502)); have n6_ := zA.mk ((by rw [hg]; exact Nat.ne_of_lt (blk_lt (g := gb500) (o := .cells #[.slice A0_0 l0_0.length c0_0, .slice A0_1 l0_1.length c0_1] 35 (0, 0)) (by (with_reducible repeat (first | refine zC ?_ _ | refine zD ?_ | refine zB ?_ _)); exact BK500.out)) : gb500 ≠ gb502)); have n7_ := zA.mk ((by rw [hg]; exact Nat.ne_of_gt (blk_lt (g := gb500) (o := .cells #[.slice A0_0 l0_0.length c0_0, .slice A0_1 l0_1.length c0_1] 35 (0, 0)) (by (with_reducible repeat (first | refine zC ?_ _ | refine zD ?_ | refine zB ?_ _)); exact BK500.out)) : gb502 ≠ gb500)); have n8_ := zA.mk ((by rw [hg]; exact Nat.ne_of_lt (blk_lt (g := gb501) (o := .cells #[.int .i64 a1_0, .int .i64 a1_1, .int .i64 a1_2, .int .u8 a1_3] 63 (0, 0)) (by (with_reducible repeat (first | refine zC ?_ _ | refine zD ?_ | refine zB ?_ _)); exact BK501.out)) : gb501 ≠ gb502)); have n9_ := zA.mk ((by rw [hg]; exact Nat.ne_of_gt (blk_lt (g := gb501) (o := .cells #[.int .i64 a1_0, .int .i64 a1_1, .int .i64 a1_2, .int .u8 a1_3] 63 (0, 0)) (by (with_reducible repeat (first | refine zC ?_ _ | refine zD ?_ | refine zB ?_ _)); exact BK501.out)) : gb502 ≠ gb501)); clear BK500; clear BK501; clear HB; have BK500 := n0_; have BK501 := n1_; have HB := n2_; have BK502 := n3_; have GW502 := n4_; have GE502 := n5_; have NB500_502 := n6_; have NB502_500 := n7_; have NB501_502 := n8_; have NB502_501 := n9_; clear n0_ n1_ n2_ n3_ n4_ n5_ n6_ n7_ n8_ n9_; clear hb hbox hg; have hnb9 := NB500_501.out; have hnc9 := NB501_500.out; have hnb10 := NB500_502.out; have hnc10 := NB502_500.out; have hcz11_0 : w8.cell? ⟨gb500, 0, none⟩ = some (.slice A0_0 l0_0.length c0_0) := (zG BK500.out 0).trans rfl; have hcz11_1 : w8.cell? ⟨gb500, 1, none⟩ = some (.slice A0_1 l0_1.length c0_1) := (zG BK500.out 1).trans rfl; have hfz11_0 := zJ BK500.out 0; have hfz11_1 := zJ BK500.out 1; have hnb12 := NB501_502.out; have hnc12 := NB502_501.out; have hcz13_0 : w8.cell? ⟨gb501, 0, none⟩ = some (.int .i64 a1_0) := (zG BK501.out 0).trans rfl; have hcz13_1 : w8.cell? ⟨gb501, 1, none⟩ = some (.int .i64 a1_1) := (zG BK501.out 1).trans rfl; have hcz13_2 : w8.cell? ⟨gb501, 2, none⟩ = some (.int .i64 a1_2) := (zG BK501.out 2).trans rfl; have hcz13_3 : w8.cell? ⟨gb501, 3, none⟩ = some (.int .u8 a1_3) := (zG BK501.out 3).trans rfl; have hfz13_0 := zJ BK501.out 0; have hfz13_1 := zJ BK501.out 1; have hfz13_2 := zJ BK501.out 2; have hfz13_3 := zJ BK501.out 3) | ((with_reducible refine gate_callee (f := 26) rfl ?_); refine goesL_ (some 19) rfl rfl Try.func26 (by kernel_rfl) rfl #[.agg #[.slice A0_0 l0_0.length c0_0, .slice A0_1 l0_1.length c0_1], .int .i64 a1_0, .int .i64 a1_1] rfl (by (try simp only [List.map_toArray, List.map_cons, List.map_nil]); first | done | rfl | (simp only [List.length_drop, List.length_take]; rfl)) ?_; (with_reducible refine (span_Trim.calls k _ _ l0_0 _ _ l0_1 a1_0 a1_1 t503 _ ?side1 ?side2 ?side3 ?side4 A4.out).mono ?_); (case side1 => repeat (first | exact (Kd.C_below HR0_0.out HB.out) | (with_reducible refine Kd.C_alloc ?_ _) | (with_reducible refine Kd.C_drewN ?_ _) | (with_reducible refine Kd.C_drew ?_))); (case side2 => exact HC0_0.out); (case side3 => repeat (first | exact (Kd.C_below HR0_1.out HB.out) | (with_reducible refine Kd.C_alloc ?_ _) | (with_reducible refine Kd.C_drewN ?_ _) | (with_reducible refine Kd.C_drew ?_))); (case side4 => exact HC0_1.out); rintro e w14 ⟨rfl, hb⟩; refine ⟨_, rfl, ?_⟩; have n0_ := zA.mk (zL (g := gb500) (o := .cells #[.slice A0_0 l0_0.length c0_0, .slice A0_1 l0_1.length c0_1] 35 (0, 0)) (by (with_reducible repeat (first | refine zC ?_ _ | refine zD ?_ | refine zB ?_ _)); exact BK500.out) hb); have n1_ := zA.mk (zL (g := gb501) (o := .cells #[.int .i64 a1_0, .int .i64 a1_1, .int .i64 a1_2, .int .u8 a1_3] 63 (0, 0)) (by (with_reducible repeat (first | refine zC ?_ _ | refine zD ?_ | refine zB ?_ _)); exact BK501.out) hb); have n2_ := zA.mk (zL (g := gb502) (o := .cells #[.int .i64 a2_0, .int .i64 a2_1, .int .u8 a2_2, .int .i64 a2_3, .int .i64 a2_4, .float .f64 a2_5] 58 (0, 0)) (by (with_reducible repeat (first | refine zC ?_ _ | refine zD ?_ | refine zB ?_ _)); exact BK502.out) hb); have n3_ := zA.mk (zO (by repeat (first | (with_reducible first | exact HB.out | apply zI | apply zF | apply zH | refine zE ?_ GE500.out | refine zE ?_ GE501.out | refine zE ?_ GE502.out) | exact HB.out)) hb); clear BK500; clear BK501; clear BK502; clear HB; have BK500 := n0_; have BK501 := n1_; have BK502 := n2_; have HB := n3_; clear n0_ n1_ n2_ n3_; (try clear hb); (try clear hb2); (try clear hk); (try clear hi); have hcz15_0 : w14.cell? ⟨gb500, 0, none⟩ = some (.slice A0_0 l0_0.length c0_0) := (zG BK500.out 0).trans rfl; have hcz15_1 : w14.cell? ⟨gb500, 1, none⟩ = some (.slice A0_1 l0_1.length c0_1) := (zG BK500.out 1).trans rfl; have hfz15_0 := zJ BK500.out 0; have hfz15_1 := zJ BK500.out 1; have hcz16_0 : w14.cell? ⟨gb501, 0, none⟩ = some (.int .i64 a1_0) := (zG BK501.out 0).trans rfl; have hcz16_1 : w14.cell? ⟨gb501, 1, none⟩ = some (.int .i64 a1_1) := (zG BK501.out 1).trans rfl; have hcz16_2 : w14.cell? ⟨gb501, 2, none⟩ = some (.int .i64 a1_2) := (zG BK501.out 2).trans rfl; have hcz16_3 : w14.cell? ⟨gb501, 3, none⟩ = some (.int .u8 a1_3) := (zG BK501.out 3).trans rfl; have hfz16_0 := zJ BK501.out 0; have hfz16_1 := zJ BK501.out 1; have hfz16_2 := zJ BK501.out 2; have hfz16_3 := zJ BK501.out 3; have hcz17_0 : w14.cell? ⟨gb502, 0, none⟩ = some (.int .i64 a2_0) := (zG BK502.out 0).trans rfl; have hcz17_1 : w14.cell? ⟨gb502, 1, none⟩ = some (.int .i64 a2_1) := (zG BK502.out 1).trans rfl; have hcz17_2 : w14.cell? ⟨gb502, 2, none⟩ = some (.int .u8 a2_2) := (zG BK502.out 2).trans rfl; have hcz17_3 : w14.cell? ⟨gb502, 3, none⟩ = some (.int .i64 a2_3) := (zG BK502.out 3).trans rfl; have hcz17_4 : w14.cell? ⟨gb502, 4, none⟩ = some (.int .i64 a2_4) := (zG BK502.out 4).trans rfl; have hcz17_5 : w14.cell? ⟨gb502, 5, none⟩ = some (.float .f64 a2_5) := (zG BK502.out 5).trans rfl; have hfz17_0 := zJ BK502.out 0; have hfz17_1 := zJ BK502.out 1; have hfz17_2 := zJ BK502.out 2; have hfz17_3 := zJ BK502.out 3; have hfz17_4 := zJ BK502.out 4; have hfz17_5 := zJ BK502.out 5) | ((with_reducible refine gate_callee (f := 23) rfl ?_); refine goesL_ (some 26) rfl rfl Try.func23 (by kernel_rfl) rfl #[.agg #[.slice A0_0 l0_0.length c0_0, .slice A0_1 l0_1.length c0_1], .int .i64 a1_0, .int .i64 t503, .int .i64 a2_1] rfl (by (try simp only [List.map_toArray, List.map_cons, List.map_nil]); first | done | rfl | (simp only [List.length_drop, List.length_take]; rfl)) ?_; (with_reducible refine (span_Columns.calls k _ _ l0_0 _ _ l0_1 a1_0 t503 a2_1 t504 _ ?side1 ?side2 ?side3 ?side4 A5.out).mono ?_); (case side1 => repeat (first | exact (Kd.C_below HR0_0.out HB.out) | (with_reducible refine Kd.C_alloc ?_ _) | (with_reducible refine Kd.C_drewN ?_ _) | (with_reducible refine Kd.C_drew ?_))); (case side2 => exact HC0_0.out); (case side3 => repeat (first | exact (Kd.C_below HR0_1.out HB.out) | (with_reducible refine Kd.C_alloc ?_ _) | (with_reducible refine Kd.C_drewN ?_ _) | (with_reducible refine Kd.C_drew ?_))); (case side4 => exact HC0_1.out); rintro e w18 ⟨v505, rfl, ho0, hb⟩; refine ⟨_, rfl, ?_⟩; have n0_ := zA.mk (Kd.R_lower ho0 (zK (by repeat (first | (with_reducible first | exact HB.out | apply zI | apply zF | apply zH | refine zE ?_ GE500.out | refine zE ?_ GE501.out | refine zE ?_ GE502.out) | exact HB.out)))); have n1_ := zA.mk (zL (g := gb500) (o := .cells #[.slice A0_0 l0_0.length c0_0, .slice A0_1 l0_1.length c0_1] 35 (0, 0)) (by (with_reducible repeat (first | refine zC ?_ _ | refine zD ?_ | refine zB ?_ _)); exact BK500.out) hb); have n2_ := zA.mk (zL (g := gb501) (o := .cells #[.int .i64 a1_0, .int .i64 a1_1, .int .i64 a1_2, .int .u8 a1_3] 63 (0, 0)) (by (with_reducible repeat (first | refine zC ?_ _ | refine zD ?_ | refine zB ?_ _)); exact BK501.out) hb); have n3_ := zA.mk (zL (g := gb502) (o := .cells #[.int .i64 a2_0, .int .i64 a2_1, .int .u8 a2_2, .int .i64 a2_3, .int .i64 a2_4, .float .f64 a2_5] 58 (0, 0)) (by (with_reducible repeat (first | refine zC ?_ _ | refine zD ?_ | refine zB ?_ _)); exact BK502.out) hb); have n4_ := zA.mk (zO (by repeat (first | (with_reducible first | exact HB.out | apply zI | apply zF | apply zH | refine zE ?_ GE500.out | refine zE ?_ GE501.out | refine zE ?_ GE502.out) | exact HB.out)) hb); clear BK500; clear BK501; clear BK502; clear HB; have HO506 := n0_; have BK500 := n1_; have BK501 := n2_; have BK502 := n3_; have HB := n4_; clear n0_ n1_ n2_ n3_ n4_; (try clear hb); (try clear hb2); (try clear hk); (try clear hi); (try clear ho0); have hcz19_0 : w18.cell? ⟨gb501, 0, none⟩ = some (.int .i64 a1_0) := (zG BK501.out 0).trans rfl; have hcz19_1 : w18.cell? ⟨gb501, 1, none⟩ = some (.int .i64 a1_1) := (zG BK501.out 1).trans rfl; have hcz19_2 : w18.cell? ⟨gb501, 2, none⟩ = some (.int .i64 a1_2) := (zG BK501.out 2).trans rfl; have hcz19_3 : w18.cell? ⟨gb501, 3, none⟩ = some (.int .u8 a1_3) := (zG BK501.out 3).trans rfl; have hfz19_0 := zJ BK501.out 0; have hfz19_1 := zJ BK501.out 1; have hfz19_2 := zJ BK501.out 2; have hfz19_3 := zJ BK501.out 3))
  go_loopg [9, 10] k (fun kq v9 v10 w' => ∃ (x9_1 : List Int) (x10_1 : Int), v10 = .int .i64 x10_1 ∧ zA (just_Line.l0 kq t503 t504 x9_1 x10_1 l0_0 l0_1 a1_0 a1_1 a1_2 a1_3 a2_0 a2_1 a2_2 a2_3 a2_4 a2_5 = some r) ∧ zA (kq ≤ k) ∧ zA (Kd.R (Kd.int .i64) 3 w' w.heap.size (fun k_ => some k_ ≠ (v9 : Value).ownBlock) v505 t504) ∧ zA (Kd.R (Kd.int .i64) 3 w' w.heap.size (fun k_ => some k_ ≠ (v505 : Value).ownBlock) v9 x9_1) ∧ zA (w'.heap[gb500]? = some (.cells #[(.slice A0_0 l0_0.length c0_0), (.slice A0_1 l0_1.length c0_1)] 35 (0, 0))) ∧ zA (w'.heap[gb501]? = some (.cells #[.int .i64 a1_0, .int .i64 a1_1, .int .i64 a1_2, .int .u8 a1_3] 63 (0, 0))) ∧ zA (w'.heap[gb502]? = some (.cells #[.int .i64 a2_0, .int .i64 a2_1, .int .u8 a2_2, .int .i64 a2_3, .int .i64 a2_4, .float .f64 a2_5] 58 (0, 0))) ∧ zA (Below w.heap.size w w'))
  case atStart => exact ⟨(([] : List Int)), (a1_0), (by first | rfl | (simp; done) | (simp [*]; done)), H', ⟨Nat.le_refl _⟩, ⟨by (with_reducible repeat (first | apply Kd.R_alloc | apply Kd.R_drewN | apply Kd.R_drew)); exact Kd.R_mono HO506.out (fun _ hk => (by simp [Value.ownBlock]))⟩, ⟨by first | exact Kd.R_nil _ _ _ _ _ | exact Kd.N_nil _ _ _ _ _ | exact Kd.V_nil _ _ _ _ _ | exact Kd.Q_nil _ _ _ _ _ | exact Kd.S_nil _ _ _ _ _⟩, ⟨by (with_reducible repeat (first | refine zC ?_ _ | refine zD ?_ | refine zB ?_ _)); exact BK500.out⟩, ⟨by (with_reducible repeat (first | refine zC ?_ _ | refine zD ?_ | refine zB ?_ _)); exact BK501.out⟩, ⟨by (with_reducible repeat (first | refine zC ?_ _ | refine zD ?_ | refine zB ?_ _)); exact BK502.out⟩, ⟨by repeat (first | (with_reducible first | exact HB.out | apply zI | apply zF | apply zH | refine zE ?_ GE500.out | refine zE ?_ GE501.out | refine zE ?_ GE502.out) | exact HB.out)⟩⟩
  case round =>
    clear H'; try clear c1
    try clear c2
    try clear p2
    try clear c3
    try clear c9
    try clear c10
    try clear c12
    try clear hcz11_0
    try clear hcz11_1
    try clear hcz13_0
    try clear hcz13_1
    try clear hcz13_2
    try clear hcz13_3
    try clear hcz15_0
    try clear hcz15_1
    try clear hcz16_0
    try clear hcz16_1
    try clear hcz16_2
    try clear hcz16_3
    try clear hcz17_0
    try clear hcz17_1
    try clear hcz17_2
    try clear hcz17_3
    try clear hcz17_4
    try clear hcz17_5
    try clear hcz19_0
    try clear hcz19_1
    try clear hcz19_2
    try clear hcz19_3
    try clear hfz11_0
    try clear hfz11_1
    try clear hfz13_0
    try clear hfz13_1
    try clear hfz13_2
    try clear hfz13_3
    try clear hfz15_0
    try clear hfz15_1
    try clear hfz16_0
    try clear hfz16_1
    try clear hfz16_2
    try clear hfz16_3
    try clear hfz17_0
    try clear hfz17_1
    try clear hfz17_2
    try clear hfz17_3
    try clear hfz17_4
    try clear hfz17_5
    try clear hfz19_0
    try clear hfz19_1
    try clear hfz19_2
    try clear hfz19_3
    obtain ⟨x9_1, x10_1, rfl, HA, HK1, HO_8, HO_9, BK500, BK501, BK502, HB⟩ := hrel; cases gk with
    | zero => exact absurd HA.out (by simp [just_Line.l0])
    | succ k1 =>
      have H := HA.out; clear HA; simp only [just_Line.l0] at H; by_cases c20 : x10_1 < t503
      · rw [if_pos c20] at H
        have c20b0 : decide (x10_1 < t503) = true := decide_eq_true c20
        clear c20; obtain ⟨ji21, hji21⟩ : ∃ j_ : Int, (wrap64 ((wrap64 (x10_1 - a1_0)) + 1)) = j_ := ⟨_, rfl⟩; replace H : (if 0 ≤ (ji21) then (if (ji21) < (t504.length : Int) then (if 0 ≤ (wrap64 (x10_1 - a1_0)) then (if (wrap64 (x10_1 - a1_0)) < (t504.length : Int) then (if x9_1.length < 17592186044416 then (just_Line.l0 k1 t503 t504 (x9_1 ++ [wrap64 ((rd t504 (ji21)) - (rd t504 (wrap64 (x10_1 - a1_0))))]) (wrap64 (x10_1 + 1)) l0_0 l0_1 a1_0 a1_1 a1_2 a1_3 a2_0 a2_1 a2_2 a2_3 a2_4 a2_5) else (none)) else (none)) else (none)) else (none)) else (none)) = some r := by first | (rw [hji21] at H; exact H) | (simp only [hji21] at H ⊢; exact H)
        have hji21w : (IntKind.i64.wrap ((wrap64 (x10_1 - a1_0)) + 1)) = ji21 := (zM _).trans hji21
        by_cases c22 : 0 ≤ (ji21)
        · rw [if_pos c22] at H
          have c22b0 : decide (0 ≤ (ji21)) = true := decide_eq_true c22
          clear c22; by_cases c23 : (ji21) < (t504.length : Int)
          · rw [if_pos c23] at H
            have c23b0 : decide ((ji21) < (t504.length : Int)) = true := decide_eq_true c23
            clear c23; obtain ⟨ji24, hji24⟩ : ∃ j_ : Int, (wrap64 (x10_1 - a1_0)) = j_ := ⟨_, rfl⟩; replace H : (if 0 ≤ (ji24) then (if (ji24) < (t504.length : Int) then (if x9_1.length < 17592186044416 then (just_Line.l0 k1 t503 t504 (x9_1 ++ [wrap64 ((rd t504 (ji21)) - (rd t504 (ji24)))]) (wrap64 (x10_1 + 1)) l0_0 l0_1 a1_0 a1_1 a1_2 a1_3 a2_0 a2_1 a2_2 a2_3 a2_4 a2_5) else (none)) else (none)) else (none)) = some r := by first | (rw [hji24] at H; exact H) | (simp only [hji24] at H ⊢; exact H)
            have hji24w : (IntKind.i64.wrap (x10_1 - a1_0)) = ji24 := (zM _).trans hji24
            (try rw [hji24] at hji21)
            (try rw [hji24] at hji21w)
            by_cases c25 : 0 ≤ (ji24)
            · rw [if_pos c25] at H
              have c25b0 : decide (0 ≤ (ji24)) = true := decide_eq_true c25
              clear c25; by_cases c26 : (ji24) < (t504.length : Int)
              · rw [if_pos c26] at H
                have c26b0 : decide ((ji24) < (t504.length : Int)) = true := decide_eq_true c26
                clear c26; by_cases c27 : x9_1.length < 17592186044416
                · rw [if_pos c27] at H
                  have LMc27 := zA.mk c27; clear c27; obtain ⟨y509, hy509⟩ : ∃ y_ : List Int, y_ = (x9_1 ++ [wrap64 ((rd t504 (ji21)) - (rd t504 (ji24)))]) := ⟨_, rfl⟩; replace H : (just_Line.l0 k1 t503 t504 y509 (wrap64 (x10_1 + 1)) l0_0 l0_1 a1_0 a1_1 a1_2 a1_3 a2_0 a2_1 a2_2 a2_3 a2_4 a2_5) = some r := by first | (rw [hy509]; with_reducible exact H) | (have H2_ := (Option.bind_some _ _).symm.trans H; rw [hy509]; with_reducible exact H2_) | (have H2_ := (Option.bind_some _ _).symm.trans H; with_reducible exact H2_) | with_reducible exact H | (rw [hy509]; exact H) | exact H
                  have Ny509 := zA.mk hy509; clear hy509; have H' := zA.mk H
                  clear H; try go_wp2
                  have n0_ := zA.mk (Kd.R_drew HO_8.out); have n1_ := zA.mk (Kd.R_drew HO_9.out); have n2_ := zA.mk (zD BK500.out); have n3_ := zA.mk (zD BK501.out); have n4_ := zA.mk (zD BK502.out); have n5_ := zA.mk (zH HB.out); clear HO_8; clear HO_9; clear BK500; clear BK501; clear BK502; clear HB; have HO_8 := n0_; have HO_9 := n1_; have BK500 := n2_; have BK501 := n3_; have BK502 := n4_; have HB := n5_; clear n0_ n1_ n2_ n3_ n4_ n5_; obtain ⟨Ao29, co29, eo29⟩ := Kd.R_slice HO_8.out; (first | subst eo29 | (injection eo29 with f1_ f2_ f3_; have f4_ := f1_.symm; have f5_ := f3_.symm; clear f1_ f2_ f3_; subst f4_; subst f5_))
                  have p507 : 0 ≤ ((ji21) : Int) := of_decide_eq_true (by first | (with_reducible assumption) | assumption)
                  have q507 : (ji21) < (t504.length : Int) := of_decide_eq_true (by first | (with_reducible assumption) | assumption)
                  obtain ⟨ad507, e507, hx507_0⟩ := Kd.at_int (Kd.R_reads' HO_8.out).2.2 (ji21) p507 q507; cases e507
                  replace p507 := eq_true p507; replace q507 := eq_true q507; have p508 : 0 ≤ ((ji24) : Int) := of_decide_eq_true (by first | (with_reducible assumption) | assumption)
                  have q508 : (ji24) < (t504.length : Int) := of_decide_eq_true (by first | (with_reducible assumption) | assumption)
                  obtain ⟨ad508, e508, hx508_0⟩ := Kd.at_int (Kd.R_reads' HO_8.out).2.2 (ji24) p508 q508; obtain rfl : ad507 = ad508 := (by injection e508)
                  replace p508 := eq_true p508; replace q508 := eq_true q508; refine start_ (n := 20) (S := fun w' => w'.cell? ⟨gb501, 0, none⟩ = some (.int .i64 a1_0) ∧ w'.cell? ⟨gb501, 1, none⟩ = some (.int .i64 a1_1) ∧ w'.cell? ⟨gb501, 2, none⟩ = some (.int .i64 a1_2) ∧ w'.cell? ⟨gb501, 3, none⟩ = some (.int .u8 a1_3) ∧ w'.cell? (ad507.add ((ji21)).toNat) = some (.int .i64 (rd t504 (ji21))) ∧ w'.cell? (ad507.add ((ji24)).toNat) = some (.int .i64 (rd t504 (ji24)))) (ds := [17, 18]) #[false, false, false, false, false, false, false, false, false, false, false, false, false, false, false, false, false, false, false, false] (by kernel_rfl) rfl rfl ⟨(zG BK501.out 0).trans rfl, (zG BK501.out 1).trans rfl, (zG BK501.out 2).trans rfl, (zG BK501.out 3).trans rfl, hx507_0, hx508_0⟩ (fun hHeld => ?_); refine with_tabW just_Line.tab7 just_Line.bits7 (fun HT_ HW_ => ?_)
                  generalize wr.drew = w28 at HO_8 HO_9 BK500 BK501 BK502 HB hx507_0 hx508_0 hHeld ⊢
                  refine pure_ (i := 0) (N := some 34) (v := ?_) (a' := ?_) #[true, false, false, false, false, false, false, false, false, false, false, false, false, false, false, false, false, false, false, false] rfl rfl (any_of HT_.out (by kernel_rfl)) (fun _ _ _ h => h) (Or.inl ⟨by rfl, ?_⟩) ?_ ?_
                  rotate_left
                  · intro w'
                    go_simp
                    with_reducible rfl
                  rotate_left
                  · simp only [Act.put, List.setIfInBounds_toArray, List.set_cons_zero, List.set_cons_succ, zM, zN]
                    rfl
                  refine pure_ (i := 1) (N := some 35) (v := ?_) (a' := ?_) #[true, true, false, false, false, false, false, false, false, false, false, false, false, false, false, false, false, false, false, false] rfl rfl (any_of HT_.out (by kernel_rfl)) (fun _ _ _ h => h) (Or.inl ⟨by rfl, ?_⟩) ?_ ?_
                  rotate_left
                  · intro w'
                    go_simp
                    with_reducible rfl
                  rotate_left
                  · simp only [Act.put, List.setIfInBounds_toArray, List.set_cons_zero, List.set_cons_succ, zM, zN]
                    rfl
                  refine pure_ (i := 2) (N := some 36) (v := ?_) (a' := ?_) #[true, true, true, false, false, false, false, false, false, false, false, false, false, false, false, false, false, false, false, false] rfl rfl (any_of HT_.out (by kernel_rfl)) (fun _ _ _ h => h) (Or.inl ⟨by rfl, ?_⟩) ?_ ?_
                  rotate_left
                  · intro w'
                    go_simp
                    with_reducible rfl
                  rotate_left
                  · simp only [Act.put, List.setIfInBounds_toArray, List.set_cons_zero, List.set_cons_succ, zM, zN]
                    rfl
                  refine pure_ (i := 3) (N := some 37) (v := ?_) (a' := ?_) #[true, true, true, true, false, false, false, false, false, false, false, false, false, false, false, false, false, false, false, false] rfl rfl (any_of HT_.out (by kernel_rfl)) (fun _ _ _ h => h) (Or.inl ⟨by rfl, ?_⟩) ?_ ?_
                  rotate_left
                  · intro w'
                    go_simp
                    with_reducible rfl
                  rotate_left
                  · simp only [Act.put, List.setIfInBounds_toArray, List.set_cons_zero, List.set_cons_succ, zM, zN]
                    rfl
                  refine pure_ (i := 9) (N := some 43) (v := ?_) (a' := ?_) #[true, true, true, true, false, false, false, false, false, true, false, false, false, false, false, false, false, false, false, false] rfl rfl (any_of HT_.out (by kernel_rfl)) (fun _ _ _ h => h) (Or.inl ⟨by rfl, ?_⟩) ?_ ?_
                  rotate_left
                  · intro w'
                    go_simp
                    with_reducible rfl
                  rotate_left
                  · simp only [Act.put, List.setIfInBounds_toArray, List.set_cons_zero, List.set_cons_succ, zM, zN]
                    rfl
                  refine pure_ (i := 10) (N := some 44) (v := ?_) (a' := ?_) #[true, true, true, true, false, false, false, false, false, true, true, false, false, false, false, false, false, false, false, false] rfl rfl (any_of HT_.out (by kernel_rfl)) (fun _ _ _ h => h) (Or.inl ⟨by rfl, ?_⟩) ?_ ?_
                  rotate_left
                  · intro w'
                    go_simp
                    with_reducible rfl
                  rotate_left
                  · simp only [Act.put, List.setIfInBounds_toArray, List.set_cons_zero, List.set_cons_succ, zM, zN]
                    rfl
                  refine pure_ (i := 11) (N := some 45) (v := ?_) (a' := ?_) #[true, true, true, true, false, false, false, false, false, true, true, true, false, false, false, false, false, false, false, false] rfl rfl (any_of HT_.out (by kernel_rfl)) (fun _ _ _ h => h) (Or.inl ⟨by rfl, ?_⟩) ?_ ?_
                  rotate_left
                  · intro w'
                    go_simp
                    with_reducible rfl
                  rotate_left
                  · simp only [Act.put, List.setIfInBounds_toArray, List.set_cons_zero, List.set_cons_succ, zM, zN]
                    rfl
                  refine take_ (i := 4) (N := some 38) (v := ?_) (a' := ?_) #[true, true, true, true, true, false, false, false, false, true, true, true, false, false, false, false, false, false, false, false] rfl rfl (take_ofW HT_.out HW_.out (by kernel_rfl)) (fun _ _ _ h => h) (Or.inl ⟨by rfl, ?_⟩) hHeld ?_ ?_
                  rotate_left
                  · rintro w' ⟨s0, s1, s2, s3, s4, s5⟩
                    go_simp
                    with_reducible rfl
                  rotate_left
                  · simp only [Act.put, List.setIfInBounds_toArray, List.set_cons_zero, List.set_cons_succ, zM, zN]
                    rfl
                  refine pure_ (i := 5) (N := some 39) (v := ?_) (a' := ?_) #[true, true, true, true, true, true, false, false, false, true, true, true, false, false, false, false, false, false, false, false] rfl rfl (any_of HT_.out (by kernel_rfl)) (fun _ _ _ h => h) (Or.inl ⟨by rfl, ?_⟩) ?_ ?_
                  rotate_left
                  · intro w'
                    go_simp
                    with_reducible rfl
                  rotate_left
                  · simp only [Act.put, List.setIfInBounds_toArray, List.set_cons_zero, List.set_cons_succ, zM, zN]
                    rfl
                  refine pure_ (i := 6) (N := some 40) (v := ?_) (a' := ?_) #[true, true, true, true, true, true, true, false, false, true, true, true, false, false, false, false, false, false, false, false] rfl rfl (any_of HT_.out (by kernel_rfl)) (fun _ _ _ h => h) (Or.inl ⟨by rfl, ?_⟩) ?_ ?_
                  rotate_left
                  · intro w'
                    go_simp
                    with_reducible rfl
                  rotate_left
                  · simp only [Act.put, List.setIfInBounds_toArray, List.set_cons_zero, List.set_cons_succ, zM, zN]
                    rfl
                  refine pure_ (i := 7) (N := some 41) (v := ?_) (a' := ?_) #[true, true, true, true, true, true, true, true, false, true, true, true, false, false, false, false, false, false, false, false] rfl rfl (any_of HT_.out (by kernel_rfl)) (fun _ _ _ h => h) (Or.inl ⟨by rfl, ?_⟩) ?_ ?_
                  rotate_left
                  · intro w'
                    go_simp
                    with_reducible rfl
                  rotate_left
                  · simp only [Act.put, List.setIfInBounds_toArray, List.set_cons_zero, List.set_cons_succ, zM, zN]
                    rfl
                  refine take_ (i := 8) (N := some 42) (v := ?_) (a' := ?_) #[true, true, true, true, true, true, true, true, true, true, true, true, false, false, false, false, false, false, false, false] rfl rfl (take_ofW HT_.out HW_.out (by kernel_rfl)) (fun _ _ _ h => h) (Or.inl ⟨by rfl, ?_⟩) hHeld ?_ ?_
                  rotate_left
                  · rintro w' ⟨s0, s1, s2, s3, s4, s5⟩
                    go_simp
                    with_reducible rfl
                  rotate_left
                  · simp only [Act.put, List.setIfInBounds_toArray, List.set_cons_zero, List.set_cons_succ, zM, zN]
                    rfl
                  refine take_ (i := 12) (N := some 46) (v := ?_) (a' := ?_) #[true, true, true, true, true, true, true, true, true, true, true, true, true, false, false, false, false, false, false, false] rfl rfl (take_ofW HT_.out HW_.out (by kernel_rfl)) (fun _ _ _ h => h) (Or.inl ⟨by rfl, ?_⟩) hHeld ?_ ?_
                  rotate_left
                  · rintro w' ⟨s0, s1, s2, s3, s4, s5⟩
                    go_simp
                    with_reducible rfl
                  rotate_left
                  · simp only [Act.put, List.setIfInBounds_toArray, List.set_cons_zero, List.set_cons_succ, zM, zN]
                    rfl
                  refine pure_ (i := 13) (N := some 47) (v := ?_) (a' := ?_) #[true, true, true, true, true, true, true, true, true, true, true, true, true, true, false, false, false, false, false, false] rfl rfl (any_of HT_.out (by kernel_rfl)) (fun _ _ _ h => h) (Or.inl ⟨by rfl, ?_⟩) ?_ ?_
                  rotate_left
                  · intro w'
                    go_simp
                    with_reducible rfl
                  rotate_left
                  · simp only [Act.put, List.setIfInBounds_toArray, List.set_cons_zero, List.set_cons_succ, zM, zN]
                    rfl
                  refine pure_ (i := 14) (N := some 48) (v := ?_) (a' := ?_) #[true, true, true, true, true, true, true, true, true, true, true, true, true, true, true, false, false, false, false, false] rfl rfl (any_of HT_.out (by kernel_rfl)) (fun _ _ _ h => h) (Or.inl ⟨by rfl, ?_⟩) ?_ ?_
                  rotate_left
                  · intro w'
                    go_simp
                    with_reducible rfl
                  rotate_left
                  · simp only [Act.put, List.setIfInBounds_toArray, List.set_cons_zero, List.set_cons_succ, zM, zN]
                    rfl
                  refine take_ (i := 15) (N := some 49) (v := ?_) (a' := ?_) #[true, true, true, true, true, true, true, true, true, true, true, true, true, true, true, true, false, false, false, false] rfl rfl (take_ofW HT_.out HW_.out (by kernel_rfl)) (fun _ _ _ h => h) (Or.inl ⟨by rfl, ?_⟩) hHeld ?_ ?_
                  rotate_left
                  · rintro w' ⟨s0, s1, s2, s3, s4, s5⟩
                    go_simp
                    with_reducible rfl
                  rotate_left
                  · simp only [Act.put, List.setIfInBounds_toArray, List.set_cons_zero, List.set_cons_succ, zM, zN]
                    rfl
                  refine pure_ (i := 16) (N := some 50) (v := ?_) (a' := ?_) #[true, true, true, true, true, true, true, true, true, true, true, true, true, true, true, true, true, false, false, false] rfl rfl (any_of HT_.out (by kernel_rfl)) (fun _ _ _ h => h) (Or.inl ⟨by rfl, ?_⟩) ?_ ?_
                  rotate_left
                  · intro w'
                    go_simp
                    with_reducible rfl
                  rotate_left
                  · simp only [Act.put, List.setIfInBounds_toArray, List.set_cons_zero, List.set_cons_succ, zM, zN]
                    rfl
                  refine last_ (i := 17) (N := some 51) #[true, true, true, true, true, true, true, true, true, true, true, true, true, true, true, true, true, true, false, false] rfl rfl (one_of HT_.out (by kernel_rfl)) (by decide) (fun K hK => ?_)
                  refine value_ (w1 := ?_) (v := ?_) (by rfl) rfl ?_ ?_
                  rotate_left 2
                  · go_simp
                    constructor
                    · rfl
                    · rfl
                  refine hK.out _ _ ?_
                  clear hK K; refine norm_ (a' := ?_) ?_ ?_
                  rotate_left
                  · show Act.put _ (some 51) _ = _
                    simp only [Act.put, List.setIfInBounds_toArray, List.set_cons_zero, List.set_cons_succ, zM, zN]; rfl
                  refine last_ (i := 18) (N := some 52) #[true, true, true, true, true, true, true, true, true, true, true, true, true, true, true, true, true, true, true, false] rfl rfl (one_of HT_.out (by kernel_rfl)) (by decide) (fun K hK => ?_)
                  refine Kd.R_append_step (Kd.int .i64) (w0 := w) w.heap.size (by rfl) (.tmp 34) (.tmp 51) 24 3 (.int .i64 0) 8 rfl Try.underlying24 info3 rfl (by decide) (by omega) u9 x9_1 (wrap64 ((rd t504 (ji21)) - (rd t504 (ji24)))) [.int .i64 (wrap64 ((rd t504 (ji21)) - (rd t504 (ji24))))] (fun k_ => some k_ ≠ (.slice (some ad507) t504.length co29 : Value).ownBlock) (fun _ => False) rfl rfl ?aP (fun _ hk => hk.elim) ?aF ?aO ?aB ?aS ?aL ?_
                  (case aP => exact rfl)
                  (case aB => exact (by repeat (first | (with_reducible first | exact HB.out | apply zI | apply zF | apply zH | refine zE ?_ GE500.out | refine zE ?_ GE501.out | refine zE ?_ GE502.out) | exact HB.out)))
                  (case aF => exact (fun k_ hk => Kd.fresh' (Kd.R_lt (by (with_reducible repeat (first | apply Kd.R_alloc | apply Kd.R_drewN | apply Kd.R_drew)); exact HO_8.out)) k_ hk))
                  (case aO => exact (by (with_reducible repeat (first | apply Kd.R_alloc | apply Kd.R_drewN | apply Kd.R_drew)); exact HO_9.out))
                  (case aS => exact (zK (by repeat (first | (with_reducible first | exact HB.out | apply zI | apply zF | apply zH | refine zE ?_ GE500.out | refine zE ?_ GE501.out | refine zE ?_ GE502.out) | exact HB.out))))
                  (case aL => have := LMc27.out; omega)
                  intro v510 w30 ho hb hg hat
                  rw [← Ny509.out] at ho; have n0_ := zA.mk (Kd.R_after (ok := (fun _ => True)) (by (with_reducible repeat (first | apply Kd.R_alloc | apply Kd.R_drewN | apply Kd.R_drew)); exact Kd.R_mono HO_8.out (fun _ hk => ⟨trivial, hk⟩)) hg hat)
                  have n1_ := zA.mk (blk_grown (g := gb500) (o := .cells #[.slice A0_0 l0_0.length c0_0, .slice A0_1 l0_1.length c0_1] 35 (0, 0)) (by (with_reducible repeat (first | refine zC ?_ _ | refine zD ?_ | refine zB ?_ _)); exact BK500.out) hg (Kd.R_ne HO_9.out BK500.out (by decide)))
                  have n2_ := zA.mk (blk_grown (g := gb501) (o := .cells #[.int .i64 a1_0, .int .i64 a1_1, .int .i64 a1_2, .int .u8 a1_3] 63 (0, 0)) (by (with_reducible repeat (first | refine zC ?_ _ | refine zD ?_ | refine zB ?_ _)); exact BK501.out) hg (Kd.R_ne HO_9.out BK501.out (by decide)))
                  have n3_ := zA.mk (blk_grown (g := gb502) (o := .cells #[.int .i64 a2_0, .int .i64 a2_1, .int .u8 a2_2, .int .i64 a2_3, .int .i64 a2_4, .float .f64 a2_5] 58 (0, 0)) (by (with_reducible repeat (first | refine zC ?_ _ | refine zD ?_ | refine zB ?_ _)); exact BK502.out) hg (Kd.R_ne HO_9.out BK502.out (by decide)))
                  have n4_ := zA.mk (hb); have n5_ := zA.mk (ho); clear HO_8; clear BK500; clear BK501; clear BK502; clear HB; clear HO_9; have HO_8 := n0_; have BK500 := n1_; have BK501 := n2_; have BK502 := n3_; have HB := n4_; have HO511 := n5_; clear n0_ n1_ n2_ n3_ n4_ n5_; clear ho hb hg hat; refine hK.out _ _ ?_
                  clear hK K; refine norm_ (a' := ?_) ?_ ?_
                  rotate_left
                  · show Act.put _ (some 52) _ = _
                    simp only [Act.put, List.setIfInBounds_toArray, List.set_cons_zero, List.set_cons_succ, zM, zN]; rfl
                  refine pure_ (i := 19) (N := some 9) (v := ?_) (a' := ?_) #[true, true, true, true, true, true, true, true, true, true, true, true, true, true, true, true, true, true, true, true] rfl rfl (any_of HT_.out (by kernel_rfl)) (fun _ _ _ h => h) (Or.inl ⟨by rfl, ?_⟩) ?_ ?_
                  rotate_left
                  · intro w'
                    go_simp
                    with_reducible rfl
                  rotate_left
                  · simp only [Act.put, List.setIfInBounds_toArray, List.set_cons_zero, List.set_cons_succ, zM, zN]
                    rfl
                  refine done_ (done_of HT_.out (by kernel_rfl)) ?_
                  try go_wp2
                  go_roundg k1
                  case measure => have := HK1.out; omega
                  case rel => exact ⟨(y509), (wrap64 (x10_1 + 1)), (by first | rfl | (simp; done) | (simp [*]; done)), H', ⟨by have := HK1.out; omega⟩, ⟨by (with_reducible repeat (first | apply Kd.R_alloc | apply Kd.R_drewN | apply Kd.R_drew)); exact Kd.R_mono HO_8.out (fun _ hk => hk.2)⟩, ⟨by (with_reducible repeat (first | apply Kd.R_alloc | apply Kd.R_drewN | apply Kd.R_drew)); exact HO511.out⟩, ⟨by (with_reducible repeat (first | refine zC ?_ _ | refine zD ?_ | refine zB ?_ _)); exact BK500.out⟩, ⟨by (with_reducible repeat (first | refine zC ?_ _ | refine zD ?_ | refine zB ?_ _)); exact BK501.out⟩, ⟨by (with_reducible repeat (first | refine zC ?_ _ | refine zD ?_ | refine zB ?_ _)); exact BK502.out⟩, ⟨by repeat (first | (with_reducible first | exact HB.out | apply zI | apply zF | apply zH | refine zE ?_ GE500.out | refine zE ?_ GE501.out | refine zE ?_ GE502.out) | exact HB.out)⟩⟩
                · rw [if_neg c27] at H
                  exact absurd H (by simp)
              · rw [if_neg c26] at H
                exact absurd H (by simp)
            · rw [if_neg c25] at H
              exact absurd H (by simp)
          · rw [if_neg c23] at H
            exact absurd H (by simp)
        · rw [if_neg c22] at H
          exact absurd H (by simp)
      · rw [if_neg c20] at H
        have c20b0 : decide (x10_1 < t503) = false := decide_eq_false c20
        clear c20; have HC31 := zA.mk H; clear H; go_upto_region 8 with (fail)
        go_cut [60] (fun v60 wc => ∃ (kq : Nat) (x60_30 : Bool), v60 = .bool x60_30 ∧ zA (just_Line.j1 kq x9_1 x60_30 l0_0 l0_1 a1_0 a1_1 a1_2 a1_3 a2_0 a2_1 a2_2 a2_3 a2_4 a2_5 = some r) ∧ zA (kq ≤ k1) ∧ zA (Kd.R (Kd.int .i64) 3 wc w.heap.size (fun _ => True) u9 x9_1) ∧ zA (wc.heap[gb500]? = some (.cells #[(.slice A0_0 l0_0.length c0_0), (.slice A0_1 l0_1.length c0_1)] 35 (0, 0))) ∧ zA (wc.heap[gb501]? = some (.cells #[.int .i64 a1_0, .int .i64 a1_1, .int .i64 a1_2, .int .u8 a1_3] 63 (0, 0))) ∧ zA (wc.heap[gb502]? = some (.cells #[.int .i64 a2_0, .int .i64 a2_1, .int .u8 a2_2, .int .i64 a2_3, .int .i64 a2_4, .float .f64 a2_5] 58 (0, 0))) ∧ zA (Below w.heap.size w wc))
        case first =>
          have H := HC31.out; clear HC31; by_cases c32 : a1_3 = 2
          · rw [if_pos c32] at H
            have c32b0 : (a1_3 == 2) = true := beq_iff_eq.mpr c32
            have c32b1 : (a1_3 != 2) = false := bne_eq_false_iff_eq.mpr c32
            clear c32; (first | rw [c32b0] | (simp only [zM, zN]; rw [c32b0]) | skip)
            have H' := zA.mk H
            clear H; have hnb33 := NB501_500.out; have hnc33 := NB500_501.out; have hnb34 := NB501_502.out; have hnc34 := NB502_501.out; have hcz35_0 : wr.cell? ⟨gb501, 0, none⟩ = some (.int .i64 a1_0) := (zG BK501.out 0).trans rfl
            have hcz35_1 : wr.cell? ⟨gb501, 1, none⟩ = some (.int .i64 a1_1) := (zG BK501.out 1).trans rfl
            have hcz35_2 : wr.cell? ⟨gb501, 2, none⟩ = some (.int .i64 a1_2) := (zG BK501.out 2).trans rfl
            have hcz35_3 : wr.cell? ⟨gb501, 3, none⟩ = some (.int .u8 a1_3) := (zG BK501.out 3).trans rfl
            have hfz35_0 := zJ BK501.out 0; have hfz35_1 := zJ BK501.out 1; have hfz35_2 := zJ BK501.out 2; have hfz35_3 := zJ BK501.out 3; go_wp2
            go_meet
            case rel => exact ⟨_, (true), (by first | rfl | (simp; done) | (simp [*]; done)), H', ⟨by have := HK1.out; first | omega | exact Nat.le_refl _⟩, ⟨by (with_reducible repeat (first | apply Kd.R_alloc | apply Kd.R_drewN | apply Kd.R_drew)); exact Kd.R_mono HO_9.out (fun _ hk => trivial)⟩, ⟨by (with_reducible repeat (first | refine zC ?_ _ | refine zD ?_ | refine zB ?_ _)); exact BK500.out⟩, ⟨by (with_reducible repeat (first | refine zC ?_ _ | refine zD ?_ | refine zB ?_ _)); exact BK501.out⟩, ⟨by (with_reducible repeat (first | refine zC ?_ _ | refine zD ?_ | refine zB ?_ _)); exact BK502.out⟩, ⟨by repeat (first | (with_reducible first | exact HB.out | apply zI | apply zF | apply zH | refine zE ?_ GE500.out | refine zE ?_ GE501.out | refine zE ?_ GE502.out) | exact HB.out)⟩⟩
          · rw [if_neg c32] at H
            have c32b0 : (a1_3 == 2) = false := beq_eq_false_iff_ne.mpr c32
            have c32b1 : (a1_3 != 2) = true := bne_iff_ne.mpr c32
            (first | rw [c32b0] | (simp only [zM, zN]; rw [c32b0]) | skip)
            have H' := zA.mk H
            clear H; have hnb36 := NB501_500.out; have hnc36 := NB500_501.out; have hnb37 := NB501_502.out; have hnc37 := NB502_501.out; have hcz38_0 : wr.cell? ⟨gb501, 0, none⟩ = some (.int .i64 a1_0) := (zG BK501.out 0).trans rfl
            have hcz38_1 : wr.cell? ⟨gb501, 1, none⟩ = some (.int .i64 a1_1) := (zG BK501.out 1).trans rfl
            have hcz38_2 : wr.cell? ⟨gb501, 2, none⟩ = some (.int .i64 a1_2) := (zG BK501.out 2).trans rfl
            have hcz38_3 : wr.cell? ⟨gb501, 3, none⟩ = some (.int .u8 a1_3) := (zG BK501.out 3).trans rfl
            have hfz38_0 := zJ BK501.out 0; have hfz38_1 := zJ BK501.out 1; have hfz38_2 := zJ BK501.out 2; have hfz38_3 := zJ BK501.out 3; go_wp2
            go_meet
            case rel => exact ⟨_, ((a1_3 == 4)), (by first | rfl | (simp; done) | (simp [*]; done)), H', ⟨by have := HK1.out; first | omega | exact Nat.le_refl _⟩, ⟨by (with_reducible repeat (first | apply Kd.R_alloc | apply Kd.R_drewN | apply Kd.R_drew)); exact Kd.R_mono HO_9.out (fun _ hk => trivial)⟩, ⟨by (with_reducible repeat (first | refine zC ?_ _ | refine zD ?_ | refine zB ?_ _)); exact BK500.out⟩, ⟨by (with_reducible repeat (first | refine zC ?_ _ | refine zD ?_ | refine zB ?_ _)); exact BK501.out⟩, ⟨by (with_reducible repeat (first | refine zC ?_ _ | refine zD ?_ | refine zB ?_ _)); exact BK502.out⟩, ⟨by repeat (first | (with_reducible first | exact HB.out | apply zI | apply zF | apply zH | refine zE ?_ GE500.out | refine zE ?_ GE501.out | refine zE ?_ GE502.out) | exact HB.out)⟩⟩
        case rest =>
          clear HC31; try clear c1
          try clear c2
          try clear p2
          try clear c3
          try clear p5
          try clear q5
          try clear hx5
          try clear p6
          try clear c9
          try clear c10
          try clear c12
          try clear c20
          try clear c20b0
          try clear c22
          try clear c22b0
          try clear c23
          try clear c23b0
          try clear c25
          try clear c25b0
          try clear c26
          try clear c26b0
          try clear c27
          try clear c32
          try clear c32b0
          try clear c32b1
          try clear c33
          try clear c34
          try clear c36
          try clear c37
          try clear hcz11_0
          try clear hcz11_1
          try clear hcz13_0
          try clear hcz13_1
          try clear hcz13_2
          try clear hcz13_3
          try clear hcz15_0
          try clear hcz15_1
          try clear hcz16_0
          try clear hcz16_1
          try clear hcz16_2
          try clear hcz16_3
          try clear hcz17_0
          try clear hcz17_1
          try clear hcz17_2
          try clear hcz17_3
          try clear hcz17_4
          try clear hcz17_5
          try clear hcz19_0
          try clear hcz19_1
          try clear hcz19_2
          try clear hcz19_3
          try clear hcz35_0
          try clear hcz35_1
          try clear hcz35_2
          try clear hcz35_3
          try clear hcz38_0
          try clear hcz38_1
          try clear hcz38_2
          try clear hcz38_3
          try clear hfz11_0
          try clear hfz11_1
          try clear hfz13_0
          try clear hfz13_1
          try clear hfz13_2
          try clear hfz13_3
          try clear hfz15_0
          try clear hfz15_1
          try clear hfz16_0
          try clear hfz16_1
          try clear hfz16_2
          try clear hfz16_3
          try clear hfz17_0
          try clear hfz17_1
          try clear hfz17_2
          try clear hfz17_3
          try clear hfz17_4
          try clear hfz17_5
          try clear hfz19_0
          try clear hfz19_1
          try clear hfz19_2
          try clear hfz19_3
          try clear hfz35_0
          try clear hfz35_1
          try clear hfz35_2
          try clear hfz35_3
          try clear hfz38_0
          try clear hfz38_1
          try clear hfz38_2
          try clear hfz38_3
          try clear hx507_0
          try clear hx508_0
          try clear p2
          try clear p507
          try clear p508
          try clear q507
          try clear q508
          obtain ⟨kq, x60_30, rfl, HA, HJ30, HO_9, BK500, BK501, BK502, HB⟩ := hcut; cases kq with
          | zero => exact absurd HA.out (by simp [just_Line.j1])
          | succ kj30 =>
            have H := HA.out; clear HA; simp only [just_Line.j1] at H; by_cases c39 : x60_30 = true
            · subst c39
              have H1 : (some x9_1) = some r := by rw [if_pos rfl] at H; exact H
              clear H; have H := H1; clear H1; obtain rfl := Option.some.inj H
              go_wp2
              go_ret
              exact ⟨_, by first | rfl | (simp [errW_none, errW_some] <;> rfl) | (simp [*, errW_none, errW_some] <;> rfl), by (with_reducible repeat (first | apply Kd.R_alloc | apply Kd.R_drewN | apply Kd.R_drew)); exact HO_9.out, by repeat (first | (with_reducible first | exact HB.out | apply zI | apply zF | apply zH | refine zE ?_ GE500.out | refine zE ?_ GE501.out | refine zE ?_ GE502.out) | exact HB.out)⟩
            · replace c39 := Bool.eq_false_iff.mpr c39
              subst c39; have H1 : ((span_Cells.f kj30 l0_0 l0_1 a1_0 a1_1 a1_3 a2_1).bind fun t512 => ((span_Gaps.f kj30 l0_0 l0_1 a1_0 a1_1).bind fun t513 => ((just_Spread.f kj30 (wrap64 (a2_0 - t512)) t513).bind fun t514 => (just_Line.l1 kj30 x9_1 t514 0 (x9_1.length : Int) 0 l0_0 l0_1 a1_0 a1_1 a1_2 a1_3)))) = some r := by rw [if_neg (show ¬ (false = true) by decide)] at H; exact H
              clear H; have H := H1; clear H1; replace H := Option.bind_eq_some_iff.mp H; obtain ⟨t512, A400, H⟩ := H; replace H : ((span_Gaps.f kj30 l0_0 l0_1 a1_0 a1_1).bind fun t513 => ((just_Spread.f kj30 (wrap64 (a2_0 - t512)) t513).bind fun t514 => (just_Line.l1 kj30 x9_1 t514 0 (x9_1.length : Int) 0 l0_0 l0_1 a1_0 a1_1 a1_2 a1_3))) = some r := H
              have A40 := zA.mk A400; clear A400; replace H := Option.bind_eq_some_iff.mp H; obtain ⟨t513, A410, H⟩ := H; replace H : ((just_Spread.f kj30 (wrap64 (a2_0 - t512)) t513).bind fun t514 => (just_Line.l1 kj30 x9_1 t514 0 (x9_1.length : Int) 0 l0_0 l0_1 a1_0 a1_1 a1_2 a1_3)) = some r := H
              have A41 := zA.mk A410; clear A410; replace H := Option.bind_eq_some_iff.mp H; obtain ⟨t514, A420, H⟩ := H; replace H : (just_Line.l1 kj30 x9_1 t514 0 (x9_1.length : Int) 0 l0_0 l0_1 a1_0 a1_1 a1_2 a1_3) = some r := H; have A42 := zA.mk A420; clear A420; have H' := zA.mk H
              clear H; try go_wp2
              have n0_ := zA.mk (Kd.R_drew HO_9.out); have n1_ := zA.mk (zD BK500.out); have n2_ := zA.mk (zD BK501.out); have n3_ := zA.mk (zD BK502.out); have n4_ := zA.mk (zH HB.out); clear HO_9; clear BK500; clear BK501; clear BK502; clear HB; have HO_9 := n0_; have BK500 := n1_; have BK501 := n2_; have BK502 := n3_; have HB := n4_; clear n0_ n1_ n2_ n3_ n4_; refine start_ (n := 21) (S := fun w' => w'.cell? ⟨gb502, 0, none⟩ = some (.int .i64 a2_0) ∧ w'.cell? ⟨gb502, 1, none⟩ = some (.int .i64 a2_1) ∧ w'.cell? ⟨gb502, 2, none⟩ = some (.int .u8 a2_2) ∧ w'.cell? ⟨gb502, 3, none⟩ = some (.int .i64 a2_3) ∧ w'.cell? ⟨gb502, 4, none⟩ = some (.int .i64 a2_4) ∧ w'.cell? ⟨gb502, 5, none⟩ = some (.float .f64 a2_5) ∧ w'.cell? ⟨gb500, 0, none⟩ = some (.slice A0_0 l0_0.length c0_0) ∧ w'.cell? ⟨gb500, 1, none⟩ = some (.slice A0_1 l0_1.length c0_1) ∧ w'.cell? ⟨gb501, 0, none⟩ = some (.int .i64 a1_0) ∧ w'.cell? ⟨gb501, 1, none⟩ = some (.int .i64 a1_1) ∧ w'.cell? ⟨gb501, 2, none⟩ = some (.int .i64 a1_2) ∧ w'.cell? ⟨gb501, 3, none⟩ = some (.int .u8 a1_3)) (ds := []) #[false, false, false, false, false, false, false, false, false, false, false, false, false, false, false, false, false, false, false, false, false] (by kernel_rfl) rfl rfl ⟨(zG BK502.out 0).trans rfl, (zG BK502.out 1).trans rfl, (zG BK502.out 2).trans rfl, (zG BK502.out 3).trans rfl, (zG BK502.out 4).trans rfl, (zG BK502.out 5).trans rfl, (zG BK500.out 0).trans rfl, (zG BK500.out 1).trans rfl, (zG BK501.out 0).trans rfl, (zG BK501.out 1).trans rfl, (zG BK501.out 2).trans rfl, (zG BK501.out 3).trans rfl⟩ (fun hHeld => ?_); refine with_tabW just_Line.tab10 just_Line.bits10 (fun HT_ HW_ => ?_)
              generalize wc.drew = w43 at HO_9 BK500 BK501 BK502 HB hHeld ⊢
              refine pure_ (i := 0) (N := some 62) (v := ?_) (a' := ?_) #[true, false, false, false, false, false, false, false, false, false, false, false, false, false, false, false, false, false, false, false, false] rfl rfl (any_of HT_.out (by kernel_rfl)) (fun _ _ _ h => h) (Or.inl ⟨by rfl, ?_⟩) ?_ ?_
              rotate_left
              · intro w'
                go_simp
                with_reducible rfl
              rotate_left
              · simp only [Act.put, List.setIfInBounds_toArray, List.set_cons_zero, List.set_cons_succ, zM, zN]
                rfl
              refine pure_ (i := 3) (N := some 65) (v := ?_) (a' := ?_) #[true, false, false, true, false, false, false, false, false, false, false, false, false, false, false, false, false, false, false, false, false] rfl rfl (any_of HT_.out (by kernel_rfl)) (fun _ _ _ h => h) (Or.inl ⟨by rfl, ?_⟩) ?_ ?_
              rotate_left
              · intro w'
                go_simp
                with_reducible rfl
              rotate_left
              · simp only [Act.put, List.setIfInBounds_toArray, List.set_cons_zero, List.set_cons_succ, zM, zN]
                rfl
              refine pure_ (i := 5) (N := some 67) (v := ?_) (a' := ?_) #[true, false, false, true, false, true, false, false, false, false, false, false, false, false, false, false, false, false, false, false, false] rfl rfl (any_of HT_.out (by kernel_rfl)) (fun _ _ _ h => h) (Or.inl ⟨by rfl, ?_⟩) ?_ ?_
              rotate_left
              · intro w'
                go_simp
                with_reducible rfl
              rotate_left
              · simp only [Act.put, List.setIfInBounds_toArray, List.set_cons_zero, List.set_cons_succ, zM, zN]
                rfl
              refine pure_ (i := 7) (N := some 69) (v := ?_) (a' := ?_) #[true, false, false, true, false, true, false, true, false, false, false, false, false, false, false, false, false, false, false, false, false] rfl rfl (any_of HT_.out (by kernel_rfl)) (fun _ _ _ h => h) (Or.inl ⟨by rfl, ?_⟩) ?_ ?_
              rotate_left
              · intro w'
                go_simp
                with_reducible rfl
              rotate_left
              · simp only [Act.put, List.setIfInBounds_toArray, List.set_cons_zero, List.set_cons_succ, zM, zN]
                rfl
              refine pure_ (i := 9) (N := some 71) (v := ?_) (a' := ?_) #[true, false, false, true, false, true, false, true, false, true, false, false, false, false, false, false, false, false, false, false, false] rfl rfl (any_of HT_.out (by kernel_rfl)) (fun _ _ _ h => h) (Or.inl ⟨by rfl, ?_⟩) ?_ ?_
              rotate_left
              · intro w'
                go_simp
                with_reducible rfl
              rotate_left
              · simp only [Act.put, List.setIfInBounds_toArray, List.set_cons_zero, List.set_cons_succ, zM, zN]
                rfl
              refine pure_ (i := 14) (N := some 76) (v := ?_) (a' := ?_) #[true, false, false, true, false, true, false, true, false, true, false, false, false, false, true, false, false, false, false, false, false] rfl rfl (any_of HT_.out (by kernel_rfl)) (fun _ _ _ h => h) (Or.inl ⟨by rfl, ?_⟩) ?_ ?_
              rotate_left
              · intro w'
                go_simp
                with_reducible rfl
              rotate_left
              · simp only [Act.put, List.setIfInBounds_toArray, List.set_cons_zero, List.set_cons_succ, zM, zN]
                rfl
              refine pure_ (i := 16) (N := some 78) (v := ?_) (a' := ?_) #[true, false, false, true, false, true, false, true, false, true, false, false, false, false, true, false, true, false, false, false, false] rfl rfl (any_of HT_.out (by kernel_rfl)) (fun _ _ _ h => h) (Or.inl ⟨by rfl, ?_⟩) ?_ ?_
              rotate_left
              · intro w'
                go_simp
                with_reducible rfl
              rotate_left
              · simp only [Act.put, List.setIfInBounds_toArray, List.set_cons_zero, List.set_cons_succ, zM, zN]
                rfl
              refine take_ (i := 1) (N := some 63) (v := ?_) (a' := ?_) #[true, true, false, true, false, true, false, true, false, true, false, false, false, false, true, false, true, false, false, false, false] rfl rfl (take_ofW HT_.out HW_.out (by kernel_rfl)) (fun _ _ _ h => h) (Or.inl ⟨by rfl, ?_⟩) hHeld ?_ ?_
              rotate_left
              · rintro w' ⟨s0, s1, s2, s3, s4, s5, s6, s7, s8, s9, s10, s11⟩
                go_simp
                with_reducible rfl
              rotate_left
              · simp only [Act.put, List.setIfInBounds_toArray, List.set_cons_zero, List.set_cons_succ, zM, zN]
                rfl
              refine take_ (i := 2) (N := some 64) (v := ?_) (a' := ?_) #[true, true, true, true, false, true, false, true, false, true, false, false, false, false, true, false, true, false, false, false, false] rfl rfl (take_ofW HT_.out HW_.out (by kernel_rfl)) (fun _ _ _ h => h) (Or.inl ⟨by rfl, ?_⟩) hHeld ?_ ?_
              rotate_left
              · rintro w' ⟨s0, s1, s2, s3, s4, s5, s6, s7, s8, s9, s10, s11⟩
                go_simp
                with_reducible rfl
              rotate_left
              · simp only [Act.put, List.setIfInBounds_toArray, List.set_cons_zero, List.set_cons_succ, zM, zN]
                rfl
              refine take_ (i := 4) (N := some 66) (v := ?_) (a' := ?_) #[true, true, true, true, true, true, false, true, false, true, false, false, false, false, true, false, true, false, false, false, false] rfl rfl (take_ofW HT_.out HW_.out (by kernel_rfl)) (fun _ _ _ h => h) (Or.inl ⟨by rfl, ?_⟩) hHeld ?_ ?_
              rotate_left
              · rintro w' ⟨s0, s1, s2, s3, s4, s5, s6, s7, s8, s9, s10, s11⟩
                go_simp
                with_reducible rfl
              rotate_left
              · simp only [Act.put, List.setIfInBounds_toArray, List.set_cons_zero, List.set_cons_succ, zM, zN]
                rfl
              refine take_ (i := 6) (N := some 68) (v := ?_) (a' := ?_) #[true, true, true, true, true, true, true, true, false, true, false, false, false, false, true, false, true, false, false, false, false] rfl rfl (take_ofW HT_.out HW_.out (by kernel_rfl)) (fun _ _ _ h => h) (Or.inl ⟨by rfl, ?_⟩) hHeld ?_ ?_
              rotate_left
              · rintro w' ⟨s0, s1, s2, s3, s4, s5, s6, s7, s8, s9, s10, s11⟩
                go_simp
                with_reducible rfl
              rotate_left
              · simp only [Act.put, List.setIfInBounds_toArray, List.set_cons_zero, List.set_cons_succ, zM, zN]
                rfl
              refine take_ (i := 8) (N := some 70) (v := ?_) (a' := ?_) #[true, true, true, true, true, true, true, true, true, true, false, false, false, false, true, false, true, false, false, false, false] rfl rfl (take_ofW HT_.out HW_.out (by kernel_rfl)) (fun _ _ _ h => h) (Or.inl ⟨by rfl, ?_⟩) hHeld ?_ ?_
              rotate_left
              · rintro w' ⟨s0, s1, s2, s3, s4, s5, s6, s7, s8, s9, s10, s11⟩
                go_simp
                with_reducible rfl
              rotate_left
              · simp only [Act.put, List.setIfInBounds_toArray, List.set_cons_zero, List.set_cons_succ, zM, zN]
                rfl
              refine take_ (i := 10) (N := some 72) (v := ?_) (a' := ?_) #[true, true, true, true, true, true, true, true, true, true, true, false, false, false, true, false, true, false, false, false, false] rfl rfl (take_ofW HT_.out HW_.out (by kernel_rfl)) (fun _ _ _ h => h) (Or.inl ⟨by rfl, ?_⟩) hHeld ?_ ?_
              rotate_left
              · rintro w' ⟨s0, s1, s2, s3, s4, s5, s6, s7, s8, s9, s10, s11⟩
                go_simp
                with_reducible rfl
              rotate_left
              · simp only [Act.put, List.setIfInBounds_toArray, List.set_cons_zero, List.set_cons_succ, zM, zN]
                rfl
              refine take_ (i := 13) (N := some 75) (v := ?_) (a' := ?_) #[true, true, true, true, true, true, true, true, true, true, true, false, false, true, true, false, true, false, false, false, false] rfl rfl (take_ofW HT_.out HW_.out (by kernel_rfl)) (fun _ _ _ h => h) (Or.inl ⟨by rfl, ?_⟩) hHeld ?_ ?_
              rotate_left
              · rintro w' ⟨s0, s1, s2, s3, s4, s5, s6, s7, s8, s9, s10, s11⟩
                go_simp
                with_reducible rfl
              rotate_left
              · simp only [Act.put, List.setIfInBounds_toArray, List.set_cons_zero, List.set_cons_succ, zM, zN]
                rfl
              refine take_ (i := 15) (N := some 77) (v := ?_) (a' := ?_) #[true, true, true, true, true, true, true, true, true, true, true, false, false, true, true, true, true, false, false, false, false] rfl rfl (take_ofW HT_.out HW_.out (by kernel_rfl)) (fun _ _ _ h => h) (Or.inl ⟨by rfl, ?_⟩) hHeld ?_ ?_
              rotate_left
              · rintro w' ⟨s0, s1, s2, s3, s4, s5, s6, s7, s8, s9, s10, s11⟩
                go_simp
                with_reducible rfl
              rotate_left
              · simp only [Act.put, List.setIfInBounds_toArray, List.set_cons_zero, List.set_cons_succ, zM, zN]
                rfl
              refine take_ (i := 17) (N := some 79) (v := ?_) (a' := ?_) #[true, true, true, true, true, true, true, true, true, true, true, false, false, true, true, true, true, true, false, false, false] rfl rfl (take_ofW HT_.out HW_.out (by kernel_rfl)) (fun _ _ _ h => h) (Or.inl ⟨by rfl, ?_⟩) hHeld ?_ ?_
              rotate_left
              · rintro w' ⟨s0, s1, s2, s3, s4, s5, s6, s7, s8, s9, s10, s11⟩
                go_simp
                with_reducible rfl
              rotate_left
              · simp only [Act.put, List.setIfInBounds_toArray, List.set_cons_zero, List.set_cons_succ, zM, zN]
                rfl
              refine one_ (i := 11) (N := some 73) #[true, true, true, true, true, true, true, true, true, true, true, true, false, true, true, true, true, true, false, false, false] rfl rfl (one_of HT_.out (by kernel_rfl)) (by decide) (fun K hK => ?_)
              refine goes_ Try.func25 (by kernel_rfl) rfl #[.agg #[.slice A0_0 l0_0.length c0_0, .slice A0_1 l0_1.length c0_1], .int .i64 a1_0, .int .i64 a1_1, .int .u8 a1_3, .int .i64 a2_1] (by rfl) rfl rfl (by (try simp only [List.map_toArray, List.map_cons, List.map_nil]); first | done | rfl | (simp only [List.length_drop, List.length_take]; rfl)) ?_
              with_reducible refine (span_Cells.calls kj30 _ _ l0_0 _ _ l0_1 a1_0 a1_1 a1_3 a2_1 t512 _ ?side1 ?side2 ?side3 ?side4 A40.out).mono ?_
              (case side1 => repeat (first | exact (Kd.C_below HR0_0.out HB.out) | (with_reducible refine Kd.C_alloc ?_ _) | (with_reducible refine Kd.C_drewN ?_ _) | (with_reducible refine Kd.C_drew ?_)))
              (case side2 => exact HC0_0.out)
              (case side3 => repeat (first | exact (Kd.C_below HR0_1.out HB.out) | (with_reducible refine Kd.C_alloc ?_ _) | (with_reducible refine Kd.C_drewN ?_ _) | (with_reducible refine Kd.C_drew ?_)))
              (case side4 => exact HC0_1.out)
              rintro e w44 ⟨rfl, hb⟩
              refine ⟨_, rfl, ?_⟩
              have n0_ := zA.mk (Kd.R_below (by (with_reducible repeat (first | apply Kd.R_alloc | apply Kd.R_drewN | apply Kd.R_drew)); exact HO_9.out) hb)
              have n1_ := zA.mk (zL (g := gb500) (o := .cells #[.slice A0_0 l0_0.length c0_0, .slice A0_1 l0_1.length c0_1] 35 (0, 0)) (by (with_reducible repeat (first | refine zC ?_ _ | refine zD ?_ | refine zB ?_ _)); exact BK500.out) hb)
              have n2_ := zA.mk (zL (g := gb501) (o := .cells #[.int .i64 a1_0, .int .i64 a1_1, .int .i64 a1_2, .int .u8 a1_3] 63 (0, 0)) (by (with_reducible repeat (first | refine zC ?_ _ | refine zD ?_ | refine zB ?_ _)); exact BK501.out) hb)
              have n3_ := zA.mk (zL (g := gb502) (o := .cells #[.int .i64 a2_0, .int .i64 a2_1, .int .u8 a2_2, .int .i64 a2_3, .int .i64 a2_4, .float .f64 a2_5] 58 (0, 0)) (by (with_reducible repeat (first | refine zC ?_ _ | refine zD ?_ | refine zB ?_ _)); exact BK502.out) hb)
              have n4_ := zA.mk (zO (by repeat (first | (with_reducible first | exact HB.out | apply zI | apply zF | apply zH | refine zE ?_ GE500.out | refine zE ?_ GE501.out | refine zE ?_ GE502.out) | exact HB.out)) hb)
              clear HO_9 BK500 BK501 BK502 HB; have HO_9 := n0_; have BK500 := n1_; have BK501 := n2_; have BK502 := n3_; have HB := n4_; clear n0_ n1_ n2_ n3_ n4_; (try clear hb)
              (try clear hb2)
              (try clear hk)
              (try clear hi)
              refine hK.out _ _ ⟨(zG BK502.out 0).trans rfl, (zG BK502.out 1).trans rfl, (zG BK502.out 2).trans rfl, (zG BK502.out 3).trans rfl, (zG BK502.out 4).trans rfl, (zG BK502.out 5).trans rfl, (zG BK500.out 0).trans rfl, (zG BK500.out 1).trans rfl, (zG BK501.out 0).trans rfl, (zG BK501.out 1).trans rfl, (zG BK501.out 2).trans rfl, (zG BK501.out 3).trans rfl⟩ (fun hHeld => ?_)
              clear hK K; refine norm_ (a' := ?_) ?_ ?_
              rotate_left
              · show Act.put _ (some 73) _ = _
                simp only [Act.put, List.setIfInBounds_toArray, List.set_cons_zero, List.set_cons_succ, zM, zN]; rfl
              refine pure_ (i := 12) (N := some 74) (v := ?_) (a' := ?_) #[true, true, true, true, true, true, true, true, true, true, true, true, true, true, true, true, true, true, false, false, false] rfl rfl (any_of HT_.out (by kernel_rfl)) (fun _ _ _ h => h) (Or.inl ⟨by rfl, ?_⟩) ?_ ?_
              rotate_left
              · intro w'
                go_simp
                with_reducible rfl
              rotate_left
              · simp only [Act.put, List.setIfInBounds_toArray, List.set_cons_zero, List.set_cons_succ, zM, zN]
                rfl
              refine one_ (i := 18) (N := some 80) #[true, true, true, true, true, true, true, true, true, true, true, true, true, true, true, true, true, true, true, false, false] rfl rfl (one_of HT_.out (by kernel_rfl)) (by decide) (fun K hK => ?_)
              refine goes_ Try.func27 (by kernel_rfl) rfl #[.agg #[.slice A0_0 l0_0.length c0_0, .slice A0_1 l0_1.length c0_1], .int .i64 a1_0, .int .i64 a1_1] (by rfl) rfl rfl (by (try simp only [List.map_toArray, List.map_cons, List.map_nil]); first | done | rfl | (simp only [List.length_drop, List.length_take]; rfl)) ?_
              with_reducible refine (span_Gaps.calls kj30 _ _ l0_0 _ _ l0_1 a1_0 a1_1 t513 _ ?side1 ?side2 ?side3 ?side4 A41.out).mono ?_
              (case side1 => repeat (first | exact (Kd.C_below HR0_0.out HB.out) | (with_reducible refine Kd.C_alloc ?_ _) | (with_reducible refine Kd.C_drewN ?_ _) | (with_reducible refine Kd.C_drew ?_)))
              (case side2 => exact HC0_0.out)
              (case side3 => repeat (first | exact (Kd.C_below HR0_1.out HB.out) | (with_reducible refine Kd.C_alloc ?_ _) | (with_reducible refine Kd.C_drewN ?_ _) | (with_reducible refine Kd.C_drew ?_)))
              (case side4 => exact HC0_1.out)
              rintro e w45 ⟨rfl, hb⟩
              refine ⟨_, rfl, ?_⟩
              have n0_ := zA.mk (Kd.R_below (by (with_reducible repeat (first | apply Kd.R_alloc | apply Kd.R_drewN | apply Kd.R_drew)); exact HO_9.out) hb)
              have n1_ := zA.mk (zL (g := gb500) (o := .cells #[.slice A0_0 l0_0.length c0_0, .slice A0_1 l0_1.length c0_1] 35 (0, 0)) (by (with_reducible repeat (first | refine zC ?_ _ | refine zD ?_ | refine zB ?_ _)); exact BK500.out) hb)
              have n2_ := zA.mk (zL (g := gb501) (o := .cells #[.int .i64 a1_0, .int .i64 a1_1, .int .i64 a1_2, .int .u8 a1_3] 63 (0, 0)) (by (with_reducible repeat (first | refine zC ?_ _ | refine zD ?_ | refine zB ?_ _)); exact BK501.out) hb)
              have n3_ := zA.mk (zL (g := gb502) (o := .cells #[.int .i64 a2_0, .int .i64 a2_1, .int .u8 a2_2, .int .i64 a2_3, .int .i64 a2_4, .float .f64 a2_5] 58 (0, 0)) (by (with_reducible repeat (first | refine zC ?_ _ | refine zD ?_ | refine zB ?_ _)); exact BK502.out) hb)
              have n4_ := zA.mk (zO (by repeat (first | (with_reducible first | exact HB.out | apply zI | apply zF | apply zH | refine zE ?_ GE500.out | refine zE ?_ GE501.out | refine zE ?_ GE502.out) | exact HB.out)) hb)
              clear HO_9 BK500 BK501 BK502 HB; have HO_9 := n0_; have BK500 := n1_; have BK501 := n2_; have BK502 := n3_; have HB := n4_; clear n0_ n1_ n2_ n3_ n4_; (try clear hb)
              (try clear hb2)
              (try clear hk)
              (try clear hi)
              refine hK.out _ _ ⟨(zG BK502.out 0).trans rfl, (zG BK502.out 1).trans rfl, (zG BK502.out 2).trans rfl, (zG BK502.out 3).trans rfl, (zG BK502.out 4).trans rfl, (zG BK502.out 5).trans rfl, (zG BK500.out 0).trans rfl, (zG BK500.out 1).trans rfl, (zG BK501.out 0).trans rfl, (zG BK501.out 1).trans rfl, (zG BK501.out 2).trans rfl, (zG BK501.out 3).trans rfl⟩ (fun hHeld => ?_)
              clear hK K; refine norm_ (a' := ?_) ?_ ?_
              rotate_left
              · show Act.put _ (some 80) _ = _
                simp only [Act.put, List.setIfInBounds_toArray, List.set_cons_zero, List.set_cons_succ, zM, zN]; rfl
              refine one_ (i := 19) (N := some 81) #[true, true, true, true, true, true, true, true, true, true, true, true, true, true, true, true, true, true, true, true, false] rfl rfl (one_of HT_.out (by kernel_rfl)) (by decide) (fun K hK => ?_)
              refine goes_ Try.func16 (by kernel_rfl) rfl #[.int .i64 (wrap64 (a2_0 - t512)), .int .i64 t513] (by rfl) rfl rfl (by (try simp only [List.map_toArray, List.map_cons, List.map_nil]); first | done | rfl | (simp only [List.length_drop, List.length_take]; rfl)) ?_
              with_reducible refine (just_Spread.calls kj30 (wrap64 (a2_0 - t512)) t513 t514 _ A42.out).mono ?_
              rintro e w46 ⟨v515, rfl, ho0, hb⟩
              refine ⟨_, rfl, ?_⟩
              have n0_ := zA.mk (Kd.R_elder' (by (with_reducible repeat (first | apply Kd.R_alloc | apply Kd.R_drewN | apply Kd.R_drew)); exact HO_9.out) (Kd.R_base ho0) hb)
              have n1_ := zA.mk (Kd.R_lower (Kd.R_new' ho0 (Kd.R_lt (by (with_reducible repeat (first | apply Kd.R_alloc | apply Kd.R_drewN | apply Kd.R_drew)); exact HO_9.out))) (zK (by repeat (first | (with_reducible first | exact HB.out | apply zI | apply zF | apply zH | refine zE ?_ GE500.out | refine zE ?_ GE501.out | refine zE ?_ GE502.out) | exact HB.out))))
              have n2_ := zA.mk (zL (g := gb500) (o := .cells #[.slice A0_0 l0_0.length c0_0, .slice A0_1 l0_1.length c0_1] 35 (0, 0)) (by (with_reducible repeat (first | refine zC ?_ _ | refine zD ?_ | refine zB ?_ _)); exact BK500.out) hb)
              have n3_ := zA.mk (zL (g := gb501) (o := .cells #[.int .i64 a1_0, .int .i64 a1_1, .int .i64 a1_2, .int .u8 a1_3] 63 (0, 0)) (by (with_reducible repeat (first | refine zC ?_ _ | refine zD ?_ | refine zB ?_ _)); exact BK501.out) hb)
              have n4_ := zA.mk (zL (g := gb502) (o := .cells #[.int .i64 a2_0, .int .i64 a2_1, .int .u8 a2_2, .int .i64 a2_3, .int .i64 a2_4, .float .f64 a2_5] 58 (0, 0)) (by (with_reducible repeat (first | refine zC ?_ _ | refine zD ?_ | refine zB ?_ _)); exact BK502.out) hb)
              have n5_ := zA.mk (zO (by repeat (first | (with_reducible first | exact HB.out | apply zI | apply zF | apply zH | refine zE ?_ GE500.out | refine zE ?_ GE501.out | refine zE ?_ GE502.out) | exact HB.out)) hb)
              clear HO_9 BK500 BK501 BK502 HB; have HO_9 := n0_; have HO516 := n1_; have BK500 := n2_; have BK501 := n3_; have BK502 := n4_; have HB := n5_; clear n0_ n1_ n2_ n3_ n4_ n5_; (try clear hb)
              (try clear hb2)
              (try clear hk)
              (try clear hi)
              (try clear ho0)
              refine hK.out _ _ ⟨(zG BK502.out 0).trans rfl, (zG BK502.out 1).trans rfl, (zG BK502.out 2).trans rfl, (zG BK502.out 3).trans rfl, (zG BK502.out 4).trans rfl, (zG BK502.out 5).trans rfl, (zG BK500.out 0).trans rfl, (zG BK500.out 1).trans rfl, (zG BK501.out 0).trans rfl, (zG BK501.out 1).trans rfl, (zG BK501.out 2).trans rfl, (zG BK501.out 3).trans rfl⟩ (fun hHeld => ?_)
              clear hK K; refine norm_ (a' := ?_) ?_ ?_
              rotate_left
              · show Act.put _ (some 81) _ = _
                simp only [Act.put, List.setIfInBounds_toArray, List.set_cons_zero, List.set_cons_succ, zM, zN]; rfl
              refine pure_ (i := 20) (N := some 11) (v := ?_) (a' := ?_) #[true, true, true, true, true, true, true, true, true, true, true, true, true, true, true, true, true, true, true, true, true] rfl rfl (any_of HT_.out (by kernel_rfl)) (fun _ _ _ h => h) (Or.inl ⟨by rfl, ?_⟩) ?_ ?_
              rotate_left
              · intro w'
                go_simp
                with_reducible rfl
              rotate_left
              · simp only [Act.put, List.setIfInBounds_toArray, List.set_cons_zero, List.set_cons_succ, zM, zN]
                rfl
              refine done_ (done_of HT_.out (by kernel_rfl)) ?_
              obtain ⟨Ao47, co47, eo47⟩ := Kd.R_slice HO_9.out; subst eo47; try go_wp2
              go_loopg [12, 84] kj30 (fun kq v12 v84 w' => ∃ (x9_3 : List Int) (x12_3 : Int) (x84_3 : Int), v12 = .int .i64 x12_3 ∧ v84 = .int .i64 x84_3 ∧ zA (just_Line.l1 kq x9_3 t514 x12_3 (x9_1.length : Int) x84_3 l0_0 l0_1 a1_0 a1_1 a1_2 a1_3 = some r) ∧ zA (kq ≤ kj30) ∧ zA (Kd.R (Kd.int .i64) 3 w' w.heap.size (fun k_ => some k_ ≠ (v515 : Value).ownBlock) (.slice Ao47 x9_1.length co47) x9_3) ∧ zA (Kd.R (Kd.int .i64) 3 w' w.heap.size (fun k_ => some k_ ≠ ((.slice Ao47 x9_1.length co47) : Value).ownBlock) v515 t514) ∧ zA (w'.heap[gb500]? = some (.cells #[(.slice A0_0 l0_0.length c0_0), (.slice A0_1 l0_1.length c0_1)] 35 (0, 0))) ∧ zA (w'.heap[gb501]? = some (.cells #[.int .i64 a1_0, .int .i64 a1_1, .int .i64 a1_2, .int .u8 a1_3] 63 (0, 0))) ∧ zA (w'.heap[gb502]? = some (.cells #[.int .i64 a2_0, .int .i64 a2_1, .int .u8 a2_2, .int .i64 a2_3, .int .i64 a2_4, .float .f64 a2_5] 58 (0, 0))) ∧ zA (Below w.heap.size w w'))
              case atStart => exact ⟨(x9_1), (0), (0), (by first | rfl | (simp; done) | (simp [*]; done)), (by first | rfl | (simp; done) | (simp [*]; done)), H', ⟨Nat.le_refl _⟩, ⟨by (with_reducible repeat (first | apply Kd.R_alloc | apply Kd.R_drewN | apply Kd.R_drew)); exact Kd.R_mono HO_9.out (fun _ hk => hk.2)⟩, ⟨by (with_reducible repeat (first | apply Kd.R_alloc | apply Kd.R_drewN | apply Kd.R_drew)); exact Kd.R_mono HO516.out (fun _ hk => hk.2)⟩, ⟨by (with_reducible repeat (first | refine zC ?_ _ | refine zD ?_ | refine zB ?_ _)); exact BK500.out⟩, ⟨by (with_reducible repeat (first | refine zC ?_ _ | refine zD ?_ | refine zB ?_ _)); exact BK501.out⟩, ⟨by (with_reducible repeat (first | refine zC ?_ _ | refine zD ?_ | refine zB ?_ _)); exact BK502.out⟩, ⟨by repeat (first | (with_reducible first | exact HB.out | apply zI | apply zF | apply zH | refine zE ?_ GE500.out | refine zE ?_ GE501.out | refine zE ?_ GE502.out) | exact HB.out)⟩⟩
              case round =>
                clear H'; try clear c1
                try clear c2
                try clear p2
                try clear c3
                try clear p5
                try clear q5
                try clear hx5
                try clear p6
                try clear c9
                try clear c10
                try clear c12
                try clear c16
                try clear c20
                try clear c20b0
                try clear c22
                try clear c22b0
                try clear c23
                try clear c23b0
                try clear c25
                try clear c25b0
                try clear c26
                try clear c26b0
                try clear c27
                try clear c32
                try clear c32b0
                try clear c32b1
                try clear c33
                try clear c34
                try clear c36
                try clear c37
                try clear c39
                try clear hcz11_0
                try clear hcz11_1
                try clear hcz13_0
                try clear hcz13_1
                try clear hcz13_2
                try clear hcz13_3
                try clear hcz15_0
                try clear hcz15_1
                try clear hcz16_0
                try clear hcz16_1
                try clear hcz16_2
                try clear hcz16_3
                try clear hcz17_0
                try clear hcz17_1
                try clear hcz17_2
                try clear hcz17_3
                try clear hcz17_4
                try clear hcz17_5
                try clear hcz19_0
                try clear hcz19_1
                try clear hcz19_2
                try clear hcz19_3
                try clear hcz35_0
                try clear hcz35_1
                try clear hcz35_2
                try clear hcz35_3
                try clear hcz38_0
                try clear hcz38_1
                try clear hcz38_2
                try clear hcz38_3
                try clear hfz11_0
                try clear hfz11_1
                try clear hfz13_0
                try clear hfz13_1
                try clear hfz13_2
                try clear hfz13_3
                try clear hfz15_0
                try clear hfz15_1
                try clear hfz16_0
                try clear hfz16_1
                try clear hfz16_2
                try clear hfz16_3
                try clear hfz17_0
                try clear hfz17_1
                try clear hfz17_2
                try clear hfz17_3
                try clear hfz17_4
                try clear hfz17_5
                try clear hfz19_0
                try clear hfz19_1
                try clear hfz19_2
                try clear hfz19_3
                try clear hfz35_0
                try clear hfz35_1
                try clear hfz35_2
                try clear hfz35_3
                try clear hfz38_0
                try clear hfz38_1
                try clear hfz38_2
                try clear hfz38_3
                try clear hx507_0
                try clear hx508_0
                try clear p2
                try clear p5
                try clear p507
                try clear p508
                try clear p6
                try clear q5
                try clear q507
                try clear q508
                obtain ⟨x9_3, x12_3, x84_3, rfl, rfl, HA, HK3, HO_9, HO_11, BK500, BK501, BK502, HB⟩ := hrel; have hl9_3 := (Kd.R_reads' HO_9.out).1; rw [hl9_3] at HO_9; (try simp only [hl9_3])
                (try simp only [hl9_3] at BK500)
                (try simp only [hl9_3] at BK501)
                (try simp only [hl9_3] at BK502)
                (try simp only [hl9_3] at HO_11)
                cases gk with
                | zero => exact absurd HA.out (by simp [just_Line.l1])
                | succ k3 =>
                  have H := HA.out; clear HA; simp only [just_Line.l1] at H; by_cases c48 : x84_3 < (x9_1.length : Int)
                  · rw [if_pos c48] at H
                    have c48b0 : decide (x84_3 < (x9_1.length : Int)) = true := decide_eq_true c48
                    (try simp only [hl9_3] at c48b0)
                    clear c48; obtain ⟨ji49, hji49⟩ : ∃ j_ : Int, (wrap64 (a1_0 + x84_3)) = j_ := ⟨_, rfl⟩; replace H : (if 0 ≤ (ji49) then (if (ji49) < (l0_0.length : Int) then (if ((rd_T41 l0_0 (ji49)).f3) = 1 then (if x12_3 < (t514.length : Int) then (if 0 ≤ x84_3 then (if x84_3 < (x9_3.length : Int) then (if 0 ≤ x12_3 then (just_Line.l1 k3 (x9_3.set (x84_3 : Int).toNat (wrap64 ((rd x9_3 x84_3) + (rd t514 x12_3)))) t514 (wrap64 (x12_3 + 1)) (x9_1.length : Int) (wrap64 (x84_3 + 1)) l0_0 l0_1 a1_0 a1_1 a1_2 a1_3) else (none)) else (none)) else (none)) else (just_Line.l1 k3 x9_3 t514 x12_3 (x9_1.length : Int) (wrap64 (x84_3 + 1)) l0_0 l0_1 a1_0 a1_1 a1_2 a1_3)) else (just_Line.l1 k3 x9_3 t514 x12_3 (x9_1.length : Int) (wrap64 (x84_3 + 1)) l0_0 l0_1 a1_0 a1_1 a1_2 a1_3)) else (none)) else (none)) = some r := by first | (rw [hji49] at H; exact H) | (simp only [hji49] at H ⊢; exact H)
                    have hji49w : (IntKind.i64.wrap (a1_0 + x84_3)) = ji49 := (zM _).trans hji49
                    by_cases c50 : 0 ≤ (ji49)
                    · rw [if_pos c50] at H
                      have c50b0 : decide (0 ≤ (ji49)) = true := decide_eq_true c50
                      clear c50; by_cases c51 : (ji49) < (l0_0.length : Int)
                      · rw [if_pos c51] at H
                        have c51b0 : decide ((ji49) < (l0_0.length : Int)) = true := decide_eq_true c51
                        (try simp only [hl9_3] at c51b0)
                        clear c51; by_cases c52 : ((rd_T41 l0_0 (ji49)).f3) = 1
                        · rw [if_pos c52] at H
                          have c52b0 : (((rd_T41 l0_0 (ji49)).f3) == 1) = true := beq_iff_eq.mpr c52
                          have c52b1 : (((rd_T41 l0_0 (ji49)).f3) != 1) = false := bne_eq_false_iff_eq.mpr c52
                          clear c52; by_cases c53 : x12_3 < (t514.length : Int)
                          · rw [if_pos c53] at H
                            have c53b0 : decide (x12_3 < (t514.length : Int)) = true := decide_eq_true c53
                            (try simp only [hl9_3] at c53b0)
                            clear c53; by_cases c54 : 0 ≤ x84_3
                            · rw [if_pos c54] at H
                              have c54b0 : decide (0 ≤ x84_3) = true := decide_eq_true c54
                              clear c54; by_cases c55 : x84_3 < (x9_3.length : Int)
                              · rw [if_pos c55] at H
                                have c55b0 : decide (x84_3 < (x9_3.length : Int)) = true := decide_eq_true c55
                                (try simp only [hl9_3] at c55b0)
                                clear c55; by_cases c56 : 0 ≤ x12_3
                                · rw [if_pos c56] at H
                                  have c56b0 : decide (0 ≤ x12_3) = true := decide_eq_true c56
                                  clear c56; obtain ⟨y520, hy520⟩ : ∃ y_ : List Int, y_ = (x9_3.set (x84_3 : Int).toNat (wrap64 ((rd x9_3 x84_3) + (rd t514 x12_3)))) := ⟨_, rfl⟩; replace H : (just_Line.l1 k3 y520 t514 (wrap64 (x12_3 + 1)) (x9_1.length : Int) (wrap64 (x84_3 + 1)) l0_0 l0_1 a1_0 a1_1 a1_2 a1_3) = some r := by first | (rw [hy520]; with_reducible exact H) | (have H2_ := (Option.bind_some _ _).symm.trans H; rw [hy520]; with_reducible exact H2_) | (have H2_ := (Option.bind_some _ _).symm.trans H; with_reducible exact H2_) | with_reducible exact H | (rw [hy520]; exact H) | exact H
                                  have Ny520 := zA.mk hy520; clear hy520; have H' := zA.mk H
                                  clear H; have hnb58 := NB500_501.out; have hnc58 := NB501_500.out; have hnb59 := NB500_502.out; have hnc59 := NB502_500.out; have hcz60_0 : wr.cell? ⟨gb500, 0, none⟩ = some (.slice A0_0 l0_0.length c0_0) := (zG BK500.out 0).trans rfl
                                  have hcz60_1 : wr.cell? ⟨gb500, 1, none⟩ = some (.slice A0_1 l0_1.length c0_1) := (zG BK500.out 1).trans rfl
                                  have hfz60_0 := zJ BK500.out 0; have hfz60_1 := zJ BK500.out 1; have hnb61 := NB501_502.out; have hnc61 := NB502_501.out; have hcz62_0 : wr.cell? ⟨gb501, 0, none⟩ = some (.int .i64 a1_0) := (zG BK501.out 0).trans rfl
                                  have hcz62_1 : wr.cell? ⟨gb501, 1, none⟩ = some (.int .i64 a1_1) := (zG BK501.out 1).trans rfl
                                  have hcz62_2 : wr.cell? ⟨gb501, 2, none⟩ = some (.int .i64 a1_2) := (zG BK501.out 2).trans rfl
                                  have hcz62_3 : wr.cell? ⟨gb501, 3, none⟩ = some (.int .u8 a1_3) := (zG BK501.out 3).trans rfl
                                  have hfz62_0 := zJ BK501.out 0; have hfz62_1 := zJ BK501.out 1; have hfz62_2 := zJ BK501.out 2; have hfz62_3 := zJ BK501.out 3; have p517 : 0 ≤ ((ji49) : Int) := of_decide_eq_true (by first | (with_reducible assumption) | assumption)
                                  have q517 : (ji49) < (l0_0.length : Int) := of_decide_eq_true (by first | (with_reducible assumption) | assumption)
                                  obtain ⟨ad517, e517, hx517_0, hx517_1, hx517_2, hx517_3⟩ := at_T41 HR0_0.out (ji49) p517 q517; cases e517
                                  replace hx517_0 := (HB.out.cell (World.block_lt_of_cell? w _ hx517_0)).trans hx517_0; replace hx517_1 := (HB.out.cell (World.block_lt_of_cell? w _ hx517_1)).trans hx517_1; replace hx517_2 := (HB.out.cell (World.block_lt_of_cell? w _ hx517_2)).trans hx517_2; replace hx517_3 := (HB.out.cell (World.block_lt_of_cell? w _ hx517_3)).trans hx517_3; replace p517 := eq_true p517; replace q517 := eq_true q517; obtain ⟨Ao63, co63, eo63⟩ := Kd.R_slice HO_11.out; subst eo63; try go_wp2
                                  have n0_ := zA.mk (Kd.R_drew HO_9.out); have n1_ := zA.mk (Kd.R_drew HO_11.out); have n2_ := zA.mk (zD BK500.out); have n3_ := zA.mk (zD BK501.out); have n4_ := zA.mk (zD BK502.out); have n5_ := zA.mk (zH HB.out); clear HO_9; clear HO_11; clear BK500; clear BK501; clear BK502; clear HB; have HO_9 := n0_; have HO_11 := n1_; have BK500 := n2_; have BK501 := n3_; have BK502 := n4_; have HB := n5_; clear n0_ n1_ n2_ n3_ n4_ n5_; have p518 : 0 ≤ (x84_3 : Int) := of_decide_eq_true (by first | (with_reducible assumption) | assumption)
                                  have q518 : x84_3 < (x9_3.length : Int) := of_decide_eq_true (by first | (with_reducible assumption) | assumption)
                                  obtain ⟨ad518, e518, hx518_0⟩ := Kd.at_int (Kd.R_reads' HO_9.out).2.2 x84_3 p518 q518; cases e518
                                  replace p518 := eq_true p518; replace q518 := eq_true q518; have p519 : 0 ≤ (x12_3 : Int) := of_decide_eq_true (by first | (with_reducible assumption) | assumption)
                                  have q519 : x12_3 < (t514.length : Int) := of_decide_eq_true (by first | (with_reducible assumption) | assumption)
                                  obtain ⟨ad519, e519, hx519_0⟩ := Kd.at_int (Kd.R_reads' HO_11.out).2.2 x12_3 p519 q519; cases e519
                                  replace p519 := eq_true p519; replace q519 := eq_true q519; have p57 : 0 ≤ (x84_3 : Int) := of_decide_eq_true (by first | (with_reducible assumption) | assumption)
                                  have q57 : (x84_3 : Int) < ((x9_3.length : Int) : Int) := of_decide_eq_true (by first | (with_reducible assumption) | assumption)
                                  obtain ⟨go57, co57, eo57, gb57, gl57, cl57, HG57⟩ := Kd.R_form HO_9.out (by omega)
                                  (first | cases eo57 | (injection eo57 with ea_ en_ ec_; (first | subst ea_ | (injection ea_ with ea_; subst ea_)); subst ec_; clear en_))
                                  have GB57 := zA.mk gb57; have GG57 := zA.mk HG57; clear gb57 gl57 HG57; (first | simp only [add_plain] at hx518_0 | skip)
                                  obtain ⟨hx57_0, hf57_0⟩ := Kd.R_celln 0 HO_9.out (x84_3 : Int) p57 q57; replace p57 := eq_true p57; replace q57 := eq_true q57; have HP65 := Kd.R_putn HO_9.out (x84_3 : Int) (wrap64 ((rd x9_3 x84_3) + (rd t514 x12_3))); rw [← Ny520.out] at HP65; have HQ65 := zA.mk HP65; clear HP65; refine start_ (n := 11) (S := fun w' => w'.cell? ⟨go57, (x84_3).toNat, none⟩ = some (.int .i64 (rd x9_3 x84_3)) ∧ w'.cell? (ad519.add (x12_3).toNat) = some (.int .i64 (rd t514 x12_3))) (ds := [10]) #[false, false, false, false, false, false, false, false, false, false, false] (by kernel_rfl) rfl rfl ⟨hx518_0, hx519_0⟩ (fun hHeld => ?_); refine with_tabW just_Line.tab16 just_Line.bits16 (fun HT_ HW_ => ?_)
                                  generalize wr.drew = w64 at HO_9 HO_11 BK500 BK501 BK502 HB GG57 HQ65 hf57_0 hx518_0 hx519_0 hx57_0 hHeld ⊢
                                  refine pure_ (i := 0) (N := some 103) (v := ?_) (a' := ?_) #[true, false, false, false, false, false, false, false, false, false, false] rfl rfl (any_of HT_.out (by kernel_rfl)) (fun _ _ _ h => h) (Or.inl ⟨by rfl, ?_⟩) ?_ ?_
                                  rotate_left
                                  · intro w'
                                    go_simp
                                    with_reducible rfl
                                  rotate_left
                                  · simp only [Act.put, List.setIfInBounds_toArray, List.set_cons_zero, List.set_cons_succ, zM, zN]
                                    rfl
                                  refine pure_ (i := 1) (N := some 104) (v := ?_) (a' := ?_) #[true, true, false, false, false, false, false, false, false, false, false] rfl rfl (any_of HT_.out (by kernel_rfl)) (fun _ _ _ h => h) (Or.inl ⟨by rfl, ?_⟩) ?_ ?_
                                  rotate_left
                                  · intro w'
                                    go_simp
                                    with_reducible rfl
                                  rotate_left
                                  · simp only [Act.put, List.setIfInBounds_toArray, List.set_cons_zero, List.set_cons_succ, zM, zN]
                                    rfl
                                  refine pure_ (i := 2) (N := some 105) (v := ?_) (a' := ?_) #[true, true, true, false, false, false, false, false, false, false, false] rfl rfl (any_of HT_.out (by kernel_rfl)) (fun _ _ _ h => h) (Or.inl ⟨by rfl, ?_⟩) ?_ ?_
                                  rotate_left
                                  · intro w'
                                    go_simp
                                    with_reducible rfl
                                  rotate_left
                                  · simp only [Act.put, List.setIfInBounds_toArray, List.set_cons_zero, List.set_cons_succ, zM, zN]
                                    rfl
                                  refine pure_ (i := 4) (N := some 107) (v := ?_) (a' := ?_) #[true, true, true, false, true, false, false, false, false, false, false] rfl rfl (any_of HT_.out (by kernel_rfl)) (fun _ _ _ h => h) (Or.inl ⟨by rfl, ?_⟩) ?_ ?_
                                  rotate_left
                                  · intro w'
                                    go_simp
                                    with_reducible rfl
                                  rotate_left
                                  · simp only [Act.put, List.setIfInBounds_toArray, List.set_cons_zero, List.set_cons_succ, zM, zN]
                                    rfl
                                  refine pure_ (i := 5) (N := some 108) (v := ?_) (a' := ?_) #[true, true, true, false, true, true, false, false, false, false, false] rfl rfl (any_of HT_.out (by kernel_rfl)) (fun _ _ _ h => h) (Or.inl ⟨by rfl, ?_⟩) ?_ ?_
                                  rotate_left
                                  · intro w'
                                    go_simp
                                    with_reducible rfl
                                  rotate_left
                                  · simp only [Act.put, List.setIfInBounds_toArray, List.set_cons_zero, List.set_cons_succ, zM, zN]
                                    rfl
                                  refine pure_ (i := 6) (N := some 109) (v := ?_) (a' := ?_) #[true, true, true, false, true, true, true, false, false, false, false] rfl rfl (any_of HT_.out (by kernel_rfl)) (fun _ _ _ h => h) (Or.inl ⟨by rfl, ?_⟩) ?_ ?_
                                  rotate_left
                                  · intro w'
                                    go_simp
                                    with_reducible rfl
                                  rotate_left
                                  · simp only [Act.put, List.setIfInBounds_toArray, List.set_cons_zero, List.set_cons_succ, zM, zN]
                                    rfl
                                  refine take_ (i := 3) (N := some 106) (v := ?_) (a' := ?_) #[true, true, true, true, true, true, true, false, false, false, false] rfl rfl (take_ofW HT_.out HW_.out (by kernel_rfl)) (fun _ _ _ h => h) (Or.inl ⟨by rfl, ?_⟩) hHeld ?_ ?_
                                  rotate_left
                                  · rintro w' ⟨s0, s1⟩
                                    go_simp
                                    with_reducible rfl
                                  rotate_left
                                  · simp only [Act.put, List.setIfInBounds_toArray, List.set_cons_zero, List.set_cons_succ, zM, zN]
                                    rfl
                                  refine take_ (i := 7) (N := some 110) (v := ?_) (a' := ?_) #[true, true, true, true, true, true, true, true, false, false, false] rfl rfl (take_ofW HT_.out HW_.out (by kernel_rfl)) (fun _ _ _ h => h) (Or.inl ⟨by rfl, ?_⟩) hHeld ?_ ?_
                                  rotate_left
                                  · rintro w' ⟨s0, s1⟩
                                    go_simp
                                    with_reducible rfl
                                  rotate_left
                                  · simp only [Act.put, List.setIfInBounds_toArray, List.set_cons_zero, List.set_cons_succ, zM, zN]
                                    rfl
                                  refine pure_ (i := 8) (N := some 111) (v := ?_) (a' := ?_) #[true, true, true, true, true, true, true, true, true, false, false] rfl rfl (any_of HT_.out (by kernel_rfl)) (fun _ _ _ h => h) (Or.inl ⟨by rfl, ?_⟩) ?_ ?_
                                  rotate_left
                                  · intro w'
                                    go_simp
                                    with_reducible rfl
                                  rotate_left
                                  · simp only [Act.put, List.setIfInBounds_toArray, List.set_cons_zero, List.set_cons_succ, zM, zN]
                                    rfl
                                  refine pure_ (i := 9) (N := some 112) (v := ?_) (a' := ?_) #[true, true, true, true, true, true, true, true, true, true, false] rfl rfl (any_of HT_.out (by kernel_rfl)) (fun _ _ _ h => h) (Or.inl ⟨by rfl, ?_⟩) ?_ ?_
                                  rotate_left
                                  · intro w'
                                    go_simp
                                    with_reducible rfl
                                  rotate_left
                                  · simp only [Act.put, List.setIfInBounds_toArray, List.set_cons_zero, List.set_cons_succ, zM, zN]
                                    rfl
                                  refine last_ (i := 10) (N := none) #[true, true, true, true, true, true, true, true, true, true, true] rfl rfl (one_of HT_.out (by kernel_rfl)) (by decide) (fun K hK => ?_)
                                  refine skip_ (w1 := ?_) (by rfl) rfl ?_ ?_
                                  rotate_left
                                  · go_simp
                                    rfl
                                  refine hK.out _ _ ?_
                                  clear hK K; refine done_ (done_of HT_.out (by kernel_rfl)) ?_
                                  try go_wp2
                                  (try simp only [← hl9_3])
                                  go_roundg k3
                                  case measure => have := HK1.out; have := HJ30.out; have := HK3.out; omega
                                  case rel => exact ⟨(y520), (wrap64 (x12_3 + 1)), (wrap64 (x84_3 + 1)), (by first | rfl | (simp; done) | (simp [*]; done)), (by first | rfl | (simp; done) | (simp [*]; done)), H', ⟨by have := HK1.out; have := HJ30.out; have := HK3.out; omega⟩, ⟨by (try simp only [hl9_3]); (with_reducible repeat (first | apply Kd.R_alloc | apply Kd.R_drewN | apply Kd.R_drew)); exact HQ65.out⟩, ⟨by (try simp only [hl9_3]); (with_reducible repeat (first | apply Kd.R_alloc | apply Kd.R_drewN | apply Kd.R_drew)); exact Kd.R_mono (Kd.R_far (p := ⟨go57, (x84_3 : Int).toNat, none⟩) (Kd.R_mono HO_11.out (fun k_ hk => (⟨hk, fun e_ => hk (by rw [e_]; rfl)⟩ : _ ∧ k_ ≠ go57))) (fun _ hk => hk.2) (.int .i64 (wrap64 ((rd x9_3 x84_3) + (rd t514 x12_3))))) (fun _ hk => hk.1)⟩, ⟨by (try simp only [hl9_3]); (with_reducible repeat (first | refine zC ?_ _ | refine zD ?_ | refine zB ?_ _)); refine blk_far ?_ (by have h_ := Kd.R_ne HO_9.out BK500.out (by decide); intro e_; exact h_ (by rw [e_]; rfl)) _; (with_reducible repeat (first | refine zC ?_ _ | refine zD ?_ | refine zB ?_ _)); exact BK500.out⟩, ⟨by (try simp only [hl9_3]); (with_reducible repeat (first | refine zC ?_ _ | refine zD ?_ | refine zB ?_ _)); refine blk_far ?_ (by have h_ := Kd.R_ne HO_9.out BK501.out (by decide); intro e_; exact h_ (by rw [e_]; rfl)) _; (with_reducible repeat (first | refine zC ?_ _ | refine zD ?_ | refine zB ?_ _)); exact BK501.out⟩, ⟨by (try simp only [hl9_3]); (with_reducible repeat (first | refine zC ?_ _ | refine zD ?_ | refine zB ?_ _)); refine blk_far ?_ (by have h_ := Kd.R_ne HO_9.out BK502.out (by decide); intro e_; exact h_ (by rw [e_]; rfl)) _; (with_reducible repeat (first | refine zC ?_ _ | refine zD ?_ | refine zB ?_ _)); exact BK502.out⟩, ⟨by repeat (first | (with_reducible first | exact HB.out | apply zI | apply zF | apply zH | refine zE ?_ GB57.out | refine zE ?_ GE500.out | refine zE ?_ GE501.out | refine zE ?_ GE502.out) | exact HB.out)⟩⟩
                                · rw [if_neg c56] at H
                                  exact absurd H (by simp)
                              · rw [if_neg c55] at H
                                exact absurd H (by simp)
                            · rw [if_neg c54] at H
                              exact absurd H (by simp)
                          · rw [if_neg c53] at H
                            have c53b0 : decide (x12_3 < (t514.length : Int)) = false := decide_eq_false c53
                            (try simp only [hl9_3] at c53b0)
                            clear c53; have H' := zA.mk H
                            clear H; have hnb66 := NB500_501.out; have hnc66 := NB501_500.out; have hnb67 := NB500_502.out; have hnc67 := NB502_500.out; have hcz68_0 : wr.cell? ⟨gb500, 0, none⟩ = some (.slice A0_0 l0_0.length c0_0) := (zG BK500.out 0).trans rfl
                            have hcz68_1 : wr.cell? ⟨gb500, 1, none⟩ = some (.slice A0_1 l0_1.length c0_1) := (zG BK500.out 1).trans rfl
                            have hfz68_0 := zJ BK500.out 0; have hfz68_1 := zJ BK500.out 1; have hnb69 := NB501_502.out; have hnc69 := NB502_501.out; have hcz70_0 : wr.cell? ⟨gb501, 0, none⟩ = some (.int .i64 a1_0) := (zG BK501.out 0).trans rfl
                            have hcz70_1 : wr.cell? ⟨gb501, 1, none⟩ = some (.int .i64 a1_1) := (zG BK501.out 1).trans rfl
                            have hcz70_2 : wr.cell? ⟨gb501, 2, none⟩ = some (.int .i64 a1_2) := (zG BK501.out 2).trans rfl
                            have hcz70_3 : wr.cell? ⟨gb501, 3, none⟩ = some (.int .u8 a1_3) := (zG BK501.out 3).trans rfl
                            have hfz70_0 := zJ BK501.out 0; have hfz70_1 := zJ BK501.out 1; have hfz70_2 := zJ BK501.out 2; have hfz70_3 := zJ BK501.out 3; have p517 : 0 ≤ ((ji49) : Int) := of_decide_eq_true (by first | (with_reducible assumption) | assumption)
                            have q517 : (ji49) < (l0_0.length : Int) := of_decide_eq_true (by first | (with_reducible assumption) | assumption)
                            obtain ⟨ad517, e517, hx517_0, hx517_1, hx517_2, hx517_3⟩ := at_T41 HR0_0.out (ji49) p517 q517; cases e517
                            replace hx517_0 := (HB.out.cell (World.block_lt_of_cell? w _ hx517_0)).trans hx517_0; replace hx517_1 := (HB.out.cell (World.block_lt_of_cell? w _ hx517_1)).trans hx517_1; replace hx517_2 := (HB.out.cell (World.block_lt_of_cell? w _ hx517_2)).trans hx517_2; replace hx517_3 := (HB.out.cell (World.block_lt_of_cell? w _ hx517_3)).trans hx517_3; replace p517 := eq_true p517; replace q517 := eq_true q517; obtain ⟨Ao71, co71, eo71⟩ := Kd.R_slice HO_11.out; subst eo71; go_wp2
                            (try simp only [← hl9_3])
                            go_roundg k3
                            case measure => have := HK1.out; have := HJ30.out; have := HK3.out; omega
                            case rel => exact ⟨(x9_3), (x12_3), (wrap64 (x84_3 + 1)), (by first | rfl | (simp; done) | (simp [*]; done)), (by first | rfl | (simp; done) | (simp [*]; done)), H', ⟨by have := HK1.out; have := HJ30.out; have := HK3.out; omega⟩, ⟨by (try simp only [hl9_3]); (with_reducible repeat (first | apply Kd.R_alloc | apply Kd.R_drewN | apply Kd.R_drew)); exact HO_9.out⟩, ⟨by (try simp only [hl9_3]); (with_reducible repeat (first | apply Kd.R_alloc | apply Kd.R_drewN | apply Kd.R_drew)); exact HO_11.out⟩, ⟨by (try simp only [hl9_3]); (with_reducible repeat (first | refine zC ?_ _ | refine zD ?_ | refine zB ?_ _)); exact BK500.out⟩, ⟨by (try simp only [hl9_3]); (with_reducible repeat (first | refine zC ?_ _ | refine zD ?_ | refine zB ?_ _)); exact BK501.out⟩, ⟨by (try simp only [hl9_3]); (with_reducible repeat (first | refine zC ?_ _ | refine zD ?_ | refine zB ?_ _)); exact BK502.out⟩, ⟨by repeat (first | (with_reducible first | exact HB.out | apply zI | apply zF | apply zH | refine zE ?_ GE500.out | refine zE ?_ GE501.out | refine zE ?_ GE502.out) | exact HB.out)⟩⟩
                        · rw [if_neg c52] at H
                          have c52b0 : (((rd_T41 l0_0 (ji49)).f3) == 1) = false := beq_eq_false_iff_ne.mpr c52
                          have c52b1 : (((rd_T41 l0_0 (ji49)).f3) != 1) = true := bne_iff_ne.mpr c52
                          have H' := zA.mk H
                          clear H; have hnb72 := NB500_501.out; have hnc72 := NB501_500.out; have hnb73 := NB500_502.out; have hnc73 := NB502_500.out; have hcz74_0 : wr.cell? ⟨gb500, 0, none⟩ = some (.slice A0_0 l0_0.length c0_0) := (zG BK500.out 0).trans rfl
                          have hcz74_1 : wr.cell? ⟨gb500, 1, none⟩ = some (.slice A0_1 l0_1.length c0_1) := (zG BK500.out 1).trans rfl
                          have hfz74_0 := zJ BK500.out 0; have hfz74_1 := zJ BK500.out 1; have hnb75 := NB501_502.out; have hnc75 := NB502_501.out; have hcz76_0 : wr.cell? ⟨gb501, 0, none⟩ = some (.int .i64 a1_0) := (zG BK501.out 0).trans rfl
                          have hcz76_1 : wr.cell? ⟨gb501, 1, none⟩ = some (.int .i64 a1_1) := (zG BK501.out 1).trans rfl
                          have hcz76_2 : wr.cell? ⟨gb501, 2, none⟩ = some (.int .i64 a1_2) := (zG BK501.out 2).trans rfl
                          have hcz76_3 : wr.cell? ⟨gb501, 3, none⟩ = some (.int .u8 a1_3) := (zG BK501.out 3).trans rfl
                          have hfz76_0 := zJ BK501.out 0; have hfz76_1 := zJ BK501.out 1; have hfz76_2 := zJ BK501.out 2; have hfz76_3 := zJ BK501.out 3; have p517 : 0 ≤ ((ji49) : Int) := of_decide_eq_true (by first | (with_reducible assumption) | assumption)
                          have q517 : (ji49) < (l0_0.length : Int) := of_decide_eq_true (by first | (with_reducible assumption) | assumption)
                          obtain ⟨ad517, e517, hx517_0, hx517_1, hx517_2, hx517_3⟩ := at_T41 HR0_0.out (ji49) p517 q517; cases e517
                          replace hx517_0 := (HB.out.cell (World.block_lt_of_cell? w _ hx517_0)).trans hx517_0; replace hx517_1 := (HB.out.cell (World.block_lt_of_cell? w _ hx517_1)).trans hx517_1; replace hx517_2 := (HB.out.cell (World.block_lt_of_cell? w _ hx517_2)).trans hx517_2; replace hx517_3 := (HB.out.cell (World.block_lt_of_cell? w _ hx517_3)).trans hx517_3; replace p517 := eq_true p517; replace q517 := eq_true q517; go_wp2
                          (try simp only [← hl9_3])
                          go_roundg k3
                          case measure => have := HK1.out; have := HJ30.out; have := HK3.out; omega
                          case rel => exact ⟨(x9_3), (x12_3), (wrap64 (x84_3 + 1)), (by first | rfl | (simp; done) | (simp [*]; done)), (by first | rfl | (simp; done) | (simp [*]; done)), H', ⟨by have := HK1.out; have := HJ30.out; have := HK3.out; omega⟩, ⟨by (try simp only [hl9_3]); (with_reducible repeat (first | apply Kd.R_alloc | apply Kd.R_drewN | apply Kd.R_drew)); exact HO_9.out⟩, ⟨by (try simp only [hl9_3]); (with_reducible repeat (first | apply Kd.R_alloc | apply Kd.R_drewN | apply Kd.R_drew)); exact HO_11.out⟩, ⟨by (try simp only [hl9_3]); (with_reducible repeat (first | refine zC ?_ _ | refine zD ?_ | refine zB ?_ _)); exact BK500.out⟩, ⟨by (try simp only [hl9_3]); (with_reducible repeat (first | refine zC ?_ _ | refine zD ?_ | refine zB ?_ _)); exact BK501.out⟩, ⟨by (try simp only [hl9_3]); (with_reducible repeat (first | refine zC ?_ _ | refine zD ?_ | refine zB ?_ _)); exact BK502.out⟩, ⟨by repeat (first | (with_reducible first | exact HB.out | apply zI | apply zF | apply zH | refine zE ?_ GE500.out | refine zE ?_ GE501.out | refine zE ?_ GE502.out) | exact HB.out)⟩⟩
                      · rw [if_neg c51] at H
                        exact absurd H (by simp)
                    · rw [if_neg c50] at H
                      exact absurd H (by simp)
                  · rw [if_neg c48] at H
                    have c48b0 : decide (x84_3 < (x9_1.length : Int)) = false := decide_eq_false c48
                    (try simp only [hl9_3] at c48b0)
                    clear c48; obtain rfl := Option.some.inj H
                    go_wp2
                    go_ret
                    exact ⟨_, by first | rfl | (simp [errW_none, errW_some] <;> rfl) | (simp [*, errW_none, errW_some] <;> rfl), by (with_reducible repeat (first | apply Kd.R_alloc | apply Kd.R_drewN | apply Kd.R_drew)); exact Kd.R_mono HO_9.out (fun _ hk => trivial), by repeat (first | (with_reducible first | exact HB.out | apply zI | apply zF | apply zH | refine zE ?_ GE500.out | refine zE ?_ GE501.out | refine zE ?_ GE502.out) | exact HB.out)⟩
end Go.Proofs.Ytbnoeeflpegcoaa.F
end
