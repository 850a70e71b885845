/- Printed by a program: Lean functions that answer as the Go functions do, and the proofs of it. -/
import Derived.Test.YtlgclhhkgohanaaVBestBreaks0
section
namespace Go.Proofs.Ytlgclhhkgohanaa.F
open Go.RowKit Go.Proofs.YtlgclhhkgohanaaW.PrintWords Go.Proofs.YtlgclhhkgohanaaW.PrintLast Go.Proofs.YtlgclhhkgohanaaW.PrintMore
attribute [local go_sem] max2_int min2_int max_two min_two max_three min_three max_four min_four   -- for this text's walks alone
set_option linter.unusedVariables false
set_option linter.unusedSimpArgs false
def span_Gaps.l0 : Nat → Int → List (S62) → Int → Int → Option (Int)
  | 0, _, _, _, _ => none
  | k + 1, x7, x17, x18, x19 => if x19 < x18 then (if 0 ≤ x19 then (if x19 < (x17.length : Int) then (if ((rd_T62 x17 x19).f3) = 1 then (span_Gaps.l0 k (wrap64 (x7 + 1)) x17 x18 (wrap64 (x19 + 1))) else (span_Gaps.l0 k x7 x17 x18 (wrap64 (x19 + 1)))) else (none)) else (none)) else (some x7)
def span_Gaps.f (k : Nat) (l0_0 : List (S62)) (l0_1 : List Int) (a1 : Int) (a2 : Int) : Option (Int) := (span_Trim.f k l0_0 l0_1 a1 a2).bind fun t467 => (if 0 ≤ a1 then (if a1 ≤ t467 then (if t467 ≤ (l0_0.length : Int) then ((some ((l0_0.take (t467 : Int).toNat).drop (a1 : Int).toNat : List (S62))).bind fun y468 => (span_Gaps.l0 k 0 y468 (y468.length : Int) 0)) else (none)) else (none)) else (none))
theorem span_Gaps.mono_l : ∀ k, (∀ y0 y1 y2 y3, LeO (span_Gaps.l0 k y0 y1 y2 y3) (span_Gaps.l0 (k + 1) y0 y1 y2 y3))
  | 0 => fun _ _ _ _ r h => by simp [span_Gaps.l0] at h
  | k + 1 => by
    have ih0 := span_Gaps.mono_l k
    · intro y0 y1 y2 y3
      unfold span_Gaps.l0
      repeat' (with_reducible first | exact ih0 _ _ _ _ | exact span_Trim.mono _ _ _ _ _ | exact LeO.refl _ | exact LeO.none _ | refine LeO.ite ?_ ?_ | refine LeO.bind ?_ (fun _ => ?_))
theorem span_Gaps.mono : ∀ a0 a1 a2 a3 k, LeO (span_Gaps.f k a0 a1 a2 a3) (span_Gaps.f (k + 1) a0 a1 a2 a3) := by
  intro a0 a1 a2 a3 k
  have ih0 := span_Gaps.mono_l k; unfold span_Gaps.f
  repeat' (with_reducible first | exact ih0 _ _ _ _ | exact span_Trim.mono _ _ _ _ _ | exact LeO.refl _ | exact LeO.none _ | refine LeO.ite ?_ ?_ | refine LeO.bind ?_ (fun _ => ?_))
def span_Gaps.T2 : Bool × List (List Nat × List Nat) := (true, [([], []), ([0], [0]), ([], []), ([], []), ([], []), ([], []), ([3, 4, 5], [3, 4, 5]), ([1, 2, 6], [1, 2, 6]), ([7], [7]), ([], [])])
def span_Gaps.B2 : List Nat := [0, 1, 0, 0, 0, 0, 56, 127, 255, 0]
theorem span_Gaps.tab2 : rtab .any (opsOf Try.f33 2) = span_Gaps.T2 := by kernel_rfl
theorem span_Gaps.bits2 : waitsOk span_Gaps.T2.2 span_Gaps.B2 = true := by kernel_rfl
set_option maxHeartbeats 8000000 in
set_option maxRecDepth 100000 in
theorem span_Gaps.calls (k : Nat) (A0_0 : Option Addr) (c0_0 : Nat) (l0_0 : List (S62)) (A0_1 : Option Addr) (c0_1 : Nat) (l0_1 : List Int) (a1 : Int) (a2 : Int) (r : Int) (w : World) (hr0_0 : Kd.C k62 w A0_0 l0_0.length l0_0) (hc0_0 : l0_0.length ≤ c0_0) (hr0_1 : Kd.C (Kd.int .u8) w A0_1 l0_1.length l0_1) (hc0_1 : l0_1.length ≤ c0_1) (h : span_Gaps.f k l0_0 l0_1 a1 a2 = some r) :
    Calls Try.prog 33 #[.agg #[.slice A0_0 l0_0.length c0_0, .slice A0_1 l0_1.length c0_1], .int .i64 a1, .int .i64 a2] w fun e w' => e = .returned (.int .i64 r) ∧ Below w.heap.size w w' := by
  have hu31 := Try.underlying31; have hu62 := Try.underlying62; have HR0_0 := zA.mk hr0_0; have HC0_0 := zA.mk hc0_0; clear hr0_0 hc0_0; have HR0_1 := zA.mk hr0_1; have HC0_1 := zA.mk hc0_1; clear hr0_1 hc0_1; have HB := zA.mk (Below.refl w.heap.size w); have H : ((span_Trim.f k l0_0 l0_1 a1 a2).bind fun t467 => (if 0 ≤ a1 then (if a1 ≤ t467 then (if t467 ≤ (l0_0.length : Int) then ((some ((l0_0.take (t467 : Int).toNat).drop (a1 : Int).toNat : List (S62))).bind fun y468 => (span_Gaps.l0 k 0 y468 (y468.length : Int) 0)) else (none)) else (none)) else (none))) = some r := h
  clear h; replace H := Option.bind_eq_some_iff.mp H; obtain ⟨t467, A40, H⟩ := H; replace H : (if 0 ≤ a1 then (if a1 ≤ t467 then (if t467 ≤ (l0_0.length : Int) then ((some ((l0_0.take (t467 : Int).toNat).drop (a1 : Int).toNat : List (S62))).bind fun y468 => (span_Gaps.l0 k 0 y468 (y468.length : Int) 0)) else (none)) else (none)) else (none)) = some r := H
  have A4 := zA.mk A40; clear A40; by_cases c5 : 0 ≤ a1
  rotate_left
  · rw [if_neg c5] at H
    exact absurd H (by simp)
  rw [if_pos c5] at H; have c5b0 := eq_true c5; have c5b1 : decide (0 ≤ a1) = true := decide_eq_true c5
  clear c5; by_cases c6 : a1 ≤ t467
  rotate_left
  · rw [if_neg c6] at H
    exact absurd H (by simp)
  rw [if_pos c6] at H; have c6b0 := eq_true c6; have c6b1 : decide (a1 ≤ t467) = true := decide_eq_true c6
  clear c6; by_cases c7 : t467 ≤ (l0_0.length : Int)
  rotate_left
  · rw [if_neg c7] at H
    exact absurd H (by simp)
  rw [if_pos c7] at H; have c7b0 := eq_true c7; have c7b1 : decide (t467 ≤ (l0_0.length : Int)) = true := decide_eq_true c7
  clear c7; obtain ⟨y468, hy468⟩ : ∃ y_ : List (S62), y_ = ((l0_0.take (t467 : Int).toNat).drop (a1 : Int).toNat) := ⟨_, rfl⟩; replace H : (span_Gaps.l0 k 0 y468 (y468.length : Int) 0) = some r := by first | (rw [hy468]; with_reducible exact H) | (have H2_ := (Option.bind_some _ _).symm.trans H; rw [hy468]; with_reducible exact H2_) | (have H2_ := (Option.bind_some _ _).symm.trans H; with_reducible exact H2_) | with_reducible exact H | (rw [hy468]; exact H) | exact H
  have Ny468 := zA.mk hy468; clear hy468; have H' := zA.mk H
  clear H; go_enter Try.func33, Try.ntmps33
  try go_wp2_with (first | ((with_reducible refine gate_dst (N := 3) rfl ?_); refine box_event ?hg (N := 3) ?hd (cs := #[.slice A0_0 l0_0.length c0_0, .slice A0_1 l0_1.length c0_1]) (t := 31) ?hr ?_; (case hd => rfl); (case hg => rfl); (case hr => first | (go_simp; done) | (go_simp; rfl)); intro gb466 hg w8 hbox hb; have n0_ := zA.mk (zL (by repeat (first | (with_reducible first | exact HB.out | apply zJ | apply zF | apply zI) | exact HB.out)) hb); have n1_ := zA.mk (hbox); have n2_ := zA.mk ((by rw [hg]; exact (zM (by repeat (first | (with_reducible first | exact HB.out | apply zJ | apply zF | apply zI) | exact HB.out))) : w.heap.size ≤ gb466)); have n3_ := n2_; clear HB; have HB := n0_; have BK466 := n1_; have GW466 := n2_; have GE466 := n3_; clear n0_ n1_ n2_ n3_; clear hb hbox hg))
  replace BK466 := zA.mk (zD BK466.out); replace HB := zA.mk (zI HB.out); refine start_ (n := 10) (S := fun w' => w'.cell? ⟨gb466, 0, none⟩ = some (.slice A0_0 l0_0.length c0_0) ∧ w'.cell? ⟨gb466, 1, none⟩ = some (.slice A0_1 l0_1.length c0_1)) (ds := []) #[false, false, false, false, false, false, false, false, false, false] (by kernel_rfl) rfl rfl ⟨(zG BK466.out 0).trans rfl, (zG BK466.out 1).trans rfl⟩ (fun hHeld => ?_); refine with_tabW span_Gaps.tab2 span_Gaps.bits2 (fun HT_ HW_ => ?_)
  generalize w8.drew = w9 at BK466 HB hHeld ⊢
  refine pure_ (i := 0) (N := some 10) (v := ?_) (a' := ?_) (tf_ 1 10) rfl rfl (any_of HT_.out (by kernel_rfl)) (fun _ _ _ h => h) (Or.inl ⟨by rfl, ?_⟩) ?_ ?_
  rotate_left
  · intro w'
    go_simp
    with_reducible rfl
  rotate_left
  · simp only [Act.put, sA_, sB_, sC_, i64_w, i32_w]
    rfl
  refine pure_ (i := 2) (N := some 12) (v := ?_) (a' := ?_) (tb_ 5 10) rfl rfl (any_of HT_.out (by kernel_rfl)) (fun _ _ _ h => h) (Or.inl ⟨by rfl, ?_⟩) ?_ ?_
  rotate_left
  · intro w'
    go_simp
    with_reducible rfl
  rotate_left
  · simp only [Act.put, sA_, sB_, sC_, i64_w, i32_w]
    rfl
  refine pure_ (i := 4) (N := some 14) (v := ?_) (a' := ?_) (tb_ 21 10) rfl rfl (any_of HT_.out (by kernel_rfl)) (fun _ _ _ h => h) (Or.inl ⟨by rfl, ?_⟩) ?_ ?_
  rotate_left
  · intro w'
    go_simp
    with_reducible rfl
  rotate_left
  · simp only [Act.put, sA_, sB_, sC_, i64_w, i32_w]
    rfl
  refine pure_ (i := 5) (N := some 15) (v := ?_) (a' := ?_) (tb_ 53 10) rfl rfl (any_of HT_.out (by kernel_rfl)) (fun _ _ _ h => h) (Or.inl ⟨by rfl, ?_⟩) ?_ ?_
  rotate_left
  · intro w'
    go_simp
    with_reducible rfl
  rotate_left
  · simp only [Act.put, sA_, sB_, sC_, i64_w, i32_w]
    rfl
  refine pure_ (i := 9) (N := some 19) (v := ?_) (a' := ?_) (tb_ 565 10) rfl rfl (any_of HT_.out (by kernel_rfl)) (fun _ _ _ h => h) (Or.inl ⟨by rfl, ?_⟩) ?_ ?_
  rotate_left
  · intro w'
    go_simp
    with_reducible rfl
  rotate_left
  · simp only [Act.put, sA_, sB_, sC_, i64_w, i32_w]
    rfl
  refine take_ (i := 1) (N := some 11) (v := ?_) (a' := ?_) (tb_ 567 10) rfl rfl (take_ofW HT_.out HW_.out (by kernel_rfl)) (fun _ _ _ h => h) (Or.inl ⟨by rfl, ?_⟩) hHeld ?_ ?_
  rotate_left
  · rintro w' ⟨s0, s1⟩
    go_simp
    with_reducible rfl
  rotate_left
  · simp only [Act.put, sA_, sB_, sC_, i64_w, i32_w]
    rfl
  refine take_ (i := 3) (N := some 13) (v := ?_) (a' := ?_) (tb_ 575 10) rfl rfl (take_ofW HT_.out HW_.out (by kernel_rfl)) (fun _ _ _ h => h) (Or.inl ⟨by rfl, ?_⟩) hHeld ?_ ?_
  rotate_left
  · rintro w' ⟨s0, s1⟩
    go_simp
    with_reducible rfl
  rotate_left
  · simp only [Act.put, sA_, sB_, sC_, i64_w, i32_w]
    rfl
  refine one_ (i := 6) (N := some 16) (tb_ 639 10) rfl rfl (one_of HT_.out (by kernel_rfl)) (by decide) (fun K hK => ?_)
  refine goes_ Try.func38 (by kernel_rfl) rfl #[.agg #[.slice A0_0 l0_0.length c0_0, .slice A0_1 l0_1.length c0_1], .int .i64 a1, .int .i64 a2] (by rfl) rfl rfl (by (try simp only [List.map_toArray, List.map_cons, List.map_nil]); first | done | rfl | (simp only [List.length_drop, List.length_take]; rfl)) ?_
  with_reducible refine (span_Trim.calls k _ _ l0_0 _ _ l0_1 a1 a2 t467 _ ?side1 ?side2 ?side3 ?side4 A4.out).mono ?_
  (case side1 => repeat (first | exact (Kd.zT HR0_0.out HB.out) | (with_reducible refine Kd.zQ ?_ _) | (with_reducible refine Kd.zR ?_ _) | (with_reducible refine Kd.zS ?_)))
  (case side2 => exact HC0_0.out)
  (case side3 => repeat (first | exact (Kd.zT HR0_1.out HB.out) | (with_reducible refine Kd.zQ ?_ _) | (with_reducible refine Kd.zR ?_ _) | (with_reducible refine Kd.zS ?_)))
  (case side4 => exact HC0_1.out)
  rintro e w10 ⟨rfl, hb⟩
  refine ⟨_, rfl, ?_⟩
  replace BK466 := zA.mk (zK (by (with_reducible repeat (first | refine zC ?_ _ | refine zD ?_ | refine zB ?_ _)); exact BK466.out) hb)
  replace HB := zA.mk (zL (by repeat (first | (with_reducible first | exact HB.out | apply zJ | apply zF | apply zI | refine zE ?_ GE466.out) | exact HB.out)) hb)
  (try clear hb)
  (try clear hb2)
  (try clear hk)
  (try clear hi)
  have q11 : (t467 : Int) ≤ ((l0_0.length : Int) : Int) := of_decide_eq_true (by first | (with_reducible assumption) | assumption)
  obtain ⟨i011, hi011, _, hsz11, _⟩ := info_parts info62; have hroom11 : l0_0.length ≤ c0_0 := HC0_0.out
  have hC11 : Kd.C k62 _ A0_0 l0_0.length l0_0 := HR0_0.out
  have ql11 : (a1 : Int) ≤ (t467 : Int) := of_decide_eq_true (by first | (with_reducible assumption) | assumption)
  have q011 : (0 : Int) ≤ (a1 : Int) := of_decide_eq_true (by first | (with_reducible assumption) | assumption)
  have hcut11 := cut_mid (P := Try.prog) 28 62 .i64 .i64 Try.underlying28 hi011 4 hsz11 A0_0 l0_0.length c0_0 a1 t467 q011 ql11 q11 hroom11; have hr11 := Kd.C_mid (lo := (a1 : Int).toNat) (hi := (t467 : Int).toNat) (c := c0_0) hC11 (by omega) (by omega) hroom11
  obtain ⟨A11, hA11⟩ : ∃ A1, A1 = (if c0_0 = (a1 : Int).toNat then A0_0 else (A0_0 : Option Addr).map (·.add ((a1 : Int).toNat * 4))) := ⟨_, rfl⟩
  obtain ⟨c11, hc11⟩ : ∃ c1, c1 = c0_0 - (a1 : Int).toNat := ⟨_, rfl⟩; have hy11 : y468.length = (t467 : Int).toNat - (a1 : Int).toNat := (by rw [Ny468.out, List.length_drop, List.length_take] <;> omega)
  rw [show ((l0_0).take (t467 : Int).toNat).drop (a1 : Int).toNat = y468 from Ny468.out.symm] at hr11; replace hr11 : Kd.C k62 _ A11 y468.length y468 := (by rw [hA11]; exact hr11)
  rw [← hy11, ← hA11, ← hc11] at hcut11; have HR471 := zA.mk hr11; have HC471 := zA.mk (show y468.length ≤ c11 from by rw [hy11, hc11]; exact Nat.sub_le_sub_right (Nat.le_trans (by omega) hroom11) _)
  clear hr11 hC11 hroom11 hi011 hsz11 hc11; have KY11 := zA.mk hy11; have KA11 := zA.mk hA11; clear hy11 hA11; replace q11 := eq_true q11; refine hK.out _ _ ⟨(zG BK466.out 0).trans rfl, (zG BK466.out 1).trans rfl⟩ (fun hHeld => ?_)
  clear hK K; refine norm_ (a' := ?_) ?_ ?_
  rotate_left
  · show Act.put _ (some 16) _ = _
    simp only [Act.put, sA_, sB_, sC_, i64_w, i32_w]; rfl
  refine pure_ (i := 7) (N := some 17) (v := ?_) (a' := ?_) (tb_ 767 10) rfl rfl (any_of HT_.out (by kernel_rfl)) (fun _ _ _ h => h) (Or.inl ⟨by rfl, ?_⟩) ?_ ?_
  rotate_left
  · intro w'
    go_simp
    with_reducible rfl
  rotate_left
  · simp only [Act.put, sA_, sB_, sC_, i64_w, i32_w]
    rfl
  refine pure_ (i := 8) (N := some 18) (v := ?_) (a' := ?_) (tb_ 1023 10) rfl rfl (any_of HT_.out (by kernel_rfl)) (fun _ _ _ h => h) (Or.inl ⟨by rfl, ?_⟩) ?_ ?_
  rotate_left
  · intro w'
    go_simp
    with_reducible rfl
  rotate_left
  · simp only [Act.put, sA_, sB_, sC_, i64_w, i32_w]
    rfl
  refine done_ (done_of HT_.out (by kernel_rfl)) ?_
  try go_wp2
  go_loopg [7, 19] k (fun kq v7 v19 w' => ∃ (x7_1 : Int) (x19_1 : Int), v7 = .int .i64 x7_1 ∧ v19 = .int .i64 x19_1 ∧ zA (span_Gaps.l0 kq x7_1 y468 (y468.length : Int) x19_1 = some r) ∧ zA (kq ≤ k) ∧ zA (w'.heap[gb466]? = some (.cells #[(.slice A0_0 l0_0.length c0_0), (.slice A0_1 l0_1.length c0_1)] 31 (0, 0))) ∧ zA (Below w.heap.size w w'))
  case atStart => exact ⟨(0), (0), (by first | rfl | (simp; done) | (simp [*]; done)), (by first | rfl | (simp; done) | (simp [*]; done)), H', ⟨Nat.le_refl _⟩, ⟨by (with_reducible repeat (first | refine zC ?_ _ | refine zD ?_ | refine zB ?_ _)); exact BK466.out⟩, ⟨by repeat (first | (with_reducible first | exact HB.out | apply zJ | apply zF | apply zI | refine zE ?_ GE466.out) | exact HB.out)⟩⟩
  clear H'; obtain ⟨x7_1, x19_1, rfl, rfl, HA, HK1, BK466, HB⟩ := hrel; cases gk with
  | zero => exact absurd HA.out (by simp [span_Gaps.l0])
  | succ k1 =>
    have H := HA.out; clear HA; simp only [span_Gaps.l0] at H; by_cases c12 : x19_1 < (y468.length : Int)
    rotate_left
    · rw [if_neg c12] at H
      have c12b0 : decide (x19_1 < (y468.length : Int)) = false := decide_eq_false c12
      clear c12; obtain rfl := Option.some.inj H
      go_wp2
      go_ret
      exact ⟨by first | rfl | (simp [errW_none, errW_some] <;> rfl) | (simp [*, errW_none, errW_some] <;> rfl), by repeat (first | (with_reducible first | exact HB.out | apply zJ | apply zF | apply zI | refine zE ?_ GE466.out) | exact HB.out)⟩
    rw [if_pos c12] at H; have c12b0 : decide (x19_1 < (y468.length : Int)) = true := decide_eq_true c12
    clear c12; by_cases c13 : 0 ≤ x19_1
    rotate_left
    · rw [if_neg c13] at H
      exact absurd H (by simp)
    rw [if_pos c13] at H; have c13b0 : decide (0 ≤ x19_1) = true := decide_eq_true c13
    clear c13; by_cases c14 : x19_1 < (y468.length : Int)
    rotate_left
    · rw [if_neg c14] at H
      exact absurd H (by simp)
    rw [if_pos c14] at H; have c14b0 : decide (x19_1 < (y468.length : Int)) = true := decide_eq_true c14
    clear c14; by_cases c15 : ((rd_T62 y468 x19_1).f3) = 1
    · rw [if_pos c15] at H
      have c15b0 : (((rd_T62 y468 x19_1).f3) == 1) = true := beq_iff_eq.mpr c15
      have c15b1 : (((rd_T62 y468 x19_1).f3) != 1) = false := bne_eq_false_iff_eq.mpr c15
      clear c15; have H' := zA.mk H
      clear H; have p472 : 0 ≤ (x19_1 : Int) := of_decide_eq_true (by first | (with_reducible assumption) | assumption)
      have q472 : x19_1 < (y468.length : Int) := of_decide_eq_true (by first | (with_reducible assumption) | assumption)
      obtain ⟨ad472, e472, hx472_0, hx472_1, hx472_2, hx472_3⟩ := at_T62 HR471.out x19_1 p472 q472; cases e472
      replace hx472_0 := (HB.out.cell (World.block_lt_of_cell? w _ hx472_0)).trans hx472_0; replace hx472_1 := (HB.out.cell (World.block_lt_of_cell? w _ hx472_1)).trans hx472_1; replace hx472_2 := (HB.out.cell (World.block_lt_of_cell? w _ hx472_2)).trans hx472_2; replace hx472_3 := (HB.out.cell (World.block_lt_of_cell? w _ hx472_3)).trans hx472_3; replace p472 := eq_true p472; replace q472 := eq_true q472; go_wp2_with (first | ((with_reducible refine gate_dst (N := 9) rfl ?_); refine box_event ?hg (N := 9) ?hd (cs := #[.int .i64 0, .int .i64 0, .int .i64 0, .int .u8 0]) (t := 62) ?hr ?_; (case hd => rfl); (case hg => rfl); (case hr => first | (go_simp; done) | (go_simp; rfl)); intro gb473 hg w16 hbox hb; have n0_ := zA.mk (zK (by (with_reducible repeat (first | refine zC ?_ _ | refine zD ?_ | refine zB ?_ _)); exact BK466.out) hb); have n1_ := zA.mk (zL (by repeat (first | (with_reducible first | exact HB.out | apply zJ | apply zF | apply zI | refine zE ?_ GE466.out) | exact HB.out)) hb); have n2_ := zA.mk (hbox); have n3_ := zA.mk ((by rw [hg]; exact (zM (by repeat (first | (with_reducible first | exact HB.out | apply zJ | apply zF | apply zI | refine zE ?_ GE466.out) | exact HB.out))) : w.heap.size ≤ gb473)); have n4_ := n3_; have n5_ := zA.mk ((by rw [hg]; exact Nat.ne_of_lt (blk_lt (by (with_reducible repeat (first | refine zC ?_ _ | refine zD ?_ | refine zB ?_ _)); exact BK466.out)) : gb466 ≠ gb473)); have n6_ := zA.mk n5_.out.symm; clear BK466; clear HB; have BK466 := n0_; have HB := n1_; have BK473 := n2_; have GW473 := n3_; have GE473 := n4_; have NB466_473 := n5_; have NB473_466 := n6_; clear n0_ n1_ n2_ n3_ n4_ n5_ n6_; clear hb hbox hg; have hnb17 := NB473_466.out; have hnc17 := NB466_473.out; have hcz18_0 : w16.cell? ⟨gb473, 0, none⟩ = some (.int .i64 0) := (zG BK473.out 0).trans rfl; have hcz18_1 : w16.cell? ⟨gb473, 1, none⟩ = some (.int .i64 0) := (zG BK473.out 1).trans rfl; have hcz18_2 : w16.cell? ⟨gb473, 2, none⟩ = some (.int .i64 0) := (zG BK473.out 2).trans rfl; have hcz18_3 : w16.cell? ⟨gb473, 3, none⟩ = some (.int .u8 0) := (zG BK473.out 3).trans rfl; have hfz18_0 := zH BK473.out 0; have hfz18_1 := zH BK473.out 1; have hfz18_2 := zH BK473.out 2; have hfz18_3 := zH BK473.out 3) | ((with_reducible refine gate_store (t := 62) (p := 9) rfl ?_); refine store_event (t := 62) (p := 9) (v := ?vo_w19) (w1 := ((((w16.setCell ⟨gb473, 0, none⟩ (.int .i64 ((rd_T62 y468 x19_1).f0))).setCell ⟨gb473, 1, none⟩ (.int .i64 ((rd_T62 y468 x19_1).f1))).setCell ⟨gb473, 2, none⟩ (.int .i64 ((rd_T62 y468 x19_1).f2))).setCell ⟨gb473, 3, none⟩ (.int .u8 ((rd_T62 y468 x19_1).f3)))) ?hg ?ho ?hn ?hr ?_; (case ho => rfl); (case hg => rfl); (case hn => rfl); (case hr => first | (go_simp; done) | (go_simp; rfl)); intro w19 hw; have n0_ : zA (w19.heap[gb466]? = some (.cells #[.slice A0_0 l0_0.length c0_0, .slice A0_1 l0_1.length c0_1] 31 (0, 0))) := ⟨(by rw [hw]; exact (by (with_reducible repeat (first | refine zC ?_ _ | refine zD ?_ | refine zB ?_ _)); refine blk_far ?_ NB466_473.out _; (with_reducible repeat (first | refine zC ?_ _ | refine zD ?_ | refine zB ?_ _)); refine blk_far ?_ NB466_473.out _; (with_reducible repeat (first | refine zC ?_ _ | refine zD ?_ | refine zB ?_ _)); refine blk_far ?_ NB466_473.out _; (with_reducible repeat (first | refine zC ?_ _ | refine zD ?_ | refine zB ?_ _)); refine blk_far ?_ NB466_473.out _; (with_reducible repeat (first | refine zC ?_ _ | refine zD ?_ | refine zB ?_ _)); exact BK466.out))⟩; have n1_ : zA (w19.heap[gb473]? = some (.cells #[.int .i64 ((rd_T62 y468 x19_1).f0), .int .i64 ((rd_T62 y468 x19_1).f1), .int .i64 ((rd_T62 y468 x19_1).f2), .int .u8 ((rd_T62 y468 x19_1).f3)] 62 (0, 0))) := ⟨(by rw [hw]; exact (by (with_reducible repeat (first | refine zC ?_ _ | refine zD ?_ | refine zB ?_ _)); refine blk_put (cs := #[.int .i64 ((rd_T62 y468 x19_1).f0), .int .i64 ((rd_T62 y468 x19_1).f1), .int .i64 ((rd_T62 y468 x19_1).f2), .int .u8 0]) ?_ 3 _ rfl; (with_reducible repeat (first | refine zC ?_ _ | refine zD ?_ | refine zB ?_ _)); refine blk_put (cs := #[.int .i64 ((rd_T62 y468 x19_1).f0), .int .i64 ((rd_T62 y468 x19_1).f1), .int .i64 0, .int .u8 0]) ?_ 2 _ rfl; (with_reducible repeat (first | refine zC ?_ _ | refine zD ?_ | refine zB ?_ _)); refine blk_put (cs := #[.int .i64 ((rd_T62 y468 x19_1).f0), .int .i64 0, .int .i64 0, .int .u8 0]) ?_ 1 _ rfl; (with_reducible repeat (first | refine zC ?_ _ | refine zD ?_ | refine zB ?_ _)); refine blk_put (cs := #[.int .i64 0, .int .i64 0, .int .i64 0, .int .u8 0]) ?_ 0 _ rfl; (with_reducible repeat (first | refine zC ?_ _ | refine zD ?_ | refine zB ?_ _)); exact BK473.out))⟩; have n2_ : zA (Below w.heap.size w w19) := ⟨(by rw [hw]; exact (by repeat (first | (with_reducible first | exact HB.out | apply zJ | apply zF | apply zI | refine zE ?_ GE466.out | refine zE ?_ GE473.out) | exact HB.out)))⟩; clear hw; clear BK466; clear BK473; clear HB; have BK466 := n0_; have BK473 := n1_; have HB := n2_; clear n0_ n1_ n2_; have hcz20_0 : w19.cell? ⟨gb473, 0, none⟩ = some (.int .i64 ((rd_T62 y468 x19_1).f0)) := (zG BK473.out 0).trans rfl; have hcz20_1 : w19.cell? ⟨gb473, 1, none⟩ = some (.int .i64 ((rd_T62 y468 x19_1).f1)) := (zG BK473.out 1).trans rfl; have hcz20_2 : w19.cell? ⟨gb473, 2, none⟩ = some (.int .i64 ((rd_T62 y468 x19_1).f2)) := (zG BK473.out 2).trans rfl; have hcz20_3 : w19.cell? ⟨gb473, 3, none⟩ = some (.int .u8 ((rd_T62 y468 x19_1).f3)) := (zG BK473.out 3).trans rfl; have hfz20_0 := zH BK473.out 0; have hfz20_1 := zH BK473.out 1; have hfz20_2 := zH BK473.out 2; have hfz20_3 := zH BK473.out 3))
      go_roundg k1
      case measure => have := HK1.out; omega
      case rel => exact ⟨(wrap64 (x7_1 + 1)), (wrap64 (x19_1 + 1)), (by first | rfl | (simp; done) | (simp [*]; done)), (by first | rfl | (simp; done) | (simp [*]; done)), H', ⟨by have := HK1.out; omega⟩, ⟨by (with_reducible repeat (first | refine zC ?_ _ | refine zD ?_ | refine zB ?_ _)); exact BK466.out⟩, ⟨by repeat (first | (with_reducible first | exact HB.out | apply zJ | apply zF | apply zI | refine zE ?_ GE466.out | refine zE ?_ GE473.out) | exact HB.out)⟩⟩
    rw [if_neg c15] at H; have c15b0 : (((rd_T62 y468 x19_1).f3) == 1) = false := beq_eq_false_iff_ne.mpr c15
    have c15b1 : (((rd_T62 y468 x19_1).f3) != 1) = true := bne_iff_ne.mpr c15
    have H' := zA.mk H
    clear H; have p472 : 0 ≤ (x19_1 : Int) := of_decide_eq_true (by first | (with_reducible assumption) | assumption)
    have q472 : x19_1 < (y468.length : Int) := of_decide_eq_true (by first | (with_reducible assumption) | assumption)
    obtain ⟨ad472, e472, hx472_0, hx472_1, hx472_2, hx472_3⟩ := at_T62 HR471.out x19_1 p472 q472; cases e472
    replace hx472_0 := (HB.out.cell (World.block_lt_of_cell? w _ hx472_0)).trans hx472_0; replace hx472_1 := (HB.out.cell (World.block_lt_of_cell? w _ hx472_1)).trans hx472_1; replace hx472_2 := (HB.out.cell (World.block_lt_of_cell? w _ hx472_2)).trans hx472_2; replace hx472_3 := (HB.out.cell (World.block_lt_of_cell? w _ hx472_3)).trans hx472_3; replace p472 := eq_true p472; replace q472 := eq_true q472; go_wp2_with (first | ((with_reducible refine gate_dst (N := 9) rfl ?_); refine box_event ?hg (N := 9) ?hd (cs := #[.int .i64 0, .int .i64 0, .int .i64 0, .int .u8 0]) (t := 62) ?hr ?_; (case hd => rfl); (case hg => rfl); (case hr => first | (go_simp; done) | (go_simp; rfl)); intro gb473 hg w21 hbox hb; have n0_ := zA.mk (zK (by (with_reducible repeat (first | refine zC ?_ _ | refine zD ?_ | refine zB ?_ _)); exact BK466.out) hb); have n1_ := zA.mk (zL (by repeat (first | (with_reducible first | exact HB.out | apply zJ | apply zF | apply zI | refine zE ?_ GE466.out) | exact HB.out)) hb); have n2_ := zA.mk (hbox); have n3_ := zA.mk ((by rw [hg]; exact (zM (by repeat (first | (with_reducible first | exact HB.out | apply zJ | apply zF | apply zI | refine zE ?_ GE466.out) | exact HB.out))) : w.heap.size ≤ gb473)); have n4_ := n3_; have n5_ := zA.mk ((by rw [hg]; exact Nat.ne_of_lt (blk_lt (by (with_reducible repeat (first | refine zC ?_ _ | refine zD ?_ | refine zB ?_ _)); exact BK466.out)) : gb466 ≠ gb473)); have n6_ := zA.mk n5_.out.symm; clear BK466; clear HB; have BK466 := n0_; have HB := n1_; have BK473 := n2_; have GW473 := n3_; have GE473 := n4_; have NB466_473 := n5_; have NB473_466 := n6_; clear n0_ n1_ n2_ n3_ n4_ n5_ n6_; clear hb hbox hg; have hnb22 := NB473_466.out; have hnc22 := NB466_473.out; have hcz23_0 : w21.cell? ⟨gb473, 0, none⟩ = some (.int .i64 0) := (zG BK473.out 0).trans rfl; have hcz23_1 : w21.cell? ⟨gb473, 1, none⟩ = some (.int .i64 0) := (zG BK473.out 1).trans rfl; have hcz23_2 : w21.cell? ⟨gb473, 2, none⟩ = some (.int .i64 0) := (zG BK473.out 2).trans rfl; have hcz23_3 : w21.cell? ⟨gb473, 3, none⟩ = some (.int .u8 0) := (zG BK473.out 3).trans rfl; have hfz23_0 := zH BK473.out 0; have hfz23_1 := zH BK473.out 1; have hfz23_2 := zH BK473.out 2; have hfz23_3 := zH BK473.out 3) | ((with_reducible refine gate_store (t := 62) (p := 9) rfl ?_); refine store_event (t := 62) (p := 9) (v := ?vo_w24) (w1 := ((((w21.setCell ⟨gb473, 0, none⟩ (.int .i64 ((rd_T62 y468 x19_1).f0))).setCell ⟨gb473, 1, none⟩ (.int .i64 ((rd_T62 y468 x19_1).f1))).setCell ⟨gb473, 2, none⟩ (.int .i64 ((rd_T62 y468 x19_1).f2))).setCell ⟨gb473, 3, none⟩ (.int .u8 ((rd_T62 y468 x19_1).f3)))) ?hg ?ho ?hn ?hr ?_; (case ho => rfl); (case hg => rfl); (case hn => rfl); (case hr => first | (go_simp; done) | (go_simp; rfl)); intro w24 hw; have n0_ : zA (w24.heap[gb466]? = some (.cells #[.slice A0_0 l0_0.length c0_0, .slice A0_1 l0_1.length c0_1] 31 (0, 0))) := ⟨(by rw [hw]; exact (by (with_reducible repeat (first | refine zC ?_ _ | refine zD ?_ | refine zB ?_ _)); refine blk_far ?_ NB466_473.out _; (with_reducible repeat (first | refine zC ?_ _ | refine zD ?_ | refine zB ?_ _)); refine blk_far ?_ NB466_473.out _; (with_reducible repeat (first | refine zC ?_ _ | refine zD ?_ | refine zB ?_ _)); refine blk_far ?_ NB466_473.out _; (with_reducible repeat (first | refine zC ?_ _ | refine zD ?_ | refine zB ?_ _)); refine blk_far ?_ NB466_473.out _; (with_reducible repeat (first | refine zC ?_ _ | refine zD ?_ | refine zB ?_ _)); exact BK466.out))⟩; have n1_ : zA (w24.heap[gb473]? = some (.cells #[.int .i64 ((rd_T62 y468 x19_1).f0), .int .i64 ((rd_T62 y468 x19_1).f1), .int .i64 ((rd_T62 y468 x19_1).f2), .int .u8 ((rd_T62 y468 x19_1).f3)] 62 (0, 0))) := ⟨(by rw [hw]; exact (by (with_reducible repeat (first | refine zC ?_ _ | refine zD ?_ | refine zB ?_ _)); refine blk_put (cs := #[.int .i64 ((rd_T62 y468 x19_1).f0), .int .i64 ((rd_T62 y468 x19_1).f1), .int .i64 ((rd_T62 y468 x19_1).f2), .int .u8 0]) ?_ 3 _ rfl; (with_reducible repeat (first | refine zC ?_ _ | refine zD ?_ | refine zB ?_ _)); refine blk_put (cs := #[.int .i64 ((rd_T62 y468 x19_1).f0), .int .i64 ((rd_T62 y468 x19_1).f1), .int .i64 0, .int .u8 0]) ?_ 2 _ rfl; (with_reducible repeat (first | refine zC ?_ _ | refine zD ?_ | refine zB ?_ _)); refine blk_put (cs := #[.int .i64 ((rd_T62 y468 x19_1).f0), .int .i64 0, .int .i64 0, .int .u8 0]) ?_ 1 _ rfl; (with_reducible repeat (first | refine zC ?_ _ | refine zD ?_ | refine zB ?_ _)); refine blk_put (cs := #[.int .i64 0, .int .i64 0, .int .i64 0, .int .u8 0]) ?_ 0 _ rfl; (with_reducible repeat (first | refine zC ?_ _ | refine zD ?_ | refine zB ?_ _)); exact BK473.out))⟩; have n2_ : zA (Below w.heap.size w w24) := ⟨(by rw [hw]; exact (by repeat (first | (with_reducible first | exact HB.out | apply zJ | apply zF | apply zI | refine zE ?_ GE466.out | refine zE ?_ GE473.out) | exact HB.out)))⟩; clear hw; clear BK466; clear BK473; clear HB; have BK466 := n0_; have BK473 := n1_; have HB := n2_; clear n0_ n1_ n2_; have hcz25_0 : w24.cell? ⟨gb473, 0, none⟩ = some (.int .i64 ((rd_T62 y468 x19_1).f0)) := (zG BK473.out 0).trans rfl; have hcz25_1 : w24.cell? ⟨gb473, 1, none⟩ = some (.int .i64 ((rd_T62 y468 x19_1).f1)) := (zG BK473.out 1).trans rfl; have hcz25_2 : w24.cell? ⟨gb473, 2, none⟩ = some (.int .i64 ((rd_T62 y468 x19_1).f2)) := (zG BK473.out 2).trans rfl; have hcz25_3 : w24.cell? ⟨gb473, 3, none⟩ = some (.int .u8 ((rd_T62 y468 x19_1).f3)) := (zG BK473.out 3).trans rfl; have hfz25_0 := zH BK473.out 0; have hfz25_1 := zH BK473.out 1; have hfz25_2 := zH BK473.out 2; have hfz25_3 := zH BK473.out 3))
    go_roundg k1
    case measure => have := HK1.out; omega
    case rel => exact ⟨(x7_1), (wrap64 (x19_1 + 1)), (by first | rfl | (simp; done) | (simp [*]; done)), (by first | rfl | (simp; done) | (simp [*]; done)), H', ⟨by have := HK1.out; omega⟩, ⟨by (with_reducible repeat (first | refine zC ?_ _ | refine zD ?_ | refine zB ?_ _)); exact BK466.out⟩, ⟨by repeat (first | (with_reducible first | exact HB.out | apply zJ | apply zF | apply zI | refine zE ?_ GE466.out | refine zE ?_ GE473.out) | exact HB.out)⟩⟩
def best_Cost.j0 : Nat → Int → Int → Bool → Int → Bool → List (S62) → List Int → Int → Int → Int → Int → Int → Nat → Option (Int × Bool)
  | 0, _, _, _, _, _, _, _, _, _, _, _, _, _ => none
  | k + 1, x1, x2, x3, x12, x26, x475000, x475001, x476000, x476001, x476002, x476003, x476004, x476005 => if x26 = true then (some (0, false)) else ((span_Cells.f k x475000 x475001 x1 x2 x12 x476001).bind fun t478 => ((span_Gaps.f k x475000 x475001 x1 x2).bind fun t479 => ((best_price.f k x475000 x475001 x1 x12 t478 t479 x3 x476000 x476001 x476002 x476003 x476004 x476005).bind fun bt480 => (some (bt480.1, bt480.2)))))
def best_Cost.f (k : Nat) (l0_0 : List (S62)) (l0_1 : List Int) (a1 : Int) (a2 : Int) (a3 : Bool) (a4_0 : Int) (a4_1 : Int) (a4_2 : Int) (a4_3 : Int) (a4_4 : Int) (a4_5 : Nat) : Option (Int × Bool) := (span_Ends.f l0_0 l0_1 a2).bind fun bt476 => (if bt476.2 = true then (best_Cost.j0 k a1 a2 a3 bt476.1 (decide (a2 ≤ a1)) l0_0 l0_1 a4_0 a4_1 a4_2 a4_3 a4_4 a4_5) else (best_Cost.j0 k a1 a2 a3 bt476.1 true l0_0 l0_1 a4_0 a4_1 a4_2 a4_3 a4_4 a4_5))
theorem best_Cost.mono_l : ∀ k, (∀ y0 y1 y2 y3 y4 y5 y6 y7 y8 y9 y10 y11 y12, LeO (best_Cost.j0 k y0 y1 y2 y3 y4 y5 y6 y7 y8 y9 y10 y11 y12) (best_Cost.j0 (k + 1) y0 y1 y2 y3 y4 y5 y6 y7 y8 y9 y10 y11 y12))
  | 0 => fun _ _ _ _ _ _ _ _ _ _ _ _ _ r h => by simp [best_Cost.j0] at h
  | k + 1 => by
    have ih0 := best_Cost.mono_l k
    · intro y0 y1 y2 y3 y4 y5 y6 y7 y8 y9 y10 y11 y12
      unfold best_Cost.j0
      repeat' (with_reducible first | exact ih0 _ _ _ _ _ _ _ _ _ _ _ _ _ | exact best_price.mono _ _ _ _ _ _ _ _ _ _ _ _ _ _ | exact span_Cells.mono _ _ _ _ _ _ _ | exact span_Gaps.mono _ _ _ _ _ | exact LeO.refl _ | exact LeO.none _ | refine LeO.ite ?_ ?_ | refine LeO.bind ?_ (fun _ => ?_))
theorem best_Cost.mono : ∀ a0 a1 a2 a3 a4 a5 a6 a7 a8 a9 a10 k, LeO (best_Cost.f k a0 a1 a2 a3 a4 a5 a6 a7 a8 a9 a10) (best_Cost.f (k + 1) a0 a1 a2 a3 a4 a5 a6 a7 a8 a9 a10) := by
  intro a0 a1 a2 a3 a4 a5 a6 a7 a8 a9 a10 k
  have ih0 := best_Cost.mono_l k; unfold best_Cost.f
  repeat' (with_reducible first | exact ih0 _ _ _ _ _ _ _ _ _ _ _ _ _ | exact best_price.mono _ _ _ _ _ _ _ _ _ _ _ _ _ _ | exact span_Cells.mono _ _ _ _ _ _ _ | exact span_Gaps.mono _ _ _ _ _ | exact LeO.refl _ | exact LeO.none _ | refine LeO.ite ?_ ?_ | refine LeO.bind ?_ (fun _ => ?_))
def best_Cost.T4 : Bool × List (List Nat × List Nat) := (true, [([], []), ([], []), ([], []), ([], []), ([], []), ([], []), ([], []), ([], []), ([7], [7]), ([3, 4, 5, 6, 8], [3, 4, 5, 6, 8]), ([], []), ([], []), ([], []), ([10, 11, 12, 9], [10, 11, 12]), ([], []), ([], []), ([0, 1, 2, 9, 13, 14, 15, 13], [0, 1, 2, 9, 13, 14, 15]), ([16], [16]), ([16], [16]), ([17, 16, 0, 1, 2, 3, 4, 5, 6, 7, 8, 9, 10, 11, 12, 13, 14, 15, 16, 17, 18], [17]), ([18, 19, 0, 1, 2, 3, 4, 5, 6, 7, 8, 9, 10, 11, 12, 13, 14, 15, 16, 17, 18, 19], [18])])
def best_Cost.B4 : List Nat := [0, 0, 0, 0, 0, 0, 0, 0, 128, 504, 0, 0, 0, 8184, 0, 0, 65535, 131071, 131071, 524287, 1048575]
theorem best_Cost.tab4 : rtab .any (opsOf Try.f19 4) = best_Cost.T4 := by kernel_rfl
theorem best_Cost.bits4 : waitsOk best_Cost.T4.2 best_Cost.B4 = true := by kernel_rfl
set_option maxHeartbeats 8000000 in
set_option maxRecDepth 100000 in
theorem best_Cost.calls (k : Nat) (A0_0 : Option Addr) (c0_0 : Nat) (l0_0 : List (S62)) (A0_1 : Option Addr) (c0_1 : Nat) (l0_1 : List Int) (a1 : Int) (a2 : Int) (a3 : Bool) (a4_0 : Int) (a4_1 : Int) (a4_2 : Int) (a4_3 : Int) (a4_4 : Int) (a4_5 : Nat) (r1 : Int) (r2 : Bool) (w : World) (hr0_0 : Kd.C k62 w A0_0 l0_0.length l0_0) (hc0_0 : l0_0.length ≤ c0_0) (hr0_1 : Kd.C (Kd.int .u8) w A0_1 l0_1.length l0_1) (hc0_1 : l0_1.length ≤ c0_1) (h : best_Cost.f k l0_0 l0_1 a1 a2 a3 a4_0 a4_1 a4_2 a4_3 a4_4 a4_5 = some (r1, r2)) :
    Calls Try.prog 19 #[.agg #[.slice A0_0 l0_0.length c0_0, .slice A0_1 l0_1.length c0_1], .int .i64 a1, .int .i64 a2, .bool a3, .agg #[.int .i64 a4_0, .int .i64 a4_1, .int .u8 a4_2, .int .i64 a4_3, .int .i64 a4_4, .float .f64 a4_5]] w fun e w' => e = .returned (.tuple #[.int .i64 r1, .bool r2]) ∧ Below w.heap.size w w' := by
  have hu31 := Try.underlying31; have hu35 := Try.underlying35; have HR0_0 := zA.mk hr0_0; have HC0_0 := zA.mk hc0_0; clear hr0_0 hc0_0; have HR0_1 := zA.mk hr0_1; have HC0_1 := zA.mk hc0_1; clear hr0_1 hc0_1; have HB := zA.mk (Below.refl w.heap.size w); have H : ((span_Ends.f l0_0 l0_1 a2).bind fun bt476 => (if bt476.2 = true then (best_Cost.j0 k a1 a2 a3 bt476.1 (decide (a2 ≤ a1)) l0_0 l0_1 a4_0 a4_1 a4_2 a4_3 a4_4 a4_5) else (best_Cost.j0 k a1 a2 a3 bt476.1 true l0_0 l0_1 a4_0 a4_1 a4_2 a4_3 a4_4 a4_5))) = some (r1, r2) := h
  clear h; replace H := Option.bind_eq_some_iff.mp H; obtain ⟨⟨t476, t477⟩, A60, H⟩ := H; replace H : (if t477 = true then (best_Cost.j0 k a1 a2 a3 t476 (decide (a2 ≤ a1)) l0_0 l0_1 a4_0 a4_1 a4_2 a4_3 a4_4 a4_5) else (best_Cost.j0 k a1 a2 a3 t476 true l0_0 l0_1 a4_0 a4_1 a4_2 a4_3 a4_4 a4_5)) = some (r1, r2) := H; have A6 := zA.mk A60; clear A60; have HC7 := zA.mk H; clear H; go_enter Try.func19, Try.ntmps19
  go_upto_region 2 with (first | ((with_reducible refine gate_dst (N := 5) rfl ?_); refine box_event ?hg (N := 5) ?hd (cs := #[.slice A0_0 l0_0.length c0_0, .slice A0_1 l0_1.length c0_1]) (t := 31) ?hr ?_; (case hd => rfl); (case hg => rfl); (case hr => first | (go_simp; done) | (go_simp; rfl)); intro gb474 hg w8 hbox hb; have n0_ := zA.mk (zL (by repeat (first | (with_reducible first | exact HB.out | apply zJ | apply zF | apply zI) | exact HB.out)) hb); have n1_ := zA.mk (hbox); have n2_ := zA.mk ((by rw [hg]; exact (zM (by repeat (first | (with_reducible first | exact HB.out | apply zJ | apply zF | apply zI) | exact HB.out))) : w.heap.size ≤ gb474)); have n3_ := n2_; clear HB; have HB := n0_; have BK474 := n1_; have GW474 := n2_; have GE474 := n3_; clear n0_ n1_ n2_ n3_; clear hb hbox hg) | ((with_reducible refine gate_dst (N := 9) rfl ?_); refine box_event ?hg (N := 9) ?hd (cs := #[.int .i64 a4_0, .int .i64 a4_1, .int .u8 a4_2, .int .i64 a4_3, .int .i64 a4_4, .float .f64 a4_5]) (t := 35) ?hr ?_; (case hd => rfl); (case hg => rfl); (case hr => first | (go_simp; done) | (go_simp; rfl)); intro gb475 hg w9 hbox hb; have n0_ := zA.mk (zK (by (with_reducible repeat (first | refine zC ?_ _ | refine zD ?_ | refine zB ?_ _)); exact BK474.out) hb); have n1_ := zA.mk (zL (by repeat (first | (with_reducible first | exact HB.out | apply zJ | apply zF | apply zI | refine zE ?_ GE474.out) | exact HB.out)) hb); have n2_ := zA.mk (hbox); have n3_ := zA.mk ((by rw [hg]; exact (zM (by repeat (first | (with_reducible first | exact HB.out | apply zJ | apply zF | apply zI | refine zE ?_ GE474.out) | exact HB.out))) : w.heap.size ≤ gb475)); have n4_ := n3_; have n5_ := zA.mk ((by rw [hg]; exact Nat.ne_of_lt (blk_lt (by (with_reducible repeat (first | refine zC ?_ _ | refine zD ?_ | refine zB ?_ _)); exact BK474.out)) : gb474 ≠ gb475)); have n6_ := zA.mk n5_.out.symm; clear BK474; clear HB; have BK474 := n0_; have HB := n1_; have BK475 := n2_; have GW475 := n3_; have GE475 := n4_; have NB474_475 := n5_; have NB475_474 := n6_; clear n0_ n1_ n2_ n3_ n4_ n5_ n6_; clear hb hbox hg; have hnb10 := NB474_475.out; have hnc10 := NB475_474.out; have hcz11_0 : w9.cell? ⟨gb474, 0, none⟩ = some (.slice A0_0 l0_0.length c0_0) := (zG BK474.out 0).trans rfl; have hcz11_1 : w9.cell? ⟨gb474, 1, none⟩ = some (.slice A0_1 l0_1.length c0_1) := (zG BK474.out 1).trans rfl; have hfz11_0 := zH BK474.out 0; have hfz11_1 := zH BK474.out 1) | ((with_reducible refine gate_callee (f := 30) rfl ?_); refine goesL_ (some 17) rfl rfl Try.func30 (by kernel_rfl) rfl #[.agg #[.slice A0_0 l0_0.length c0_0, .slice A0_1 l0_1.length c0_1], .int .i64 a2] rfl (by (try simp only [List.map_toArray, List.map_cons, List.map_nil]); first | done | rfl | (simp only [List.length_drop, List.length_take]; rfl)) ?_; (with_reducible refine (span_Ends.calls _ _ l0_0 _ _ l0_1 a2 t476 t477 _ ?side1 ?side2 ?side3 ?side4 A6.out).mono ?_); (case side1 => repeat (first | exact (Kd.zT HR0_0.out HB.out) | (with_reducible refine Kd.zQ ?_ _) | (with_reducible refine Kd.zR ?_ _) | (with_reducible refine Kd.zS ?_))); (case side2 => exact HC0_0.out); (case side3 => repeat (first | exact (Kd.zT HR0_1.out HB.out) | (with_reducible refine Kd.zQ ?_ _) | (with_reducible refine Kd.zR ?_ _) | (with_reducible refine Kd.zS ?_))); (case side4 => exact HC0_1.out); rintro e w12 ⟨rfl, hb⟩; refine ⟨_, rfl, ?_⟩; replace BK474 := zA.mk (zK (by (with_reducible repeat (first | refine zC ?_ _ | refine zD ?_ | refine zB ?_ _)); exact BK474.out) hb); replace BK475 := zA.mk (zK (by (with_reducible repeat (first | refine zC ?_ _ | refine zD ?_ | refine zB ?_ _)); exact BK475.out) hb); replace HB := zA.mk (zL (by repeat (first | (with_reducible first | exact HB.out | apply zJ | apply zF | apply zI | refine zE ?_ GE474.out | refine zE ?_ GE475.out) | exact HB.out)) hb); (try clear hb); (try clear hb2); (try clear hk); (try clear hi)))
  (try simp only [Act.put, sA_, sB_, sC_])
  go_cut [26] (fun v26 wc => ∃ (kq : Nat) (x26_6 : Bool), v26 = .bool x26_6 ∧ zA (best_Cost.j0 kq a1 a2 a3 t476 x26_6 l0_0 l0_1 a4_0 a4_1 a4_2 a4_3 a4_4 a4_5 = some (r1, r2)) ∧ zA (kq ≤ k) ∧ zA (wc.heap[gb474]? = some (.cells #[(.slice A0_0 l0_0.length c0_0), (.slice A0_1 l0_1.length c0_1)] 31 (0, 0))) ∧ zA (wc.heap[gb475]? = some (.cells #[.int .i64 a4_0, .int .i64 a4_1, .int .u8 a4_2, .int .i64 a4_3, .int .i64 a4_4, .float .f64 a4_5] 35 (0, 0))) ∧ zA (Below w.heap.size w wc))
  case first =>
    have H := HC7.out; clear HC7; by_cases c13 : t477 = true
    · subst c13
      have H1 : (best_Cost.j0 k a1 a2 a3 t476 (decide (a2 ≤ a1)) l0_0 l0_1 a4_0 a4_1 a4_2 a4_3 a4_4 a4_5) = some (r1, r2) := by rw [if_pos rfl] at H; exact H
      clear H; have H := H1; clear H1; have H' := zA.mk H
      clear H; go_wp2
      go_meet
      case rel => exact ⟨_, (decide (a2 ≤ a1)), (by first | rfl | (simp; done) | (simp [*]; done)), H', ⟨by first | omega | exact Nat.le_refl _⟩, ⟨by (with_reducible repeat (first | refine zC ?_ _ | refine zD ?_ | refine zB ?_ _)); exact BK474.out⟩, ⟨by (with_reducible repeat (first | refine zC ?_ _ | refine zD ?_ | refine zB ?_ _)); exact BK475.out⟩, ⟨by repeat (first | (with_reducible first | exact HB.out | apply zJ | apply zF | apply zI | refine zE ?_ GE474.out | refine zE ?_ GE475.out) | exact HB.out)⟩⟩
    replace c13 := Bool.eq_false_iff.mpr c13; subst c13; have H1 : (best_Cost.j0 k a1 a2 a3 t476 true l0_0 l0_1 a4_0 a4_1 a4_2 a4_3 a4_4 a4_5) = some (r1, r2) := by rw [if_neg (show ¬ (false = true) by decide)] at H; exact H
    clear H; have H := H1; clear H1; have H' := zA.mk H
    clear H; go_wp2
    go_meet
    case rel => exact ⟨_, (true), (by first | rfl | (simp; done) | (simp [*]; done)), H', ⟨by first | omega | exact Nat.le_refl _⟩, ⟨by (with_reducible repeat (first | refine zC ?_ _ | refine zD ?_ | refine zB ?_ _)); exact BK474.out⟩, ⟨by (with_reducible repeat (first | refine zC ?_ _ | refine zD ?_ | refine zB ?_ _)); exact BK475.out⟩, ⟨by repeat (first | (with_reducible first | exact HB.out | apply zJ | apply zF | apply zI | refine zE ?_ GE474.out | refine zE ?_ GE475.out) | exact HB.out)⟩⟩
  clear HC7; obtain ⟨kq, x26_6, rfl, HA, HJ6, BK474, BK475, HB⟩ := hcut; cases kq with
  | zero => exact absurd HA.out (by simp [best_Cost.j0])
  | succ kj6 =>
    have H := HA.out; clear HA; simp only [best_Cost.j0] at H; by_cases c14 : x26_6 = true
    · subst c14
      have H1 : (some (0, false)) = some (r1, r2) := by rw [if_pos rfl] at H; exact H
      clear H; have H := H1; clear H1; simp only [Option.some.injEq, Prod.mk.injEq] at H; obtain ⟨rfl, rfl⟩ := H; go_wp2
      go_ret2
      exact ⟨by first | rfl | (simp [errW_none, errW_some] <;> rfl) | (simp [*, errW_none, errW_some] <;> rfl), by repeat (first | (with_reducible first | exact HB.out | apply zJ | apply zF | apply zI | refine zE ?_ GE474.out | refine zE ?_ GE475.out) | exact HB.out)⟩
    replace c14 := Bool.eq_false_iff.mpr c14; subst c14; have H1 : ((span_Cells.f kj6 l0_0 l0_1 a1 a2 t476 a4_1).bind fun t478 => ((span_Gaps.f kj6 l0_0 l0_1 a1 a2).bind fun t479 => ((best_price.f kj6 l0_0 l0_1 a1 t476 t478 t479 a3 a4_0 a4_1 a4_2 a4_3 a4_4 a4_5).bind fun bt480 => (some (bt480.1, bt480.2))))) = some (r1, r2) := by rw [if_neg (show ¬ (false = true) by decide)] at H; exact H
    clear H; have H := H1; clear H1; replace H := Option.bind_eq_some_iff.mp H; obtain ⟨t478, A150, H⟩ := H; replace H : ((span_Gaps.f kj6 l0_0 l0_1 a1 a2).bind fun t479 => ((best_price.f kj6 l0_0 l0_1 a1 t476 t478 t479 a3 a4_0 a4_1 a4_2 a4_3 a4_4 a4_5).bind fun bt480 => (some (bt480.1, bt480.2)))) = some (r1, r2) := H
    have A15 := zA.mk A150; clear A150; replace H := Option.bind_eq_some_iff.mp H; obtain ⟨t479, A160, H⟩ := H; replace H : ((best_price.f kj6 l0_0 l0_1 a1 t476 t478 t479 a3 a4_0 a4_1 a4_2 a4_3 a4_4 a4_5).bind fun bt480 => (some (bt480.1, bt480.2))) = some (r1, r2) := H
    have A16 := zA.mk A160; clear A160; replace H := Option.bind_eq_some_iff.mp H; obtain ⟨⟨t480, t481⟩, A170, H⟩ := H; replace H : (some (t480, t481)) = some (r1, r2) := H; have A17 := zA.mk A170; clear A170; simp only [Option.some.injEq, Prod.mk.injEq] at H; obtain ⟨rfl, rfl⟩ := H; try go_wp2
    replace BK474 := zA.mk (zD BK474.out); replace BK475 := zA.mk (zD BK475.out); replace HB := zA.mk (zI HB.out); refine start_ (n := 21) (S := fun w' => w'.cell? ⟨gb474, 0, none⟩ = some (.slice A0_0 l0_0.length c0_0) ∧ w'.cell? ⟨gb474, 1, none⟩ = some (.slice A0_1 l0_1.length c0_1) ∧ w'.cell? ⟨gb475, 0, none⟩ = some (.int .i64 a4_0) ∧ w'.cell? ⟨gb475, 1, none⟩ = some (.int .i64 a4_1) ∧ w'.cell? ⟨gb475, 2, none⟩ = some (.int .u8 a4_2) ∧ w'.cell? ⟨gb475, 3, none⟩ = some (.int .i64 a4_3) ∧ w'.cell? ⟨gb475, 4, none⟩ = some (.int .i64 a4_4) ∧ w'.cell? ⟨gb475, 5, none⟩ = some (.float .f64 a4_5)) (ds := []) #[false, false, false, false, false, false, false, false, false, false, false, false, false, false, false, false, false, false, false, false, false] (by kernel_rfl) rfl rfl ⟨(zG BK474.out 0).trans rfl, (zG BK474.out 1).trans rfl, (zG BK475.out 0).trans rfl, (zG BK475.out 1).trans rfl, (zG BK475.out 2).trans rfl, (zG BK475.out 3).trans rfl, (zG BK475.out 4).trans rfl, (zG BK475.out 5).trans rfl⟩ (fun hHeld => ?_); refine with_tabW best_Cost.tab4 best_Cost.bits4 (fun HT_ HW_ => ?_)
    generalize wc.drew = w18 at BK474 BK475 HB hHeld ⊢
    refine pure_ (i := 1) (N := some 28) (v := ?_) (a' := ?_) (tb_ 2 21) rfl rfl (any_of HT_.out (by kernel_rfl)) (fun _ _ _ h => h) (Or.inl ⟨by rfl, ?_⟩) ?_ ?_
    rotate_left
    · intro w'
      go_simp
      with_reducible rfl
    rotate_left
    · simp only [Act.put, sA_, sB_, sC_, i64_w, i32_w]
      rfl
    refine pure_ (i := 2) (N := some 29) (v := ?_) (a' := ?_) (tb_ 6 21) rfl rfl (any_of HT_.out (by kernel_rfl)) (fun _ _ _ h => h) (Or.inl ⟨by rfl, ?_⟩) ?_ ?_
    rotate_left
    · intro w'
      go_simp
      with_reducible rfl
    rotate_left
    · simp only [Act.put, sA_, sB_, sC_, i64_w, i32_w]
      rfl
    refine pure_ (i := 4) (N := some 31) (v := ?_) (a' := ?_) (tb_ 22 21) rfl rfl (any_of HT_.out (by kernel_rfl)) (fun _ _ _ h => h) (Or.inl ⟨by rfl, ?_⟩) ?_ ?_
    rotate_left
    · intro w'
      go_simp
      with_reducible rfl
    rotate_left
    · simp only [Act.put, sA_, sB_, sC_, i64_w, i32_w]
      rfl
    refine pure_ (i := 5) (N := some 32) (v := ?_) (a' := ?_) (tb_ 54 21) rfl rfl (any_of HT_.out (by kernel_rfl)) (fun _ _ _ h => h) (Or.inl ⟨by rfl, ?_⟩) ?_ ?_
    rotate_left
    · intro w'
      go_simp
      with_reducible rfl
    rotate_left
    · simp only [Act.put, sA_, sB_, sC_, i64_w, i32_w]
      rfl
    refine pure_ (i := 6) (N := some 33) (v := ?_) (a' := ?_) (tb_ 118 21) rfl rfl (any_of HT_.out (by kernel_rfl)) (fun _ _ _ h => h) (Or.inl ⟨by rfl, ?_⟩) ?_ ?_
    rotate_left
    · intro w'
      go_simp
      with_reducible rfl
    rotate_left
    · simp only [Act.put, sA_, sB_, sC_, i64_w, i32_w]
      rfl
    refine pure_ (i := 7) (N := some 34) (v := ?_) (a' := ?_) (tb_ 246 21) rfl rfl (any_of HT_.out (by kernel_rfl)) (fun _ _ _ h => h) (Or.inl ⟨by rfl, ?_⟩) ?_ ?_
    rotate_left
    · intro w'
      go_simp
      with_reducible rfl
    rotate_left
    · simp only [Act.put, sA_, sB_, sC_, i64_w, i32_w]
      rfl
    refine pure_ (i := 11) (N := some 38) (v := ?_) (a' := ?_) (tb_ 2294 21) rfl rfl (any_of HT_.out (by kernel_rfl)) (fun _ _ _ h => h) (Or.inl ⟨by rfl, ?_⟩) ?_ ?_
    rotate_left
    · intro w'
      go_simp
      with_reducible rfl
    rotate_left
    · simp only [Act.put, sA_, sB_, sC_, i64_w, i32_w]
      rfl
    refine pure_ (i := 12) (N := some 39) (v := ?_) (a' := ?_) (tb_ 6390 21) rfl rfl (any_of HT_.out (by kernel_rfl)) (fun _ _ _ h => h) (Or.inl ⟨by rfl, ?_⟩) ?_ ?_
    rotate_left
    · intro w'
      go_simp
      with_reducible rfl
    rotate_left
    · simp only [Act.put, sA_, sB_, sC_, i64_w, i32_w]
      rfl
    refine pure_ (i := 14) (N := some 41) (v := ?_) (a' := ?_) (tb_ 22774 21) rfl rfl (any_of HT_.out (by kernel_rfl)) (fun _ _ _ h => h) (Or.inl ⟨by rfl, ?_⟩) ?_ ?_
    rotate_left
    · intro w'
      go_simp
      with_reducible rfl
    rotate_left
    · simp only [Act.put, sA_, sB_, sC_, i64_w, i32_w]
      rfl
    refine take_ (i := 0) (N := some 27) (v := ?_) (a' := ?_) (tb_ 22775 21) rfl rfl (take_ofW HT_.out HW_.out (by kernel_rfl)) (fun _ _ _ h => h) (Or.inl ⟨by rfl, ?_⟩) hHeld ?_ ?_
    rotate_left
    · rintro w' ⟨s0, s1, s2, s3, s4, s5, s6, s7⟩
      go_simp
      with_reducible rfl
    rotate_left
    · simp only [Act.put, sA_, sB_, sC_, i64_w, i32_w]
      rfl
    refine take_ (i := 3) (N := some 30) (v := ?_) (a' := ?_) (tb_ 22783 21) rfl rfl (take_ofW HT_.out HW_.out (by kernel_rfl)) (fun _ _ _ h => h) (Or.inl ⟨by rfl, ?_⟩) hHeld ?_ ?_
    rotate_left
    · rintro w' ⟨s0, s1, s2, s3, s4, s5, s6, s7⟩
      go_simp
      with_reducible rfl
    rotate_left
    · simp only [Act.put, sA_, sB_, sC_, i64_w, i32_w]
      rfl
    refine take_ (i := 8) (N := some 35) (v := ?_) (a' := ?_) (tb_ 23039 21) rfl rfl (take_ofW HT_.out HW_.out (by kernel_rfl)) (fun _ _ _ h => h) (Or.inl ⟨by rfl, ?_⟩) hHeld ?_ ?_
    rotate_left
    · rintro w' ⟨s0, s1, s2, s3, s4, s5, s6, s7⟩
      go_simp
      with_reducible rfl
    rotate_left
    · simp only [Act.put, sA_, sB_, sC_, i64_w, i32_w]
      rfl
    refine take_ (i := 10) (N := some 37) (v := ?_) (a' := ?_) (tb_ 24063 21) rfl rfl (take_ofW HT_.out HW_.out (by kernel_rfl)) (fun _ _ _ h => h) (Or.inl ⟨by rfl, ?_⟩) hHeld ?_ ?_
    rotate_left
    · rintro w' ⟨s0, s1, s2, s3, s4, s5, s6, s7⟩
      go_simp
      with_reducible rfl
    rotate_left
    · simp only [Act.put, sA_, sB_, sC_, i64_w, i32_w]
      rfl
    refine take_ (i := 15) (N := some 42) (v := ?_) (a' := ?_) (tb_ 56831 21) rfl rfl (take_ofW HT_.out HW_.out (by kernel_rfl)) (fun _ _ _ h => h) (Or.inl ⟨by rfl, ?_⟩) hHeld ?_ ?_
    rotate_left
    · rintro w' ⟨s0, s1, s2, s3, s4, s5, s6, s7⟩
      go_simp
      with_reducible rfl
    rotate_left
    · simp only [Act.put, sA_, sB_, sC_, i64_w, i32_w]
      rfl
    refine one_ (i := 9) (N := some 36) (tb_ 57343 21) rfl rfl (one_of HT_.out (by kernel_rfl)) (by decide) (fun K hK => ?_)
    refine goes_ Try.func32 (by kernel_rfl) rfl #[.agg #[.slice A0_0 l0_0.length c0_0, .slice A0_1 l0_1.length c0_1], .int .i64 a1, .int .i64 a2, .int .u8 t476, .int .i64 a4_1] (by rfl) rfl rfl (by (try simp only [List.map_toArray, List.map_cons, List.map_nil]); first | done | rfl | (simp only [List.length_drop, List.length_take]; rfl)) ?_
    with_reducible refine (span_Cells.calls kj6 _ _ l0_0 _ _ l0_1 a1 a2 t476 a4_1 t478 _ ?side1 ?side2 ?side3 ?side4 A15.out).mono ?_
    (case side1 => repeat (first | exact (Kd.zT HR0_0.out HB.out) | (with_reducible refine Kd.zQ ?_ _) | (with_reducible refine Kd.zR ?_ _) | (with_reducible refine Kd.zS ?_)))
    (case side2 => exact HC0_0.out)
    (case side3 => repeat (first | exact (Kd.zT HR0_1.out HB.out) | (with_reducible refine Kd.zQ ?_ _) | (with_reducible refine Kd.zR ?_ _) | (with_reducible refine Kd.zS ?_)))
    (case side4 => exact HC0_1.out)
    rintro e w19 ⟨rfl, hb⟩
    refine ⟨_, rfl, ?_⟩
    replace BK474 := zA.mk (zK (by (with_reducible repeat (first | refine zC ?_ _ | refine zD ?_ | refine zB ?_ _)); exact BK474.out) hb)
    replace BK475 := zA.mk (zK (by (with_reducible repeat (first | refine zC ?_ _ | refine zD ?_ | refine zB ?_ _)); exact BK475.out) hb)
    replace HB := zA.mk (zL (by repeat (first | (with_reducible first | exact HB.out | apply zJ | apply zF | apply zI | refine zE ?_ GE474.out | refine zE ?_ GE475.out) | exact HB.out)) hb)
    (try clear hb)
    (try clear hb2)
    (try clear hk)
    (try clear hi)
    refine hK.out _ _ ⟨(zG BK474.out 0).trans rfl, (zG BK474.out 1).trans rfl, (zG BK475.out 0).trans rfl, (zG BK475.out 1).trans rfl, (zG BK475.out 2).trans rfl, (zG BK475.out 3).trans rfl, (zG BK475.out 4).trans rfl, (zG BK475.out 5).trans rfl⟩ (fun hHeld => ?_)
    clear hK K; refine norm_ (a' := ?_) ?_ ?_
    rotate_left
    · show Act.put _ (some 36) _ = _
      simp only [Act.put, sA_, sB_, sC_, i64_w, i32_w]; rfl
    refine one_ (i := 13) (N := some 40) (tb_ 65535 21) rfl rfl (one_of HT_.out (by kernel_rfl)) (by decide) (fun K hK => ?_)
    refine goes_ Try.func33 (by kernel_rfl) rfl #[.agg #[.slice A0_0 l0_0.length c0_0, .slice A0_1 l0_1.length c0_1], .int .i64 a1, .int .i64 a2] (by rfl) rfl rfl (by (try simp only [List.map_toArray, List.map_cons, List.map_nil]); first | done | rfl | (simp only [List.length_drop, List.length_take]; rfl)) ?_
    with_reducible refine (span_Gaps.calls kj6 _ _ l0_0 _ _ l0_1 a1 a2 t479 _ ?side1 ?side2 ?side3 ?side4 A16.out).mono ?_
    (case side1 => repeat (first | exact (Kd.zT HR0_0.out HB.out) | (with_reducible refine Kd.zQ ?_ _) | (with_reducible refine Kd.zR ?_ _) | (with_reducible refine Kd.zS ?_)))
    (case side2 => exact HC0_0.out)
    (case side3 => repeat (first | exact (Kd.zT HR0_1.out HB.out) | (with_reducible refine Kd.zQ ?_ _) | (with_reducible refine Kd.zR ?_ _) | (with_reducible refine Kd.zS ?_)))
    (case side4 => exact HC0_1.out)
    rintro e w20 ⟨rfl, hb⟩
    refine ⟨_, rfl, ?_⟩
    replace BK474 := zA.mk (zK (by (with_reducible repeat (first | refine zC ?_ _ | refine zD ?_ | refine zB ?_ _)); exact BK474.out) hb)
    replace BK475 := zA.mk (zK (by (with_reducible repeat (first | refine zC ?_ _ | refine zD ?_ | refine zB ?_ _)); exact BK475.out) hb)
    replace HB := zA.mk (zL (by repeat (first | (with_reducible first | exact HB.out | apply zJ | apply zF | apply zI | refine zE ?_ GE474.out | refine zE ?_ GE475.out) | exact HB.out)) hb)
    (try clear hb)
    (try clear hb2)
    (try clear hk)
    (try clear hi)
    refine hK.out _ _ ⟨(zG BK474.out 0).trans rfl, (zG BK474.out 1).trans rfl, (zG BK475.out 0).trans rfl, (zG BK475.out 1).trans rfl, (zG BK475.out 2).trans rfl, (zG BK475.out 3).trans rfl, (zG BK475.out 4).trans rfl, (zG BK475.out 5).trans rfl⟩ (fun hHeld => ?_)
    clear hK K; refine norm_ (a' := ?_) ?_ ?_
    rotate_left
    · show Act.put _ (some 40) _ = _
      simp only [Act.put, sA_, sB_, sC_, i64_w, i32_w]; rfl
    refine one_ (i := 16) (N := some 43) (tb_ 131071 21) rfl rfl (one_of HT_.out (by kernel_rfl)) (by decide) (fun K hK => ?_)
    refine goes_ Try.func31 (by kernel_rfl) rfl #[.agg #[.slice A0_0 l0_0.length c0_0, .slice A0_1 l0_1.length c0_1], .int .i64 a1, .int .u8 t476, .int .i64 t478, .int .i64 t479, .bool a3, .agg #[.int .i64 a4_0, .int .i64 a4_1, .int .u8 a4_2, .int .i64 a4_3, .int .i64 a4_4, .float .f64 a4_5]] (by rfl) rfl rfl (by (try simp only [List.map_toArray, List.map_cons, List.map_nil]); first | done | rfl | (simp only [List.length_drop, List.length_take]; rfl)) ?_
    with_reducible refine (best_price.calls kj6 _ _ l0_0 _ _ l0_1 a1 t476 t478 t479 a3 a4_0 a4_1 a4_2 a4_3 a4_4 a4_5 t480 t481 _ ?side1 ?side2 ?side3 ?side4 A17.out).mono ?_
    (case side1 => repeat (first | exact (Kd.zT HR0_0.out HB.out) | (with_reducible refine Kd.zQ ?_ _) | (with_reducible refine Kd.zR ?_ _) | (with_reducible refine Kd.zS ?_)))
    (case side2 => exact HC0_0.out)
    (case side3 => repeat (first | exact (Kd.zT HR0_1.out HB.out) | (with_reducible refine Kd.zQ ?_ _) | (with_reducible refine Kd.zR ?_ _) | (with_reducible refine Kd.zS ?_)))
    (case side4 => exact HC0_1.out)
    rintro e w21 ⟨rfl, hb⟩
    refine ⟨_, rfl, ?_⟩
    replace BK474 := zA.mk (zK (by (with_reducible repeat (first | refine zC ?_ _ | refine zD ?_ | refine zB ?_ _)); exact BK474.out) hb)
    replace BK475 := zA.mk (zK (by (with_reducible repeat (first | refine zC ?_ _ | refine zD ?_ | refine zB ?_ _)); exact BK475.out) hb)
    replace HB := zA.mk (zL (by repeat (first | (with_reducible first | exact HB.out | apply zJ | apply zF | apply zI | refine zE ?_ GE474.out | refine zE ?_ GE475.out) | exact HB.out)) hb)
    (try clear hb)
    (try clear hb2)
    (try clear hk)
    (try clear hi)
    refine hK.out _ _ ⟨(zG BK474.out 0).trans rfl, (zG BK474.out 1).trans rfl, (zG BK475.out 0).trans rfl, (zG BK475.out 1).trans rfl, (zG BK475.out 2).trans rfl, (zG BK475.out 3).trans rfl, (zG BK475.out 4).trans rfl, (zG BK475.out 5).trans rfl⟩ (fun hHeld => ?_)
    clear hK K; refine norm_ (a' := ?_) ?_ ?_
    rotate_left
    · show Act.put _ (some 43) _ = _
      simp only [Act.put, sA_, sB_, sC_, i64_w, i32_w]; rfl
    refine pure_ (i := 17) (N := some 44) (v := ?_) (a' := ?_) (tf_ 18 21) rfl rfl (any_of HT_.out (by kernel_rfl)) (fun _ _ _ h => h) (Or.inl ⟨by rfl, ?_⟩) ?_ ?_
    rotate_left
    · intro w'
      go_simp
      with_reducible rfl
    rotate_left
    · simp only [Act.put, sA_, sB_, sC_, i64_w, i32_w]
      rfl
    refine pure_ (i := 18) (N := some 45) (v := ?_) (a' := ?_) (tf_ 19 21) rfl rfl (any_of HT_.out (by kernel_rfl)) (fun _ _ _ h => h) (Or.inl ⟨by rfl, ?_⟩) ?_ ?_
    rotate_left
    · intro w'
      go_simp
      with_reducible rfl
    rotate_left
    · simp only [Act.put, sA_, sB_, sC_, i64_w, i32_w]
      rfl
    refine pure_ (i := 19) (N := some 10) (v := ?_) (a' := ?_) (tf_ 20 21) rfl rfl (any_of HT_.out (by kernel_rfl)) (fun _ _ _ h => h) (Or.inl ⟨by rfl, ?_⟩) ?_ ?_
    rotate_left
    · intro w'
      go_simp
      with_reducible rfl
    rotate_left
    · simp only [Act.put, sA_, sB_, sC_, i64_w, i32_w]
      rfl
    refine pure_ (i := 20) (N := some 11) (v := ?_) (a' := ?_) (tb_ 2097151 21) rfl rfl (any_of HT_.out (by kernel_rfl)) (fun _ _ _ h => h) (Or.inl ⟨by rfl, ?_⟩) ?_ ?_
    rotate_left
    · intro w'
      go_simp
      with_reducible rfl
    rotate_left
    · simp only [Act.put, sA_, sB_, sC_, i64_w, i32_w]
      rfl
    refine done_ (done_of HT_.out (by kernel_rfl)) ?_
    try go_wp2
    go_ret2
    exact ⟨by first | rfl | (simp [errW_none, errW_some] <;> rfl) | (simp [*, errW_none, errW_some] <;> rfl), by repeat (first | (with_reducible first | exact HB.out | apply zJ | apply zF | apply zI | refine zE ?_ GE474.out | refine zE ?_ GE475.out) | exact HB.out)⟩
end Go.Proofs.Ytlgclhhkgohanaa.F
end
