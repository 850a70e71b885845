/- Printed by a program: Lean functions that answer as the Go functions do, and the proofs of it. -/
import Derived.Test.YtcnblneghbgjgaaXLinesBreaks0
import Derived.Test.YtcnblneghbgjgaaVLinesBreaks0
import Derived.Test.YtcnblneghbgjgaaVLinesBreaks1
import Derived.Test.YtcnblneghbgjgaaVLinesBreaks3
section
namespace Go.Proofs.Ytcnblneghbgjgaa.F
open Go.RowKit Go.Proofs.YtcnblneghbgjgaaW.PrintWords Go.Proofs.YtcnblneghbgjgaaW.PrintLast Go.Proofs.YtcnblneghbgjgaaW.PrintMore
attribute [local go_sem] max2_int min2_int max_two min_two max_three min_three max_four min_four   -- for this text's walks alone
set_option linter.unusedVariables false
set_option linter.unusedSimpArgs false
def r3_Rows.l0 : Nat → List (S54) → List (S53) → Int → List (S66) → List Int → Option ((List (S53)))
 | 0, _, _, _, _, _ => none
 | k + 1, x1, x5, x6, x510000, x510001 => if x6 < (x1.length : Int) then (if 0 ≤ x6 then (if 0 ≤ ((rd_T54 x1 x6).f0) then (if ((rd_T54 x1 x6).f0) < (x510000.length : Int) then (if 0 ≤ (wrap64 (((rd_T54 x1 x6).f1) - 1)) then (if (wrap64 (((rd_T54 x1 x6).f1) - 1)) < (x510000.length : Int) then (if x5.length < 4398046511104 then (r3_Rows.l0 k x1 (x5 ++ [(⟨(rd_T66 x510000 ((rd_T54 x1 x6).f0)).f0, wrap64 (((rd_T66 x510000 (wrap64 (((rd_T54 x1 x6).f1) - 1))).f0) + ((rd_T66 x510000 (wrap64 (((rd_T54 x1 x6).f1) - 1))).f1)), (rd_T54 x1 x6).f2, (rd_T54 x1 x6).f3⟩ : S53)]) (wrap64 (x6 + 1)) x510000 x510001) else (none)) else (none)) else (none)) else (none)) else (none)) else (none)) else (if (x5.length : Int) = 0 then (some (([(⟨0, 0, 0, 2⟩ : S53)] : List (S53)))) else (some x5))
def r3_Rows.f (k : Nat) (l0_0 : List (S66)) (l0_1 : List Int) (l1 : List (S54)) : Option ((List (S53))) := r3_Rows.l0 k l1 ([] : List (S53)) 0 l0_0 l0_1
theorem r3_Rows.mono_l : ∀ k, (∀ y0 y1 y2 y3 y4, LeO (r3_Rows.l0 k y0 y1 y2 y3 y4) (r3_Rows.l0 (k + 1) y0 y1 y2 y3 y4))
 | 0 => fun _ _ _ _ _ r h => by simp [r3_Rows.l0] at h
 | k + 1 => by
  have ih0 := r3_Rows.mono_l k
  ·intro y0 y1 y2 y3 y4
   unfold r3_Rows.l0
   repeat' (with_reducible first | exact ih0 _ _ _ _ _ | exact LeO.refl _ | exact LeO.none _ | refine LeO.ite ?_ ?_ | refine LeO.bind ?_ (fun _ => ?_))
theorem r3_Rows.mono : ∀ a0 a1 a2 k, LeO (r3_Rows.f k a0 a1 a2) (r3_Rows.f (k + 1) a0 a1 a2) := by
 intro a0 a1 a2 k
 have ih0 := r3_Rows.mono_l k; unfold r3_Rows.f
 repeat' (with_reducible first | exact ih0 _ _ _ _ _ | exact LeO.refl _ | exact LeO.none _ | refine LeO.ite ?_ ?_ | refine LeO.bind ?_ (fun _ => ?_))
def r3_Rows.T5 : Bool × List (List Nat × List Nat) := (true, [([], []), ([0], [0]), ([], []), ([], []), ([2, 3], [2, 3]), ([4], [4]), ([5], [5]), ([1, 6], [1, 6]), ([7], [7]), ([], []), ([9], [9]), ([], []), ([], []), ([11, 12], [11, 12]), ([13], [13]), ([14], [14]), ([15], [15]), ([10, 16], [10, 16]), ([17], [17]), ([], []), ([], []), ([19, 8, 0, 1, 2, 3, 4, 5, 6, 7, 8, 19, 20], [8, 19]), ([20, 18, 21, 0, 1, 2, 3, 4, 5, 6, 7, 8, 9, 10, 11, 12, 13, 14, 15, 16, 17, 18, 19, 20, 21], [18, 20])])
def r3_Rows.B5 : List Nat := [0, 1, 0, 0, 12, 28, 60, 127, 255, 0, 512, 0, 0, 6144, 14336, 30720, 63488, 130560, 261632, 0, 0, 1573375, 4194303]
theorem r3_Rows.tab5 : rtab .any (opsOf Try.f17 5) = r3_Rows.T5 := by kernel_rfl
theorem r3_Rows.bits5 : waitsOk r3_Rows.T5.2 r3_Rows.B5 = true := by kernel_rfl
def r3_Rows.T6 : Bool × List (List Nat × List Nat) := (true, [([], []), ([], []), ([1], [1]), ([], []), ([3], [3]), ([], []), ([5], [5]), ([4, 6], [4, 6]), ([], []), ([], []), ([8, 9], [8, 9]), ([10], [10]), ([11], [11]), ([], []), ([], []), ([13, 14], [13, 14]), ([15], [15]), ([16], [16]), ([2, 7, 12, 17], [2, 7, 12, 17]), ([18], [18]), ([0, 19], [0, 19]), ([20, 20, 0, 1, 2, 3, 4, 5, 6, 7, 8, 9, 10, 11, 12, 13, 14, 15, 16, 17, 18, 19, 20], [0, 20])])
def r3_Rows.B6 : List Nat := [0, 0, 2, 0, 8, 0, 32, 120, 0, 0, 768, 1792, 3840, 0, 0, 24576, 57344, 122880, 262142, 524286, 1048575, 2097151]
theorem r3_Rows.tab6 : rtab .any (opsOf Try.f17 6) = r3_Rows.T6 := by kernel_rfl
theorem r3_Rows.bits6 : waitsOk r3_Rows.T6.2 r3_Rows.B6 = true := by kernel_rfl
set_option maxHeartbeats 8000000 in
set_option maxRecDepth 100000 in
theorem r3_Rows.calls (k : Nat) (A0_0 : Option Addr) (c0_0 : Nat) (l0_0 : List (S66)) (A0_1 : Option Addr) (c0_1 : Nat) (l0_1 : List Int) (A1 : Option Addr) (c1 : Nat) (l1 : List (S54)) (r : List (S53)) (w : World) (hr0_0 : Kd.C k66 w A0_0 l0_0.length l0_0) (hc0_0 : l0_0.length ≤ c0_0) (hr0_1 : Kd.C (Kd.int .u8) w A0_1 l0_1.length l0_1) (hc0_1 : l0_1.length ≤ c0_1) (hr1 : Kd.C k54 w A1 l1.length l1) (hc1 : l1.length ≤ c1) (h : r3_Rows.f k l0_0 l0_1 l1 = some r) :
  Calls Try.prog 17 #[.agg #[.slice A0_0 l0_0.length c0_0, .slice A0_1 l0_1.length c0_1], .slice A1 l1.length c1] w fun e w' => ∃ v0_ : Value, e = .returned (v0_) ∧ Kd.R k53 53 w' w.heap.size (fun _ => True) v0_ r ∧ Below w.heap.size w w' := by
 have hu31 := Try.underlying31; have hu66 := Try.underlying66; have hu53 := Try.underlying53; have HR0_0 := zA.mk hr0_0; have HC0_0 := zA.mk hc0_0; clear hr0_0 hc0_0; have HR0_1 := zA.mk hr0_1; have HC0_1 := zA.mk hc0_1; clear hr0_1 hc0_1; have HR1 := zA.mk hr1; have HC1 := zA.mk hc1; clear hr1 hc1; have HB := zA.mk (Below.refl w.heap.size w); have H : (r3_Rows.l0 k l1 ([] : List (S53)) 0 l0_0 l0_1) = some r := h
 clear h; have H' := zA.mk H
 clear H; go_enter Try.func17, Try.ntmps17
 go_wp2_with (first | ((with_reducible refine gate_dst (N := 2) rfl ?_); refine box_event ?hg (N := 2) ?hd (cs := #[.slice A0_0 l0_0.length c0_0, .slice A0_1 l0_1.length c0_1]) (t := 31) ?hr ?_; (case hd => rfl); (case hg => rfl); (case hr => first | (go_simp; done) | (go_simp; rfl)); intro gb509 hg w3 hbox hb; have BK509 := zA.mk (hbox); have GW509 := zA.mk ((by rw [hg]; exact (zH (aL HB)) : w.heap.size ≤ gb509)); replace HB := zA.mk (zD (aL HB) hb); have GE509 := GW509; clear hb hbox hg))
 go_loopg [5, 6] k (fun kq v5 v6 w' => ∃ (x5_1 : List (S53)) (x6_1 : Int), v6 = .int .i64 x6_1 ∧ zA (r3_Rows.l0 kq l1 x5_1 x6_1 l0_0 l0_1 = some r) ∧ zA (kq ≤ k) ∧ zA (Kd.R k53 53 w' w.heap.size (fun _ => True) v5 x5_1) ∧ zA (w'.heap[gb509]? = some (.cells #[(.slice A0_0 l0_0.length c0_0), (.slice A0_1 l0_1.length c0_1)] 31 (0, 0))) ∧ zA (Below w.heap.size w w'))
 case atStart => exact ⟨(([] : List (S53))), (0), aZ, H', ⟨Nat.le_refl _⟩, ⟨by first | exact Kd.R_nil _ _ _ _ _ | exact Kd.N_nil _ _ _ _ _ | exact Kd.V_nil _ _ _ _ _ | exact Kd.Q_nil _ _ _ _ _ | exact Kd.S_nil _ _ _ _ _⟩, ⟨aB BK509⟩, ⟨aL HB⟩⟩
 clear H'; obtain ⟨x5_1, x6_1, rfl, HA, HK1, HO_5, BK509, HB⟩ := hrel; cases gk with
 | zero => exact absurd HA.out (by simp [r3_Rows.l0])
 | succ k1 =>
  have H := HA.out; clear HA; simp only [r3_Rows.l0] at H; by_cases c4 : x6_1 < (l1.length : Int)
  rotate_left
  ·rw [if_neg c4] at H
   have c4b0 : decide (x6_1 < (l1.length : Int)) = false := decide_eq_false c4
   clear c4; by_cases c27 : (x5_1.length : Int) = 0
   rotate_left
   ·rw [if_neg c27] at H
    have c27b0 : ((x5_1.length : Int) == 0) = false := beq_eq_false_iff_ne.mpr c27
    have c27b1 : ((x5_1.length : Int) != 0) = true := bne_iff_ne.mpr c27
    have c27b2 : ¬ (x5_1 = []) := fun h_ => c27 (by rw [h_]; rfl)
    obtain rfl := Option.some.inj H
    obtain ⟨Ao31, co31, eo31⟩ := Kd.zT HO_5.out; subst eo31; go_wp2
    go_ret
    exact ⟨_, aX, aR HO_5, aL HB⟩
   rw [if_pos c27] at H; have c27b0 : ((x5_1.length : Int) == 0) = true := beq_iff_eq.mpr c27
   have c27b1 : ((x5_1.length : Int) != 0) = false := bne_eq_false_iff_eq.mpr c27
   clear c27; obtain ⟨y521, hy521⟩ : ∃ y_ : List (S53), y_ = (([(⟨0, 0, 0, 2⟩ : S53)] : List (S53))) := ⟨_, rfl⟩; replace H : (some y521) = some r := by first | (rw [hy521]; with_reducible exact H) | (have H2_ := (Option.bind_some _ _).symm.trans H; rw [hy521]; with_reducible exact H2_) | (have H2_ := (Option.bind_some _ _).symm.trans H; with_reducible exact H2_) | with_reducible exact H | (rw [hy521]; exact H) | exact H
   have Ny521 := zA.mk hy521; clear hy521; obtain rfl := Option.some.inj H
   obtain ⟨Ao28, co28, eo28⟩ := Kd.zT HO_5.out; subst eo28; go_wp2_with (first | ((with_reducible refine gate_dst (N := 59) rfl ?_); refine Kd.R_lit k53 _ 53 ?hg (N := 59) ?hd (xs := ([(⟨0, 0, 0, 2⟩ : S53)] : List (S53))) (inner := [.int .i64 0, .int .i64 0, .int .i64 0, .int .u8 2]) (ok := fun _ => True) (okp := fun _ => True) ?hr ?hp (fun _ hk => hk) trivial (Below.refl _ _) (Nat.le_refl _) (by simp) ?_; (case hd => rfl); (case hg => rfl); (case hr => first | (go_simp; done) | (go_simp; rfl)); (case hp => exact (Reps.c4 (show Kd.M k53 _ _ _ (⟨0, 0, 0, 2⟩ : S53) [.int .i64 0, .int .i64 0, .int .i64 0, .int .u8 2] from (k53_mkM _ _ _ (⟨0, 0, 0, 2⟩ : S53) )) (Reps.none _ _))); intro v522 w29 ho30 hb hg_ hnew_; clear hg_ hnew_; (first | rw [← Ny521.out] at ho30 | (simp only [Int.reduceToNat] at ho30; rw [← Ny521.out] at ho30)); have HO523 := zA.mk (Kd.zU (Kd.R_new' ho30 (Kd.R_lt (aR HO_5))) (zH (aL HB))); replace HO_5 := zA.mk (Kd.R_elder' (aR HO_5) (Kd.R_base ho30) hb); replace BK509 := zA.mk (zC (aB BK509) hb); replace HB := zA.mk (zD (aL HB) hb); clear hb ho30))
   go_ret
   exact ⟨_, aX, by (with_reducible repeat (first | apply Kd.zJ | apply Kd.zK | apply Kd.zL)); exact Kd.zV HO523.out (fun _ hk => trivial), aL HB⟩
  rw [if_pos c4] at H; have c4b0 : decide (x6_1 < (l1.length : Int)) = true := decide_eq_true c4
  clear c4; by_cases c5 : 0 ≤ x6_1
  rotate_left
  ·rw [if_neg c5] at H
   exact absurd H (by simp)
  rw [if_pos c5] at H; have c5b0 : decide (0 ≤ x6_1) = true := decide_eq_true c5
  clear c5; by_cases c6 : 0 ≤ ((rd_T54 l1 x6_1).f0)
  rotate_left
  ·rw [if_neg c6] at H
   exact absurd H (by simp)
  rw [if_pos c6] at H; have c6b0 : decide (0 ≤ ((rd_T54 l1 x6_1).f0)) = true := decide_eq_true c6
  clear c6; by_cases c7 : ((rd_T54 l1 x6_1).f0) < (l0_0.length : Int)
  rotate_left
  ·rw [if_neg c7] at H
   exact absurd H (by simp)
  rw [if_pos c7] at H; have c7b0 : decide (((rd_T54 l1 x6_1).f0) < (l0_0.length : Int)) = true := decide_eq_true c7
  clear c7; obtain ⟨ji8, hji8⟩ : ∃ j_ : Int, (wrap64 (((rd_T54 l1 x6_1).f1) - 1)) = j_ := ⟨_, rfl⟩; replace H : (if 0 ≤ (ji8) then (if (ji8) < (l0_0.length : Int) then (if x5_1.length < 4398046511104 then (r3_Rows.l0 k1 l1 (x5_1 ++ [(⟨(rd_T66 l0_0 ((rd_T54 l1 x6_1).f0)).f0, wrap64 (((rd_T66 l0_0 (ji8)).f0) + ((rd_T66 l0_0 (ji8)).f1)), (rd_T54 l1 x6_1).f2, (rd_T54 l1 x6_1).f3⟩ : S53)]) (wrap64 (x6_1 + 1)) l0_0 l0_1) else (none)) else (none)) else (none)) = some r := by first | (rw [hji8] at H; exact H) | (simp only [hji8] at H ⊢; exact H)
  have hji8w : (IntKind.i64.wrap (((rd_T54 l1 x6_1).f1) - 1)) = ji8 := (i64_w _).trans hji8
  by_cases c9 : 0 ≤ (ji8)
  rotate_left
  ·rw [if_neg c9] at H
   exact absurd H (by simp)
  rw [if_pos c9] at H; have c9b0 : decide (0 ≤ (ji8)) = true := decide_eq_true c9
  clear c9; by_cases c10 : (ji8) < (l0_0.length : Int)
  rotate_left
  ·rw [if_neg c10] at H
   exact absurd H (by simp)
  rw [if_pos c10] at H; have c10b0 : decide ((ji8) < (l0_0.length : Int)) = true := decide_eq_true c10
  clear c10; by_cases c11 : x5_1.length < 4398046511104
  rotate_left
  ·rw [if_neg c11] at H
   exact absurd H (by simp)
  rw [if_pos c11] at H; have LMc11 := zA.mk c11; clear c11; obtain ⟨y518, hy518⟩ : ∃ y_ : List (S53), y_ = (x5_1 ++ [(⟨(rd_T66 l0_0 ((rd_T54 l1 x6_1).f0)).f0, wrap64 (((rd_T66 l0_0 (ji8)).f0) + ((rd_T66 l0_0 (ji8)).f1)), (rd_T54 l1 x6_1).f2, (rd_T54 l1 x6_1).f3⟩ : S53)]) := ⟨_, rfl⟩; replace H : (r3_Rows.l0 k1 l1 y518 (wrap64 (x6_1 + 1)) l0_0 l0_1) = some r := by first | (rw [hy518]; with_reducible exact H) | (have H2_ := (Option.bind_some _ _).symm.trans H; rw [hy518]; with_reducible exact H2_) | (have H2_ := (Option.bind_some _ _).symm.trans H; with_reducible exact H2_) | with_reducible exact H | (rw [hy518]; exact H) | exact H
  have Ny518 := zA.mk hy518; clear hy518; have H' := zA.mk H
  clear H; try go_wp2
  replace HO_5 := zA.mk (Kd.zL HO_5.out); replace BK509 := zA.mk (zF BK509.out); replace HB := zA.mk (below_drew1 HB.out); have p510 : 0 ≤ (x6_1 : Int) := aD
  have q510 : x6_1 < (l1.length : Int) := aD
  obtain ⟨ad510, e510, hx510_0, hx510_1, hx510_2, hx510_3⟩ := at_T54 HR1.out x6_1 p510 q510; have hw510_3 := hx510_3; have hw510_2 := hx510_2; have hw510_1 := hx510_1; have hw510_0 := hx510_0; cases e510
  replace hx510_0 := (HB.out.cell (World.block_lt_of_cell? w _ hx510_0)).trans hx510_0; replace hx510_1 := (HB.out.cell (World.block_lt_of_cell? w _ hx510_1)).trans hx510_1; replace hx510_2 := (HB.out.cell (World.block_lt_of_cell? w _ hx510_2)).trans hx510_2; replace hx510_3 := (HB.out.cell (World.block_lt_of_cell? w _ hx510_3)).trans hx510_3; replace p510 := eq_true p510; replace q510 := eq_true q510; have p511 : 0 ≤ (((rd_T54 l1 x6_1).f0) : Int) := aD
  have q511 : ((rd_T54 l1 x6_1).f0) < (l0_0.length : Int) := aD
  obtain ⟨ad511, e511, hx511_0, hx511_1, hx511_2, hx511_3⟩ := at_T66 HR0_0.out ((rd_T54 l1 x6_1).f0) p511 q511; have hw511_3 := hx511_3; have hw511_2 := hx511_2; have hw511_1 := hx511_1; have hw511_0 := hx511_0; cases e511
  replace hx511_0 := (HB.out.cell (World.block_lt_of_cell? w _ hx511_0)).trans hx511_0; replace hx511_1 := (HB.out.cell (World.block_lt_of_cell? w _ hx511_1)).trans hx511_1; replace hx511_2 := (HB.out.cell (World.block_lt_of_cell? w _ hx511_2)).trans hx511_2; replace hx511_3 := (HB.out.cell (World.block_lt_of_cell? w _ hx511_3)).trans hx511_3; replace p511 := eq_true p511; replace q511 := eq_true q511; have p512 : 0 ≤ (x6_1 : Int) := aD
  have q512 : x6_1 < (l1.length : Int) := aD
  obtain ⟨ad512, e512, hx512_0, hx512_1, hx512_2, hx512_3⟩ := at_T54 HR1.out x6_1 p512 q512; have hw512_3 := hx512_3; have hw512_2 := hx512_2; have hw512_1 := hx512_1; have hw512_0 := hx512_0; obtain rfl : ad510 = ad512 := (by injection e512)
  replace hx512_0 := (HB.out.cell (World.block_lt_of_cell? w _ hx512_0)).trans hx512_0; replace hx512_1 := (HB.out.cell (World.block_lt_of_cell? w _ hx512_1)).trans hx512_1; replace hx512_2 := (HB.out.cell (World.block_lt_of_cell? w _ hx512_2)).trans hx512_2; replace hx512_3 := (HB.out.cell (World.block_lt_of_cell? w _ hx512_3)).trans hx512_3; replace p512 := eq_true p512; replace q512 := eq_true q512; have p513 : 0 ≤ ((ji8) : Int) := aD
  have q513 : (ji8) < (l0_0.length : Int) := aD
  obtain ⟨ad513, e513, hx513_0, hx513_1, hx513_2, hx513_3⟩ := at_T66 HR0_0.out (ji8) p513 q513; have hw513_3 := hx513_3; have hw513_2 := hx513_2; have hw513_1 := hx513_1; have hw513_0 := hx513_0; obtain rfl : ad511 = ad513 := (by injection e513)
  replace hx513_0 := (HB.out.cell (World.block_lt_of_cell? w _ hx513_0)).trans hx513_0; replace hx513_1 := (HB.out.cell (World.block_lt_of_cell? w _ hx513_1)).trans hx513_1; replace hx513_2 := (HB.out.cell (World.block_lt_of_cell? w _ hx513_2)).trans hx513_2; replace hx513_3 := (HB.out.cell (World.block_lt_of_cell? w _ hx513_3)).trans hx513_3; replace p513 := eq_true p513; replace q513 := eq_true q513; refine start_ (n := 23) (S := fun w' => w'.cell? ⟨gb509, 0, none⟩ = some (.slice (some ad511) l0_0.length c0_0) ∧ w'.cell? ⟨gb509, 1, none⟩ = some (.slice A0_1 l0_1.length c0_1) ∧ w'.cell? (ad510.add ((x6_1).toNat * 4)) = some (.int .i64 ((rd_T54 l1 x6_1).f0)) ∧ w'.cell? ⟨(ad510.add ((x6_1).toNat * 4)).block, (ad510.add ((x6_1).toNat * 4)).off + 1, none⟩ = some (.int .i64 ((rd_T54 l1 x6_1).f1)) ∧ w'.cell? ⟨(ad510.add ((x6_1).toNat * 4)).block, (ad510.add ((x6_1).toNat * 4)).off + 2, none⟩ = some (.int .i64 ((rd_T54 l1 x6_1).f2)) ∧ w'.cell? ⟨(ad510.add ((x6_1).toNat * 4)).block, (ad510.add ((x6_1).toNat * 4)).off + 3, none⟩ = some (.int .u8 ((rd_T54 l1 x6_1).f3)) ∧ w'.cell? (ad511.add ((((rd_T54 l1 x6_1).f0)).toNat * 4)) = some (.int .i64 ((rd_T66 l0_0 ((rd_T54 l1 x6_1).f0)).f0)) ∧ w'.cell? ⟨(ad511.add ((((rd_T54 l1 x6_1).f0)).toNat * 4)).block, (ad511.add ((((rd_T54 l1 x6_1).f0)).toNat * 4)).off + 1, none⟩ = some (.int .i64 ((rd_T66 l0_0 ((rd_T54 l1 x6_1).f0)).f1)) ∧ w'.cell? ⟨(ad511.add ((((rd_T54 l1 x6_1).f0)).toNat * 4)).block, (ad511.add ((((rd_T54 l1 x6_1).f0)).toNat * 4)).off + 2, none⟩ = some (.int .i64 ((rd_T66 l0_0 ((rd_T54 l1 x6_1).f0)).f2)) ∧ w'.cell? ⟨(ad511.add ((((rd_T54 l1 x6_1).f0)).toNat * 4)).block, (ad511.add ((((rd_T54 l1 x6_1).f0)).toNat * 4)).off + 3, none⟩ = some (.int .u8 ((rd_T66 l0_0 ((rd_T54 l1 x6_1).f0)).f3)) ∧ w'.cell? (ad510.add ((x6_1).toNat * 4)) = some (.int .i64 ((rd_T54 l1 x6_1).f0)) ∧ w'.cell? ⟨(ad510.add ((x6_1).toNat * 4)).block, (ad510.add ((x6_1).toNat * 4)).off + 1, none⟩ = some (.int .i64 ((rd_T54 l1 x6_1).f1)) ∧ w'.cell? ⟨(ad510.add ((x6_1).toNat * 4)).block, (ad510.add ((x6_1).toNat * 4)).off + 2, none⟩ = some (.int .i64 ((rd_T54 l1 x6_1).f2)) ∧ w'.cell? ⟨(ad510.add ((x6_1).toNat * 4)).block, (ad510.add ((x6_1).toNat * 4)).off + 3, none⟩ = some (.int .u8 ((rd_T54 l1 x6_1).f3)) ∧ w'.cell? (ad511.add (((ji8)).toNat * 4)) = some (.int .i64 ((rd_T66 l0_0 (ji8)).f0)) ∧ w'.cell? ⟨(ad511.add (((ji8)).toNat * 4)).block, (ad511.add (((ji8)).toNat * 4)).off + 1, none⟩ = some (.int .i64 ((rd_T66 l0_0 (ji8)).f1)) ∧ w'.cell? ⟨(ad511.add (((ji8)).toNat * 4)).block, (ad511.add (((ji8)).toNat * 4)).off + 2, none⟩ = some (.int .i64 ((rd_T66 l0_0 (ji8)).f2)) ∧ w'.cell? ⟨(ad511.add (((ji8)).toNat * 4)).block, (ad511.add (((ji8)).toNat * 4)).off + 3, none⟩ = some (.int .u8 ((rd_T66 l0_0 (ji8)).f3))) (ds := []) #[false, false, false, false, false, false, false, false, false, false, false, false, false, false, false, false, false, false, false, false, false, false, false] (by kernel_rfl) rfl rfl ⟨(zB BK509.out 0).trans rfl, (zB BK509.out 1).trans rfl, ((HB.out.cell (World.block_lt_of_cell? w _ hw510_0)).trans hw510_0), ((HB.out.cell (World.block_lt_of_cell? w _ hw510_1)).trans hw510_1), ((HB.out.cell (World.block_lt_of_cell? w _ hw510_2)).trans hw510_2), ((HB.out.cell (World.block_lt_of_cell? w _ hw510_3)).trans hw510_3), ((HB.out.cell (World.block_lt_of_cell? w _ hw511_0)).trans hw511_0), ((HB.out.cell (World.block_lt_of_cell? w _ hw511_1)).trans hw511_1), ((HB.out.cell (World.block_lt_of_cell? w _ hw511_2)).trans hw511_2), ((HB.out.cell (World.block_lt_of_cell? w _ hw511_3)).trans hw511_3), ((HB.out.cell (World.block_lt_of_cell? w _ hw512_0)).trans hw512_0), ((HB.out.cell (World.block_lt_of_cell? w _ hw512_1)).trans hw512_1), ((HB.out.cell (World.block_lt_of_cell? w _ hw512_2)).trans hw512_2), ((HB.out.cell (World.block_lt_of_cell? w _ hw512_3)).trans hw512_3), ((HB.out.cell (World.block_lt_of_cell? w _ hw513_0)).trans hw513_0), ((HB.out.cell (World.block_lt_of_cell? w _ hw513_1)).trans hw513_1), ((HB.out.cell (World.block_lt_of_cell? w _ hw513_2)).trans hw513_2), ((HB.out.cell (World.block_lt_of_cell? w _ hw513_3)).trans hw513_3)⟩ (fun hHeld => ?_); refine with_tabW r3_Rows.tab5 r3_Rows.bits5 (fun HT_ HW_ => ?_)
  generalize wr.drew = w12 at HO_5 BK509 HB hx510_0 hx510_1 hx510_2 hx510_3 hx511_0 hx511_1 hx511_2 hx511_3 hx512_0 hx512_1 hx512_2 hx512_3 hx513_0 hx513_1 hx513_2 hx513_3 hHeld ⊢
  refine aP 0 (some 15) (tf_ 1 23) HT_ ?_
  refine aP 2 (some 17) (tb_ 5 23) HT_ ?_
  refine aP 3 (some 18) (tb_ 13 23) HT_ ?_
  refine aP 4 (some 19) (tb_ 29 23) HT_ ?_
  refine aP 5 (some 20) (tb_ 61 23) HT_ ?_
  refine aP 9 (some 24) (tb_ 573 23) HT_ ?_
  refine aP 11 (some 26) (tb_ 2621 23) HT_ ?_
  refine aP 12 (some 27) (tb_ 6717 23) HT_ ?_
  refine aP 13 (some 28) (tb_ 14909 23) HT_ ?_
  refine aP 14 (some 29) (tb_ 31293 23) HT_ ?_
  refine take_ (i := 1) (N := some 16) (v := ?_) (a' := ?_) (tb_ 31295 23) rfl rfl (take_ofW HT_.out HW_.out (by kernel_rfl)) (fun _ _ _ h => h) (Or.inl ⟨by rfl, ?_⟩) hHeld ?_ ?_
  rotate_left
  ·rintro w' ⟨s0, s1, s2, s3, s4, s5, s6, s7, s8, s9, s10, s11, s12, s13, s14, s15, s16, s17⟩
   go_simp
   with_reducible rfl
  rotate_left
  ·simp only [Act.put, sA_, sB_, sC_, i64_w, i32_w]
   rfl
  refine take_ (i := 6) (N := some 21) (v := ?_) (a' := ?_) (tb_ 31359 23) rfl rfl (take_ofW HT_.out HW_.out (by kernel_rfl)) (fun _ _ _ h => h) (Or.inl ⟨by rfl, ?_⟩) hHeld ?_ ?_
  rotate_left
  ·rintro w' ⟨s0, s1, s2, s3, s4, s5, s6, s7, s8, s9, s10, s11, s12, s13, s14, s15, s16, s17⟩
   go_simp
   with_reducible rfl
  rotate_left
  ·simp only [Act.put, sA_, sB_, sC_, i64_w, i32_w]
   rfl
  refine aP 7 (some 22) (tb_ 31487 23) HT_ ?_
  refine take_ (i := 8) (N := some 23) (v := ?_) (a' := ?_) (tb_ 31743 23) rfl rfl (take_ofW HT_.out HW_.out (by kernel_rfl)) (fun _ _ _ h => h) (Or.inl ⟨by rfl, ?_⟩) hHeld ?_ ?_
  rotate_left
  ·rintro w' ⟨s0, s1, s2, s3, s4, s5, s6, s7, s8, s9, s10, s11, s12, s13, s14, s15, s16, s17⟩
   go_simp
   with_reducible rfl
  rotate_left
  ·simp only [Act.put, sA_, sB_, sC_, i64_w, i32_w]
   rfl
  refine take_ (i := 10) (N := some 25) (v := ?_) (a' := ?_) (tf_ 15 23) rfl rfl (take_ofW HT_.out HW_.out (by kernel_rfl)) (fun _ _ _ h => h) (Or.inl ⟨by rfl, ?_⟩) hHeld ?_ ?_
  rotate_left
  ·rintro w' ⟨s0, s1, s2, s3, s4, s5, s6, s7, s8, s9, s10, s11, s12, s13, s14, s15, s16, s17⟩
   go_simp
   with_reducible rfl
  rotate_left
  ·simp only [Act.put, sA_, sB_, sC_, i64_w, i32_w]
   rfl
  refine take_ (i := 15) (N := some 30) (v := ?_) (a' := ?_) (tf_ 16 23) rfl rfl (take_ofW HT_.out HW_.out (by kernel_rfl)) (fun _ _ _ h => h) (Or.inl ⟨by rfl, ?_⟩) hHeld ?_ ?_
  rotate_left
  ·rintro w' ⟨s0, s1, s2, s3, s4, s5, s6, s7, s8, s9, s10, s11, s12, s13, s14, s15, s16, s17⟩
   go_simp
   with_reducible rfl
  rotate_left
  ·simp only [Act.put, sA_, sB_, sC_, i64_w, i32_w]
   rfl
  refine aP 16 (some 31) (tf_ 17 23) HT_ ?_
  refine aP 17 (some 32) (tf_ 18 23) HT_ ?_
  refine take_ (i := 18) (N := some 33) (v := ?_) (a' := ?_) (tf_ 19 23) rfl rfl (take_ofW HT_.out HW_.out (by kernel_rfl)) (fun _ _ _ h => h) (Or.inl ⟨by rfl, ?_⟩) hHeld ?_ ?_
  rotate_left
  ·rintro w' ⟨s0, s1, s2, s3, s4, s5, s6, s7, s8, s9, s10, s11, s12, s13, s14, s15, s16, s17⟩
   go_simp
   with_reducible rfl
  rotate_left
  ·simp only [Act.put, sA_, sB_, sC_, i64_w, i32_w]
   rfl
  refine join_ (σ := Nat × Nat) 2 (tb_ 2097151 23) (fun s_ => [(7, .pointer (some ⟨s_.1, 0, none⟩)), (8, .pointer (some ⟨s_.2, 0, none⟩))]) (fun s_ w' => (w'.cell? ⟨gb509, 0, none⟩ = some (.slice (some ad511) l0_0.length c0_0) ∧ w'.cell? ⟨gb509, 1, none⟩ = some (.slice A0_1 l0_1.length c0_1) ∧ w'.cell? (ad510.add ((x6_1).toNat * 4)) = some (.int .i64 ((rd_T54 l1 x6_1).f0)) ∧ w'.cell? ⟨(ad510.add ((x6_1).toNat * 4)).block, (ad510.add ((x6_1).toNat * 4)).off + 1, none⟩ = some (.int .i64 ((rd_T54 l1 x6_1).f1)) ∧ w'.cell? ⟨(ad510.add ((x6_1).toNat * 4)).block, (ad510.add ((x6_1).toNat * 4)).off + 2, none⟩ = some (.int .i64 ((rd_T54 l1 x6_1).f2)) ∧ w'.cell? ⟨(ad510.add ((x6_1).toNat * 4)).block, (ad510.add ((x6_1).toNat * 4)).off + 3, none⟩ = some (.int .u8 ((rd_T54 l1 x6_1).f3)) ∧ w'.cell? (ad511.add ((((rd_T54 l1 x6_1).f0)).toNat * 4)) = some (.int .i64 ((rd_T66 l0_0 ((rd_T54 l1 x6_1).f0)).f0)) ∧ w'.cell? ⟨(ad511.add ((((rd_T54 l1 x6_1).f0)).toNat * 4)).block, (ad511.add ((((rd_T54 l1 x6_1).f0)).toNat * 4)).off + 1, none⟩ = some (.int .i64 ((rd_T66 l0_0 ((rd_T54 l1 x6_1).f0)).f1)) ∧ w'.cell? ⟨(ad511.add ((((rd_T54 l1 x6_1).f0)).toNat * 4)).block, (ad511.add ((((rd_T54 l1 x6_1).f0)).toNat * 4)).off + 2, none⟩ = some (.int .i64 ((rd_T66 l0_0 ((rd_T54 l1 x6_1).f0)).f2)) ∧ w'.cell? ⟨(ad511.add ((((rd_T54 l1 x6_1).f0)).toNat * 4)).block, (ad511.add ((((rd_T54 l1 x6_1).f0)).toNat * 4)).off + 3, none⟩ = some (.int .u8 ((rd_T66 l0_0 ((rd_T54 l1 x6_1).f0)).f3)) ∧ w'.cell? (ad510.add ((x6_1).toNat * 4)) = some (.int .i64 ((rd_T54 l1 x6_1).f0)) ∧ w'.cell? ⟨(ad510.add ((x6_1).toNat * 4)).block, (ad510.add ((x6_1).toNat * 4)).off + 1, none⟩ = some (.int .i64 ((rd_T54 l1 x6_1).f1)) ∧ w'.cell? ⟨(ad510.add ((x6_1).toNat * 4)).block, (ad510.add ((x6_1).toNat * 4)).off + 2, none⟩ = some (.int .i64 ((rd_T54 l1 x6_1).f2)) ∧ w'.cell? ⟨(ad510.add ((x6_1).toNat * 4)).block, (ad510.add ((x6_1).toNat * 4)).off + 3, none⟩ = some (.int .u8 ((rd_T54 l1 x6_1).f3)) ∧ w'.cell? (ad511.add (((ji8)).toNat * 4)) = some (.int .i64 ((rd_T66 l0_0 (ji8)).f0)) ∧ w'.cell? ⟨(ad511.add (((ji8)).toNat * 4)).block, (ad511.add (((ji8)).toNat * 4)).off + 1, none⟩ = some (.int .i64 ((rd_T66 l0_0 (ji8)).f1)) ∧ w'.cell? ⟨(ad511.add (((ji8)).toNat * 4)).block, (ad511.add (((ji8)).toNat * 4)).off + 2, none⟩ = some (.int .i64 ((rd_T66 l0_0 (ji8)).f2)) ∧ w'.cell? ⟨(ad511.add (((ji8)).toNat * 4)).block, (ad511.add (((ji8)).toNat * 4)).off + 3, none⟩ = some (.int .u8 ((rd_T66 l0_0 (ji8)).f3))) ∧ (Kd.R k53 53 w' w.heap.size (fun _ => True) u5 x5_1) ∧ (w'.heap[gb509]? = some (.cells #[.slice (some ad511) l0_0.length c0_0, .slice A0_1 l0_1.length c0_1] 31 (0, 0))) ∧ (w'.heap[s_.1]? = some (.cells #[.int .i64 0, .int .i64 0, .int .i64 0, .int .u8 0] 66 (0, 0))) ∧ (w'.heap[s_.2]? = some (.cells #[.int .i64 0, .int .i64 0, .int .i64 0, .int .u8 0] 66 (0, 0))) ∧ (w.heap.size ≤ s_.1) ∧ (w.heap.size ≤ s_.1) ∧ (gb509 ≠ s_.1) ∧ (s_.1 ≠ gb509) ∧ (s_.2 ≠ s_.1) ∧ (s_.1 ≠ s_.2) ∧ (w.heap.size ≤ s_.2) ∧ (w.heap.size ≤ s_.2) ∧ (gb509 ≠ s_.2) ∧ (s_.2 ≠ gb509) ∧ (Below w.heap.size w w')) ?_ ?_
  rotate_left
  ·intro hCont
   refine two_ (i := 19) (j := 20) (Ni := some 7) (Nj := some 8) (tb_ 1048575 23) (tb_ 1572863 23) rfl rfl rfl rfl (two_of HT_.out (by kernel_rfl)) (by decide) (by decide) (fun K hK => ?_) (fun K hK => ?_)
   ·skip
    refine box_step ?hg (N := 7) ?hd (cs := #[.int .i64 0, .int .i64 0, .int .i64 0, .int .u8 0]) (t := 66) ?hr ?_; (case hd => rfl); (case hg => rfl); (case hr => first | (go_simp; done) | (go_simp; rfl))
    intro gb514 hg w13 hbox hb
    replace HO_5 := zA.mk (Kd.zR (aR HO_5) hb); have BK514 := zA.mk (hbox); have GW514 := zA.mk ((by rw [hg]; exact (zH (aL HB)) : w.heap.size ≤ gb514))
    replace HB := zA.mk (zD (aL HB) hb); have GE514 := GW514; have NB509_514 := zA.mk ((by rw [hg]; exact Nat.ne_of_lt (blk_lt (aB BK509)) : gb509 ≠ gb514))
    have NB514_509 := zA.mk ((by rw [hg]; exact Nat.ne_of_gt (blk_lt (g := gb509) (o := .cells #[.slice (some ad511) l0_0.length c0_0, .slice A0_1 l0_1.length c0_1] 31 (0, 0)) (aB BK509)) : gb514 ≠ gb509))
    replace BK509 := zA.mk (zC (aB BK509) hb); clear hb hbox hg; refine hK.out _ _ ⟨(zB BK509.out 0).trans rfl, (zB BK509.out 1).trans rfl, ((HB.out.cell (World.block_lt_of_cell? w _ hw510_0)).trans hw510_0), ((HB.out.cell (World.block_lt_of_cell? w _ hw510_1)).trans hw510_1), ((HB.out.cell (World.block_lt_of_cell? w _ hw510_2)).trans hw510_2), ((HB.out.cell (World.block_lt_of_cell? w _ hw510_3)).trans hw510_3), ((HB.out.cell (World.block_lt_of_cell? w _ hw511_0)).trans hw511_0), ((HB.out.cell (World.block_lt_of_cell? w _ hw511_1)).trans hw511_1), ((HB.out.cell (World.block_lt_of_cell? w _ hw511_2)).trans hw511_2), ((HB.out.cell (World.block_lt_of_cell? w _ hw511_3)).trans hw511_3), ((HB.out.cell (World.block_lt_of_cell? w _ hw512_0)).trans hw512_0), ((HB.out.cell (World.block_lt_of_cell? w _ hw512_1)).trans hw512_1), ((HB.out.cell (World.block_lt_of_cell? w _ hw512_2)).trans hw512_2), ((HB.out.cell (World.block_lt_of_cell? w _ hw512_3)).trans hw512_3), ((HB.out.cell (World.block_lt_of_cell? w _ hw513_0)).trans hw513_0), ((HB.out.cell (World.block_lt_of_cell? w _ hw513_1)).trans hw513_1), ((HB.out.cell (World.block_lt_of_cell? w _ hw513_2)).trans hw513_2), ((HB.out.cell (World.block_lt_of_cell? w _ hw513_3)).trans hw513_3)⟩ (fun hHeld => ?_)
    clear hK K; refine norm_ (a' := ?_) ?_ ?_
    rotate_left
    ·show Act.put _ (some 7) _ = _
     simp only [Act.put, sA_, sB_, sC_, i64_w, i32_w]; rfl
    refine one_ (i := 20) (N := some 8) (tb_ 2097151 23) rfl rfl (one_of HT_.out (by kernel_rfl)) (by decide) (fun K hK => ?_)
    refine box_step ?hg (N := 8) ?hd (cs := #[.int .i64 0, .int .i64 0, .int .i64 0, .int .u8 0]) (t := 66) ?hr ?_; (case hd => rfl); (case hg => rfl); (case hr => first | (go_simp; done) | (go_simp; rfl))
    intro gb515 hg w14 hbox hb
    replace HO_5 := zA.mk (Kd.zR (aR HO_5) hb); have BK515 := zA.mk (hbox); have GW515 := zA.mk ((by rw [hg]; exact (zH (aL HB)) : w.heap.size ≤ gb515))
    replace HB := zA.mk (zD (aL HB) hb); have GE515 := GW515; have NB509_515 := zA.mk ((by rw [hg]; exact Nat.ne_of_lt (blk_lt (aB BK509)) : gb509 ≠ gb515))
    have NB515_509 := zA.mk ((by rw [hg]; exact Nat.ne_of_gt (blk_lt (g := gb509) (o := .cells #[.slice (some ad511) l0_0.length c0_0, .slice A0_1 l0_1.length c0_1] 31 (0, 0)) (aB BK509)) : gb515 ≠ gb509))
    replace BK509 := zA.mk (zC (aB BK509) hb); have NB514_515 := zA.mk ((by rw [hg]; exact Nat.ne_of_lt (blk_lt (aB BK514)) : gb514 ≠ gb515))
    have NB515_514 := zA.mk ((by rw [hg]; exact Nat.ne_of_gt (blk_lt (g := gb514) (o := .cells #[.int .i64 0, .int .i64 0, .int .i64 0, .int .u8 0] 66 (0, 0)) (aB BK514)) : gb515 ≠ gb514))
    replace BK514 := zA.mk (zC (aB BK514) hb); clear hb hbox hg; refine hK.out _ _ ⟨(zB BK509.out 0).trans rfl, (zB BK509.out 1).trans rfl, ((HB.out.cell (World.block_lt_of_cell? w _ hw510_0)).trans hw510_0), ((HB.out.cell (World.block_lt_of_cell? w _ hw510_1)).trans hw510_1), ((HB.out.cell (World.block_lt_of_cell? w _ hw510_2)).trans hw510_2), ((HB.out.cell (World.block_lt_of_cell? w _ hw510_3)).trans hw510_3), ((HB.out.cell (World.block_lt_of_cell? w _ hw511_0)).trans hw511_0), ((HB.out.cell (World.block_lt_of_cell? w _ hw511_1)).trans hw511_1), ((HB.out.cell (World.block_lt_of_cell? w _ hw511_2)).trans hw511_2), ((HB.out.cell (World.block_lt_of_cell? w _ hw511_3)).trans hw511_3), ((HB.out.cell (World.block_lt_of_cell? w _ hw512_0)).trans hw512_0), ((HB.out.cell (World.block_lt_of_cell? w _ hw512_1)).trans hw512_1), ((HB.out.cell (World.block_lt_of_cell? w _ hw512_2)).trans hw512_2), ((HB.out.cell (World.block_lt_of_cell? w _ hw512_3)).trans hw512_3), ((HB.out.cell (World.block_lt_of_cell? w _ hw513_0)).trans hw513_0), ((HB.out.cell (World.block_lt_of_cell? w _ hw513_1)).trans hw513_1), ((HB.out.cell (World.block_lt_of_cell? w _ hw513_2)).trans hw513_2), ((HB.out.cell (World.block_lt_of_cell? w _ hw513_3)).trans hw513_3)⟩ (fun hHeld => ?_)
    clear hK K; refine norm_ (a' := ?_) ?_ ?_
    rotate_left
    ·show Act.put _ (some 8) _ = _
     simp only [Act.put, sA_, sB_, sC_, i64_w, i32_w]; rfl
    exact norm_ (by simp only [putAll, Act.put, sA_, sB_, sC_]) (hCont (gb514, gb515) _ ⟨hHeld, (aR HO_5), (aB BK509), (aB BK514), (aB BK515), GW514.out, GE514.out, NB509_514.out, NB514_509.out, NB515_514.out, NB514_515.out, GW515.out, GE515.out, NB509_515.out, NB515_509.out, (aL HB)⟩)
   skip
   refine box_step ?hg (N := 8) ?hd (cs := #[.int .i64 0, .int .i64 0, .int .i64 0, .int .u8 0]) (t := 66) ?hr ?_; (case hd => rfl); (case hg => rfl); (case hr => first | (go_simp; done) | (go_simp; rfl))
   intro gb515 hg w13 hbox hb
   replace HO_5 := zA.mk (Kd.zR (aR HO_5) hb); have BK515 := zA.mk (hbox); have GW515 := zA.mk ((by rw [hg]; exact (zH (aL HB)) : w.heap.size ≤ gb515))
   replace HB := zA.mk (zD (aL HB) hb); have GE515 := GW515; have NB509_515 := zA.mk ((by rw [hg]; exact Nat.ne_of_lt (blk_lt (aB BK509)) : gb509 ≠ gb515))
   have NB515_509 := zA.mk ((by rw [hg]; exact Nat.ne_of_gt (blk_lt (g := gb509) (o := .cells #[.slice (some ad511) l0_0.length c0_0, .slice A0_1 l0_1.length c0_1] 31 (0, 0)) (aB BK509)) : gb515 ≠ gb509))
   replace BK509 := zA.mk (zC (aB BK509) hb); clear hb hbox hg; refine hK.out _ _ ⟨(zB BK509.out 0).trans rfl, (zB BK509.out 1).trans rfl, ((HB.out.cell (World.block_lt_of_cell? w _ hw510_0)).trans hw510_0), ((HB.out.cell (World.block_lt_of_cell? w _ hw510_1)).trans hw510_1), ((HB.out.cell (World.block_lt_of_cell? w _ hw510_2)).trans hw510_2), ((HB.out.cell (World.block_lt_of_cell? w _ hw510_3)).trans hw510_3), ((HB.out.cell (World.block_lt_of_cell? w _ hw511_0)).trans hw511_0), ((HB.out.cell (World.block_lt_of_cell? w _ hw511_1)).trans hw511_1), ((HB.out.cell (World.block_lt_of_cell? w _ hw511_2)).trans hw511_2), ((HB.out.cell (World.block_lt_of_cell? w _ hw511_3)).trans hw511_3), ((HB.out.cell (World.block_lt_of_cell? w _ hw512_0)).trans hw512_0), ((HB.out.cell (World.block_lt_of_cell? w _ hw512_1)).trans hw512_1), ((HB.out.cell (World.block_lt_of_cell? w _ hw512_2)).trans hw512_2), ((HB.out.cell (World.block_lt_of_cell? w _ hw512_3)).trans hw512_3), ((HB.out.cell (World.block_lt_of_cell? w _ hw513_0)).trans hw513_0), ((HB.out.cell (World.block_lt_of_cell? w _ hw513_1)).trans hw513_1), ((HB.out.cell (World.block_lt_of_cell? w _ hw513_2)).trans hw513_2), ((HB.out.cell (World.block_lt_of_cell? w _ hw513_3)).trans hw513_3)⟩ (fun hHeld => ?_)
   clear hK K; refine norm_ (a' := ?_) ?_ ?_
   rotate_left
   ·show Act.put _ (some 8) _ = _
    simp only [Act.put, sA_, sB_, sC_, i64_w, i32_w]; rfl
   refine one_ (i := 19) (N := some 7) (tb_ 2097151 23) rfl rfl (one_of HT_.out (by kernel_rfl)) (by decide) (fun K hK => ?_)
   refine box_step ?hg (N := 7) ?hd (cs := #[.int .i64 0, .int .i64 0, .int .i64 0, .int .u8 0]) (t := 66) ?hr ?_; (case hd => rfl); (case hg => rfl); (case hr => first | (go_simp; done) | (go_simp; rfl))
   intro gb514 hg w14 hbox hb
   replace HO_5 := zA.mk (Kd.zR (aR HO_5) hb); have BK514 := zA.mk (hbox); have GW514 := zA.mk ((by rw [hg]; exact (zH (aL HB)) : w.heap.size ≤ gb514))
   replace HB := zA.mk (zD (aL HB) hb); have GE514 := GW514; have NB509_514 := zA.mk ((by rw [hg]; exact Nat.ne_of_lt (blk_lt (aB BK509)) : gb509 ≠ gb514))
   have NB514_509 := zA.mk ((by rw [hg]; exact Nat.ne_of_gt (blk_lt (g := gb509) (o := .cells #[.slice (some ad511) l0_0.length c0_0, .slice A0_1 l0_1.length c0_1] 31 (0, 0)) (aB BK509)) : gb514 ≠ gb509))
   replace BK509 := zA.mk (zC (aB BK509) hb); have NB515_514 := zA.mk ((by rw [hg]; exact Nat.ne_of_lt (blk_lt (aB BK515)) : gb515 ≠ gb514))
   have NB514_515 := zA.mk ((by rw [hg]; exact Nat.ne_of_gt (blk_lt (g := gb515) (o := .cells #[.int .i64 0, .int .i64 0, .int .i64 0, .int .u8 0] 66 (0, 0)) (aB BK515)) : gb514 ≠ gb515))
   replace BK515 := zA.mk (zC (aB BK515) hb); clear hb hbox hg; refine hK.out _ _ ⟨(zB BK509.out 0).trans rfl, (zB BK509.out 1).trans rfl, ((HB.out.cell (World.block_lt_of_cell? w _ hw510_0)).trans hw510_0), ((HB.out.cell (World.block_lt_of_cell? w _ hw510_1)).trans hw510_1), ((HB.out.cell (World.block_lt_of_cell? w _ hw510_2)).trans hw510_2), ((HB.out.cell (World.block_lt_of_cell? w _ hw510_3)).trans hw510_3), ((HB.out.cell (World.block_lt_of_cell? w _ hw511_0)).trans hw511_0), ((HB.out.cell (World.block_lt_of_cell? w _ hw511_1)).trans hw511_1), ((HB.out.cell (World.block_lt_of_cell? w _ hw511_2)).trans hw511_2), ((HB.out.cell (World.block_lt_of_cell? w _ hw511_3)).trans hw511_3), ((HB.out.cell (World.block_lt_of_cell? w _ hw512_0)).trans hw512_0), ((HB.out.cell (World.block_lt_of_cell? w _ hw512_1)).trans hw512_1), ((HB.out.cell (World.block_lt_of_cell? w _ hw512_2)).trans hw512_2), ((HB.out.cell (World.block_lt_of_cell? w _ hw512_3)).trans hw512_3), ((HB.out.cell (World.block_lt_of_cell? w _ hw513_0)).trans hw513_0), ((HB.out.cell (World.block_lt_of_cell? w _ hw513_1)).trans hw513_1), ((HB.out.cell (World.block_lt_of_cell? w _ hw513_2)).trans hw513_2), ((HB.out.cell (World.block_lt_of_cell? w _ hw513_3)).trans hw513_3)⟩ (fun hHeld => ?_)
   clear hK K; refine norm_ (a' := ?_) ?_ ?_
   rotate_left
   ·show Act.put _ (some 7) _ = _
    simp only [Act.put, sA_, sB_, sC_, i64_w, i32_w]; rfl
   exact norm_ (by simp only [putAll, Act.put, sA_, sB_, sC_]) (hCont (gb514, gb515) _ ⟨hHeld, (aR HO_5), (aB BK509), (aB BK514), (aB BK515), GW514.out, GE514.out, NB509_514.out, NB514_509.out, NB515_514.out, NB514_515.out, GW515.out, GE515.out, NB509_515.out, NB515_509.out, (aL HB)⟩)
  rintro ⟨gb514, gb515⟩ w15 ⟨hS_, h0_, h1_, h2_, h3_, h4_, h5_, h6_, h7_, h8_, h9_, h10_, h11_, h12_, h13_, h14_⟩
  have n0_ : zA (Kd.R k53 53 w15 w.heap.size (fun _ => True) u5 x5_1) := ⟨h0_⟩
  have n1_ : zA (w15.heap[gb509]? = some (.cells #[.slice (some ad511) l0_0.length c0_0, .slice A0_1 l0_1.length c0_1] 31 (0, 0))) := ⟨h1_⟩
  have n2_ : zA (w15.heap[gb514]? = some (.cells #[.int .i64 0, .int .i64 0, .int .i64 0, .int .u8 0] 66 (0, 0))) := ⟨h2_⟩
  have n3_ : zA (w15.heap[gb515]? = some (.cells #[.int .i64 0, .int .i64 0, .int .i64 0, .int .u8 0] 66 (0, 0))) := ⟨h3_⟩
  have n4_ : zA (w.heap.size ≤ gb514) := ⟨h4_⟩
  have n5_ : zA (w.heap.size ≤ gb514) := ⟨h5_⟩
  have n6_ : zA (gb509 ≠ gb514) := ⟨h6_⟩
  have n7_ : zA (gb514 ≠ gb509) := ⟨h7_⟩
  have n8_ : zA (gb515 ≠ gb514) := ⟨h8_⟩
  have n9_ : zA (gb514 ≠ gb515) := ⟨h9_⟩
  have n10_ : zA (w.heap.size ≤ gb515) := ⟨h10_⟩
  have n11_ : zA (w.heap.size ≤ gb515) := ⟨h11_⟩
  have n12_ : zA (gb509 ≠ gb515) := ⟨h12_⟩
  have n13_ : zA (gb515 ≠ gb509) := ⟨h13_⟩
  have n14_ : zA (Below w.heap.size w w15) := ⟨h14_⟩
  clear HO_5 BK509 HB h0_ h1_ h2_ h3_ h4_ h5_ h6_ h7_ h8_ h9_ h10_ h11_ h12_ h13_ h14_; have HO_5 := n0_; have BK509 := n1_; have BK514 := n2_; have BK515 := n3_; have GW514 := n4_; have GE514 := n5_; have NB509_514 := n6_; have NB514_509 := n7_; have NB515_514 := n8_; have NB514_515 := n9_; have GW515 := n10_; have GE515 := n11_; have NB509_515 := n12_; have NB515_509 := n13_; have HB := n14_; clear n0_ n1_ n2_ n3_ n4_ n5_ n6_ n7_ n8_ n9_ n10_ n11_ n12_ n13_ n14_; have hHeld : w15.cell? ⟨gb509, 0, none⟩ = some (.slice (some ad511) l0_0.length c0_0) ∧ w15.cell? ⟨gb509, 1, none⟩ = some (.slice A0_1 l0_1.length c0_1) ∧ w15.cell? (ad510.add ((x6_1).toNat * 4)) = some (.int .i64 ((rd_T54 l1 x6_1).f0)) ∧ w15.cell? ⟨(ad510.add ((x6_1).toNat * 4)).block, (ad510.add ((x6_1).toNat * 4)).off + 1, none⟩ = some (.int .i64 ((rd_T54 l1 x6_1).f1)) ∧ w15.cell? ⟨(ad510.add ((x6_1).toNat * 4)).block, (ad510.add ((x6_1).toNat * 4)).off + 2, none⟩ = some (.int .i64 ((rd_T54 l1 x6_1).f2)) ∧ w15.cell? ⟨(ad510.add ((x6_1).toNat * 4)).block, (ad510.add ((x6_1).toNat * 4)).off + 3, none⟩ = some (.int .u8 ((rd_T54 l1 x6_1).f3)) ∧ w15.cell? (ad511.add ((((rd_T54 l1 x6_1).f0)).toNat * 4)) = some (.int .i64 ((rd_T66 l0_0 ((rd_T54 l1 x6_1).f0)).f0)) ∧ w15.cell? ⟨(ad511.add ((((rd_T54 l1 x6_1).f0)).toNat * 4)).block, (ad511.add ((((rd_T54 l1 x6_1).f0)).toNat * 4)).off + 1, none⟩ = some (.int .i64 ((rd_T66 l0_0 ((rd_T54 l1 x6_1).f0)).f1)) ∧ w15.cell? ⟨(ad511.add ((((rd_T54 l1 x6_1).f0)).toNat * 4)).block, (ad511.add ((((rd_T54 l1 x6_1).f0)).toNat * 4)).off + 2, none⟩ = some (.int .i64 ((rd_T66 l0_0 ((rd_T54 l1 x6_1).f0)).f2)) ∧ w15.cell? ⟨(ad511.add ((((rd_T54 l1 x6_1).f0)).toNat * 4)).block, (ad511.add ((((rd_T54 l1 x6_1).f0)).toNat * 4)).off + 3, none⟩ = some (.int .u8 ((rd_T66 l0_0 ((rd_T54 l1 x6_1).f0)).f3)) ∧ w15.cell? (ad510.add ((x6_1).toNat * 4)) = some (.int .i64 ((rd_T54 l1 x6_1).f0)) ∧ w15.cell? ⟨(ad510.add ((x6_1).toNat * 4)).block, (ad510.add ((x6_1).toNat * 4)).off + 1, none⟩ = some (.int .i64 ((rd_T54 l1 x6_1).f1)) ∧ w15.cell? ⟨(ad510.add ((x6_1).toNat * 4)).block, (ad510.add ((x6_1).toNat * 4)).off + 2, none⟩ = some (.int .i64 ((rd_T54 l1 x6_1).f2)) ∧ w15.cell? ⟨(ad510.add ((x6_1).toNat * 4)).block, (ad510.add ((x6_1).toNat * 4)).off + 3, none⟩ = some (.int .u8 ((rd_T54 l1 x6_1).f3)) ∧ w15.cell? (ad511.add (((ji8)).toNat * 4)) = some (.int .i64 ((rd_T66 l0_0 (ji8)).f0)) ∧ w15.cell? ⟨(ad511.add (((ji8)).toNat * 4)).block, (ad511.add (((ji8)).toNat * 4)).off + 1, none⟩ = some (.int .i64 ((rd_T66 l0_0 (ji8)).f1)) ∧ w15.cell? ⟨(ad511.add (((ji8)).toNat * 4)).block, (ad511.add (((ji8)).toNat * 4)).off + 2, none⟩ = some (.int .i64 ((rd_T66 l0_0 (ji8)).f2)) ∧ w15.cell? ⟨(ad511.add (((ji8)).toNat * 4)).block, (ad511.add (((ji8)).toNat * 4)).off + 3, none⟩ = some (.int .u8 ((rd_T66 l0_0 (ji8)).f3)) := hS_
  refine norm_ (a' := ?_) ?_ ?_
  rotate_left
  ·simp only [putAll, Act.put, sA_, sB_, sC_]
   rfl
  refine one_ (i := 21) (N := none) (tb_ 4194303 23) rfl rfl (one_of HT_.out (by kernel_rfl)) (by decide) (fun K hK => ?_)
  have hs16 : w15.cell? ⟨gb514, 0, none⟩ = some (.int .i64 0) := (zB BK514.out 0).trans rfl
  have hfs16 := blk_frozen BK514.out 0; have hns16_0 := NB509_514.out; have hns16_2 := NB515_514.out; have hms16_0 := NB514_509.out; have hms16_2 := NB514_515.out; have hs17 : w15.cell? ⟨gb514, 1, none⟩ = some (.int .i64 0) := (zB BK514.out 1).trans rfl
  have hfs17 := blk_frozen BK514.out 1; have hns17_0 := NB509_514.out; have hns17_2 := NB515_514.out; have hms17_0 := NB514_509.out; have hms17_2 := NB514_515.out; have hs18 : w15.cell? ⟨gb514, 2, none⟩ = some (.int .i64 0) := (zB BK514.out 2).trans rfl
  have hfs18 := blk_frozen BK514.out 2; have hns18_0 := NB509_514.out; have hns18_2 := NB515_514.out; have hms18_0 := NB514_509.out; have hms18_2 := NB514_515.out; have hs19 : w15.cell? ⟨gb514, 3, none⟩ = some (.int .u8 0) := (zB BK514.out 3).trans rfl
  have hfs19 := blk_frozen BK514.out 3; have hns19_0 := NB509_514.out; have hns19_2 := NB515_514.out; have hms19_0 := NB514_509.out; have hms19_2 := NB514_515.out; refine skip_ (w1 := ?_) (by rfl) rfl ?_ ?_
  rotate_left
  ·go_simp
   rfl
  refine hK.out _ _ ⟨((zG (p := ⟨gb514, _, none⟩) NB509_514.out _).trans (((zG (p := ⟨gb514, _, none⟩) NB509_514.out _).trans (((zG (p := ⟨gb514, _, none⟩) NB509_514.out _).trans (((zG (p := ⟨gb514, _, none⟩) NB509_514.out _).trans (hHeld.1)))))))), ((zG (p := ⟨gb514, _, none⟩) NB509_514.out _).trans (((zG (p := ⟨gb514, _, none⟩) NB509_514.out _).trans (((zG (p := ⟨gb514, _, none⟩) NB509_514.out _).trans (((zG (p := ⟨gb514, _, none⟩) NB509_514.out _).trans (hHeld.2.1)))))))), ((zG (p := ⟨gb514, _, none⟩) (aE hw510_0 GW514) _).trans (((zG (p := ⟨gb514, _, none⟩) (aE hw510_0 GW514) _).trans (((zG (p := ⟨gb514, _, none⟩) (aE hw510_0 GW514) _).trans (((zG (p := ⟨gb514, _, none⟩) (aE hw510_0 GW514) _).trans (hHeld.2.2.1)))))))), ((zG (p := ⟨gb514, _, none⟩) (aE hw510_1 GW514) _).trans (((zG (p := ⟨gb514, _, none⟩) (aE hw510_1 GW514) _).trans (((zG (p := ⟨gb514, _, none⟩) (aE hw510_1 GW514) _).trans (((zG (p := ⟨gb514, _, none⟩) (aE hw510_1 GW514) _).trans (hHeld.2.2.2.1)))))))), ((zG (p := ⟨gb514, _, none⟩) (aE hw510_2 GW514) _).trans (((zG (p := ⟨gb514, _, none⟩) (aE hw510_2 GW514) _).trans (((zG (p := ⟨gb514, _, none⟩) (aE hw510_2 GW514) _).trans (((zG (p := ⟨gb514, _, none⟩) (aE hw510_2 GW514) _).trans (hHeld.2.2.2.2.1)))))))), ((zG (p := ⟨gb514, _, none⟩) (aE hw510_3 GW514) _).trans (((zG (p := ⟨gb514, _, none⟩) (aE hw510_3 GW514) _).trans (((zG (p := ⟨gb514, _, none⟩) (aE hw510_3 GW514) _).trans (((zG (p := ⟨gb514, _, none⟩) (aE hw510_3 GW514) _).trans (hHeld.2.2.2.2.2.1)))))))), ((zG (p := ⟨gb514, _, none⟩) (aE hw511_0 GW514) _).trans (((zG (p := ⟨gb514, _, none⟩) (aE hw511_0 GW514) _).trans (((zG (p := ⟨gb514, _, none⟩) (aE hw511_0 GW514) _).trans (((zG (p := ⟨gb514, _, none⟩) (aE hw511_0 GW514) _).trans (hHeld.2.2.2.2.2.2.1)))))))), ((zG (p := ⟨gb514, _, none⟩) (aE hw511_1 GW514) _).trans (((zG (p := ⟨gb514, _, none⟩) (aE hw511_1 GW514) _).trans (((zG (p := ⟨gb514, _, none⟩) (aE hw511_1 GW514) _).trans (((zG (p := ⟨gb514, _, none⟩) (aE hw511_1 GW514) _).trans (hHeld.2.2.2.2.2.2.2.1)))))))), ((zG (p := ⟨gb514, _, none⟩) (aE hw511_2 GW514) _).trans (((zG (p := ⟨gb514, _, none⟩) (aE hw511_2 GW514) _).trans (((zG (p := ⟨gb514, _, none⟩) (aE hw511_2 GW514) _).trans (((zG (p := ⟨gb514, _, none⟩) (aE hw511_2 GW514) _).trans (hHeld.2.2.2.2.2.2.2.2.1)))))))), ((zG (p := ⟨gb514, _, none⟩) (aE hw511_3 GW514) _).trans (((zG (p := ⟨gb514, _, none⟩) (aE hw511_3 GW514) _).trans (((zG (p := ⟨gb514, _, none⟩) (aE hw511_3 GW514) _).trans (((zG (p := ⟨gb514, _, none⟩) (aE hw511_3 GW514) _).trans (hHeld.2.2.2.2.2.2.2.2.2.1)))))))), ((zG (p := ⟨gb514, _, none⟩) (aE hw512_0 GW514) _).trans (((zG (p := ⟨gb514, _, none⟩) (aE hw512_0 GW514) _).trans (((zG (p := ⟨gb514, _, none⟩) (aE hw512_0 GW514) _).trans (((zG (p := ⟨gb514, _, none⟩) (aE hw512_0 GW514) _).trans (hHeld.2.2.2.2.2.2.2.2.2.2.1)))))))), ((zG (p := ⟨gb514, _, none⟩) (aE hw512_1 GW514) _).trans (((zG (p := ⟨gb514, _, none⟩) (aE hw512_1 GW514) _).trans (((zG (p := ⟨gb514, _, none⟩) (aE hw512_1 GW514) _).trans (((zG (p := ⟨gb514, _, none⟩) (aE hw512_1 GW514) _).trans (hHeld.2.2.2.2.2.2.2.2.2.2.2.1)))))))), ((zG (p := ⟨gb514, _, none⟩) (aE hw512_2 GW514) _).trans (((zG (p := ⟨gb514, _, none⟩) (aE hw512_2 GW514) _).trans (((zG (p := ⟨gb514, _, none⟩) (aE hw512_2 GW514) _).trans (((zG (p := ⟨gb514, _, none⟩) (aE hw512_2 GW514) _).trans (hHeld.2.2.2.2.2.2.2.2.2.2.2.2.1)))))))), ((zG (p := ⟨gb514, _, none⟩) (aE hw512_3 GW514) _).trans (((zG (p := ⟨gb514, _, none⟩) (aE hw512_3 GW514) _).trans (((zG (p := ⟨gb514, _, none⟩) (aE hw512_3 GW514) _).trans (((zG (p := ⟨gb514, _, none⟩) (aE hw512_3 GW514) _).trans (hHeld.2.2.2.2.2.2.2.2.2.2.2.2.2.1)))))))), ((zG (p := ⟨gb514, _, none⟩) (aE hw513_0 GW514) _).trans (((zG (p := ⟨gb514, _, none⟩) (aE hw513_0 GW514) _).trans (((zG (p := ⟨gb514, _, none⟩) (aE hw513_0 GW514) _).trans (((zG (p := ⟨gb514, _, none⟩) (aE hw513_0 GW514) _).trans (hHeld.2.2.2.2.2.2.2.2.2.2.2.2.2.2.1)))))))), ((zG (p := ⟨gb514, _, none⟩) (aE hw513_1 GW514) _).trans (((zG (p := ⟨gb514, _, none⟩) (aE hw513_1 GW514) _).trans (((zG (p := ⟨gb514, _, none⟩) (aE hw513_1 GW514) _).trans (((zG (p := ⟨gb514, _, none⟩) (aE hw513_1 GW514) _).trans (hHeld.2.2.2.2.2.2.2.2.2.2.2.2.2.2.2.1)))))))), ((zG (p := ⟨gb514, _, none⟩) (aE hw513_2 GW514) _).trans (((zG (p := ⟨gb514, _, none⟩) (aE hw513_2 GW514) _).trans (((zG (p := ⟨gb514, _, none⟩) (aE hw513_2 GW514) _).trans (((zG (p := ⟨gb514, _, none⟩) (aE hw513_2 GW514) _).trans (hHeld.2.2.2.2.2.2.2.2.2.2.2.2.2.2.2.2.1)))))))), ((zG (p := ⟨gb514, _, none⟩) (aE hw513_3 GW514) _).trans (((zG (p := ⟨gb514, _, none⟩) (aE hw513_3 GW514) _).trans (((zG (p := ⟨gb514, _, none⟩) (aE hw513_3 GW514) _).trans (((zG (p := ⟨gb514, _, none⟩) (aE hw513_3 GW514) _).trans (hHeld.2.2.2.2.2.2.2.2.2.2.2.2.2.2.2.2.2))))))))⟩ (fun hHeld => ?_)
  clear hK K; refine one_ (i := 22) (N := none) (tb_ 8388607 23) rfl rfl (one_of HT_.out (by kernel_rfl)) (by decide) (fun K hK => ?_)
  have hs20 : w15.cell? ⟨gb515, 0, none⟩ = some (.int .i64 0) := (zB BK515.out 0).trans rfl
  have hfs20 := blk_frozen BK515.out 0; have hns20_0 := NB509_515.out; have hns20_1 := NB514_515.out; have hms20_0 := NB515_509.out; have hms20_1 := NB515_514.out; have hs21 : w15.cell? ⟨gb515, 1, none⟩ = some (.int .i64 0) := (zB BK515.out 1).trans rfl
  have hfs21 := blk_frozen BK515.out 1; have hns21_0 := NB509_515.out; have hns21_1 := NB514_515.out; have hms21_0 := NB515_509.out; have hms21_1 := NB515_514.out; have hs22 : w15.cell? ⟨gb515, 2, none⟩ = some (.int .i64 0) := (zB BK515.out 2).trans rfl
  have hfs22 := blk_frozen BK515.out 2; have hns22_0 := NB509_515.out; have hns22_1 := NB514_515.out; have hms22_0 := NB515_509.out; have hms22_1 := NB515_514.out; have hs23 : w15.cell? ⟨gb515, 3, none⟩ = some (.int .u8 0) := (zB BK515.out 3).trans rfl
  have hfs23 := blk_frozen BK515.out 3; have hns23_0 := NB509_515.out; have hns23_1 := NB514_515.out; have hms23_0 := NB515_509.out; have hms23_1 := NB515_514.out; refine skip_ (w1 := ?_) (by rfl) rfl ?_ ?_
  rotate_left
  ·go_simp
   rfl
  refine hK.out _ _ ⟨((zG (p := ⟨gb515, _, none⟩) NB509_515.out _).trans (((zG (p := ⟨gb515, _, none⟩) NB509_515.out _).trans (((zG (p := ⟨gb515, _, none⟩) NB509_515.out _).trans (((zG (p := ⟨gb515, _, none⟩) NB509_515.out _).trans (hHeld.1)))))))), ((zG (p := ⟨gb515, _, none⟩) NB509_515.out _).trans (((zG (p := ⟨gb515, _, none⟩) NB509_515.out _).trans (((zG (p := ⟨gb515, _, none⟩) NB509_515.out _).trans (((zG (p := ⟨gb515, _, none⟩) NB509_515.out _).trans (hHeld.2.1)))))))), ((zG (p := ⟨gb515, _, none⟩) (aE hw510_0 GW515) _).trans (((zG (p := ⟨gb515, _, none⟩) (aE hw510_0 GW515) _).trans (((zG (p := ⟨gb515, _, none⟩) (aE hw510_0 GW515) _).trans (((zG (p := ⟨gb515, _, none⟩) (aE hw510_0 GW515) _).trans (hHeld.2.2.1)))))))), ((zG (p := ⟨gb515, _, none⟩) (aE hw510_1 GW515) _).trans (((zG (p := ⟨gb515, _, none⟩) (aE hw510_1 GW515) _).trans (((zG (p := ⟨gb515, _, none⟩) (aE hw510_1 GW515) _).trans (((zG (p := ⟨gb515, _, none⟩) (aE hw510_1 GW515) _).trans (hHeld.2.2.2.1)))))))), ((zG (p := ⟨gb515, _, none⟩) (aE hw510_2 GW515) _).trans (((zG (p := ⟨gb515, _, none⟩) (aE hw510_2 GW515) _).trans (((zG (p := ⟨gb515, _, none⟩) (aE hw510_2 GW515) _).trans (((zG (p := ⟨gb515, _, none⟩) (aE hw510_2 GW515) _).trans (hHeld.2.2.2.2.1)))))))), ((zG (p := ⟨gb515, _, none⟩) (aE hw510_3 GW515) _).trans (((zG (p := ⟨gb515, _, none⟩) (aE hw510_3 GW515) _).trans (((zG (p := ⟨gb515, _, none⟩) (aE hw510_3 GW515) _).trans (((zG (p := ⟨gb515, _, none⟩) (aE hw510_3 GW515) _).trans (hHeld.2.2.2.2.2.1)))))))), ((zG (p := ⟨gb515, _, none⟩) (aE hw511_0 GW515) _).trans (((zG (p := ⟨gb515, _, none⟩) (aE hw511_0 GW515) _).trans (((zG (p := ⟨gb515, _, none⟩) (aE hw511_0 GW515) _).trans (((zG (p := ⟨gb515, _, none⟩) (aE hw511_0 GW515) _).trans (hHeld.2.2.2.2.2.2.1)))))))), ((zG (p := ⟨gb515, _, none⟩) (aE hw511_1 GW515) _).trans (((zG (p := ⟨gb515, _, none⟩) (aE hw511_1 GW515) _).trans (((zG (p := ⟨gb515, _, none⟩) (aE hw511_1 GW515) _).trans (((zG (p := ⟨gb515, _, none⟩) (aE hw511_1 GW515) _).trans (hHeld.2.2.2.2.2.2.2.1)))))))), ((zG (p := ⟨gb515, _, none⟩) (aE hw511_2 GW515) _).trans (((zG (p := ⟨gb515, _, none⟩) (aE hw511_2 GW515) _).trans (((zG (p := ⟨gb515, _, none⟩) (aE hw511_2 GW515) _).trans (((zG (p := ⟨gb515, _, none⟩) (aE hw511_2 GW515) _).trans (hHeld.2.2.2.2.2.2.2.2.1)))))))), ((zG (p := ⟨gb515, _, none⟩) (aE hw511_3 GW515) _).trans (((zG (p := ⟨gb515, _, none⟩) (aE hw511_3 GW515) _).trans (((zG (p := ⟨gb515, _, none⟩) (aE hw511_3 GW515) _).trans (((zG (p := ⟨gb515, _, none⟩) (aE hw511_3 GW515) _).trans (hHeld.2.2.2.2.2.2.2.2.2.1)))))))), ((zG (p := ⟨gb515, _, none⟩) (aE hw512_0 GW515) _).trans (((zG (p := ⟨gb515, _, none⟩) (aE hw512_0 GW515) _).trans (((zG (p := ⟨gb515, _, none⟩) (aE hw512_0 GW515) _).trans (((zG (p := ⟨gb515, _, none⟩) (aE hw512_0 GW515) _).trans (hHeld.2.2.2.2.2.2.2.2.2.2.1)))))))), ((zG (p := ⟨gb515, _, none⟩) (aE hw512_1 GW515) _).trans (((zG (p := ⟨gb515, _, none⟩) (aE hw512_1 GW515) _).trans (((zG (p := ⟨gb515, _, none⟩) (aE hw512_1 GW515) _).trans (((zG (p := ⟨gb515, _, none⟩) (aE hw512_1 GW515) _).trans (hHeld.2.2.2.2.2.2.2.2.2.2.2.1)))))))), ((zG (p := ⟨gb515, _, none⟩) (aE hw512_2 GW515) _).trans (((zG (p := ⟨gb515, _, none⟩) (aE hw512_2 GW515) _).trans (((zG (p := ⟨gb515, _, none⟩) (aE hw512_2 GW515) _).trans (((zG (p := ⟨gb515, _, none⟩) (aE hw512_2 GW515) _).trans (hHeld.2.2.2.2.2.2.2.2.2.2.2.2.1)))))))), ((zG (p := ⟨gb515, _, none⟩) (aE hw512_3 GW515) _).trans (((zG (p := ⟨gb515, _, none⟩) (aE hw512_3 GW515) _).trans (((zG (p := ⟨gb515, _, none⟩) (aE hw512_3 GW515) _).trans (((zG (p := ⟨gb515, _, none⟩) (aE hw512_3 GW515) _).trans (hHeld.2.2.2.2.2.2.2.2.2.2.2.2.2.1)))))))), ((zG (p := ⟨gb515, _, none⟩) (aE hw513_0 GW515) _).trans (((zG (p := ⟨gb515, _, none⟩) (aE hw513_0 GW515) _).trans (((zG (p := ⟨gb515, _, none⟩) (aE hw513_0 GW515) _).trans (((zG (p := ⟨gb515, _, none⟩) (aE hw513_0 GW515) _).trans (hHeld.2.2.2.2.2.2.2.2.2.2.2.2.2.2.1)))))))), ((zG (p := ⟨gb515, _, none⟩) (aE hw513_1 GW515) _).trans (((zG (p := ⟨gb515, _, none⟩) (aE hw513_1 GW515) _).trans (((zG (p := ⟨gb515, _, none⟩) (aE hw513_1 GW515) _).trans (((zG (p := ⟨gb515, _, none⟩) (aE hw513_1 GW515) _).trans (hHeld.2.2.2.2.2.2.2.2.2.2.2.2.2.2.2.1)))))))), ((zG (p := ⟨gb515, _, none⟩) (aE hw513_2 GW515) _).trans (((zG (p := ⟨gb515, _, none⟩) (aE hw513_2 GW515) _).trans (((zG (p := ⟨gb515, _, none⟩) (aE hw513_2 GW515) _).trans (((zG (p := ⟨gb515, _, none⟩) (aE hw513_2 GW515) _).trans (hHeld.2.2.2.2.2.2.2.2.2.2.2.2.2.2.2.2.1)))))))), ((zG (p := ⟨gb515, _, none⟩) (aE hw513_3 GW515) _).trans (((zG (p := ⟨gb515, _, none⟩) (aE hw513_3 GW515) _).trans (((zG (p := ⟨gb515, _, none⟩) (aE hw513_3 GW515) _).trans (((zG (p := ⟨gb515, _, none⟩) (aE hw513_3 GW515) _).trans (hHeld.2.2.2.2.2.2.2.2.2.2.2.2.2.2.2.2.2))))))))⟩ (fun hHeld => ?_)
  clear hK K; refine done_ (done_of HT_.out (by kernel_rfl)) ?_
  try go_wp2
  have n0_ : zA (Kd.R k53 53 ((((((((w15.setCell ⟨gb514, 0, none⟩ (.int .i64 ((rd_T66 l0_0 ((rd_T54 l1 x6_1).f0)).f0))).setCell ⟨gb514, 1, none⟩ (.int .i64 ((rd_T66 l0_0 ((rd_T54 l1 x6_1).f0)).f1))).setCell ⟨gb514, 2, none⟩ (.int .i64 ((rd_T66 l0_0 ((rd_T54 l1 x6_1).f0)).f2))).setCell ⟨gb514, 3, none⟩ (.int .u8 ((rd_T66 l0_0 ((rd_T54 l1 x6_1).f0)).f3))).setCell ⟨gb515, 0, none⟩ (.int .i64 ((rd_T66 l0_0 (ji8)).f0))).setCell ⟨gb515, 1, none⟩ (.int .i64 ((rd_T66 l0_0 (ji8)).f1))).setCell ⟨gb515, 2, none⟩ (.int .i64 ((rd_T66 l0_0 (ji8)).f2))).setCell ⟨gb515, 3, none⟩ (.int .u8 ((rd_T66 l0_0 (ji8)).f3))) w.heap.size (fun _ => True) u5 x5_1) := ⟨by (with_reducible repeat (first | apply Kd.zJ | apply Kd.zK | apply Kd.zL)); exact Kd.zV (Kd.zS (p := ⟨gb515, 3, none⟩) (Kd.zS (p := ⟨gb515, 2, none⟩) (Kd.zS (p := ⟨gb515, 1, none⟩) (Kd.zS (p := ⟨gb515, 0, none⟩) (Kd.zS (p := ⟨gb514, 3, none⟩) (Kd.zS (p := ⟨gb514, 2, none⟩) (Kd.zS (p := ⟨gb514, 1, none⟩) (Kd.zS (p := ⟨gb514, 0, none⟩) (Kd.zW (Kd.zW HO_5.out BK514.out (by decide)) BK515.out (by decide)) (fun _ hk => hk.1.2) (.int .i64 ((rd_T66 l0_0 ((rd_T54 l1 x6_1).f0)).f0))) (fun _ hk => hk.1.2) (.int .i64 ((rd_T66 l0_0 ((rd_T54 l1 x6_1).f0)).f1))) (fun _ hk => hk.1.2) (.int .i64 ((rd_T66 l0_0 ((rd_T54 l1 x6_1).f0)).f2))) (fun _ hk => hk.1.2) (.int .u8 ((rd_T66 l0_0 ((rd_T54 l1 x6_1).f0)).f3))) (fun _ hk => hk.2) (.int .i64 ((rd_T66 l0_0 (ji8)).f0))) (fun _ hk => hk.2) (.int .i64 ((rd_T66 l0_0 (ji8)).f1))) (fun _ hk => hk.2) (.int .i64 ((rd_T66 l0_0 (ji8)).f2))) (fun _ hk => hk.2) (.int .u8 ((rd_T66 l0_0 (ji8)).f3))) (fun _ hk => trivial)⟩
  have n1_ : zA (((((((((w15.setCell ⟨gb514, 0, none⟩ (.int .i64 ((rd_T66 l0_0 ((rd_T54 l1 x6_1).f0)).f0))).setCell ⟨gb514, 1, none⟩ (.int .i64 ((rd_T66 l0_0 ((rd_T54 l1 x6_1).f0)).f1))).setCell ⟨gb514, 2, none⟩ (.int .i64 ((rd_T66 l0_0 ((rd_T54 l1 x6_1).f0)).f2))).setCell ⟨gb514, 3, none⟩ (.int .u8 ((rd_T66 l0_0 ((rd_T54 l1 x6_1).f0)).f3))).setCell ⟨gb515, 0, none⟩ (.int .i64 ((rd_T66 l0_0 (ji8)).f0))).setCell ⟨gb515, 1, none⟩ (.int .i64 ((rd_T66 l0_0 (ji8)).f1))).setCell ⟨gb515, 2, none⟩ (.int .i64 ((rd_T66 l0_0 (ji8)).f2))).setCell ⟨gb515, 3, none⟩ (.int .u8 ((rd_T66 l0_0 (ji8)).f3))).heap[gb509]? = some (.cells #[.slice (some ad511) l0_0.length c0_0, .slice A0_1 l0_1.length c0_1] 31 (0, 0))) := ⟨by (with_reducible repeat (first | refine zI ?_ _ | refine zF ?_ | refine zE ?_ _)); refine blk_far ?_ NB509_515.out _; (with_reducible repeat (first | refine zI ?_ _ | refine zF ?_ | refine zE ?_ _)); refine blk_far ?_ NB509_515.out _; (with_reducible repeat (first | refine zI ?_ _ | refine zF ?_ | refine zE ?_ _)); refine blk_far ?_ NB509_515.out _; (with_reducible repeat (first | refine zI ?_ _ | refine zF ?_ | refine zE ?_ _)); refine blk_far ?_ NB509_515.out _; (with_reducible repeat (first | refine zI ?_ _ | refine zF ?_ | refine zE ?_ _)); refine blk_far ?_ NB509_514.out _; (with_reducible repeat (first | refine zI ?_ _ | refine zF ?_ | refine zE ?_ _)); refine blk_far ?_ NB509_514.out _; (with_reducible repeat (first | refine zI ?_ _ | refine zF ?_ | refine zE ?_ _)); refine blk_far ?_ NB509_514.out _; (with_reducible repeat (first | refine zI ?_ _ | refine zF ?_ | refine zE ?_ _)); refine blk_far ?_ NB509_514.out _; (with_reducible repeat (first | refine zI ?_ _ | refine zF ?_ | refine zE ?_ _)); exact BK509.out⟩
  have n2_ : zA (((((((((w15.setCell ⟨gb514, 0, none⟩ (.int .i64 ((rd_T66 l0_0 ((rd_T54 l1 x6_1).f0)).f0))).setCell ⟨gb514, 1, none⟩ (.int .i64 ((rd_T66 l0_0 ((rd_T54 l1 x6_1).f0)).f1))).setCell ⟨gb514, 2, none⟩ (.int .i64 ((rd_T66 l0_0 ((rd_T54 l1 x6_1).f0)).f2))).setCell ⟨gb514, 3, none⟩ (.int .u8 ((rd_T66 l0_0 ((rd_T54 l1 x6_1).f0)).f3))).setCell ⟨gb515, 0, none⟩ (.int .i64 ((rd_T66 l0_0 (ji8)).f0))).setCell ⟨gb515, 1, none⟩ (.int .i64 ((rd_T66 l0_0 (ji8)).f1))).setCell ⟨gb515, 2, none⟩ (.int .i64 ((rd_T66 l0_0 (ji8)).f2))).setCell ⟨gb515, 3, none⟩ (.int .u8 ((rd_T66 l0_0 (ji8)).f3))).heap[gb514]? = some (.cells #[.int .i64 ((rd_T66 l0_0 ((rd_T54 l1 x6_1).f0)).f0), .int .i64 ((rd_T66 l0_0 ((rd_T54 l1 x6_1).f0)).f1), .int .i64 ((rd_T66 l0_0 ((rd_T54 l1 x6_1).f0)).f2), .int .u8 ((rd_T66 l0_0 ((rd_T54 l1 x6_1).f0)).f3)] 66 (0, 0))) := ⟨by (with_reducible repeat (first | refine zI ?_ _ | refine zF ?_ | refine zE ?_ _)); refine blk_far ?_ NB514_515.out _; (with_reducible repeat (first | refine zI ?_ _ | refine zF ?_ | refine zE ?_ _)); refine blk_far ?_ NB514_515.out _; (with_reducible repeat (first | refine zI ?_ _ | refine zF ?_ | refine zE ?_ _)); refine blk_far ?_ NB514_515.out _; (with_reducible repeat (first | refine zI ?_ _ | refine zF ?_ | refine zE ?_ _)); refine blk_far ?_ NB514_515.out _; (with_reducible repeat (first | refine zI ?_ _ | refine zF ?_ | refine zE ?_ _)); refine blk_put (cs := #[.int .i64 ((rd_T66 l0_0 ((rd_T54 l1 x6_1).f0)).f0), .int .i64 ((rd_T66 l0_0 ((rd_T54 l1 x6_1).f0)).f1), .int .i64 ((rd_T66 l0_0 ((rd_T54 l1 x6_1).f0)).f2), .int .u8 0]) ?_ 3 _ rfl; (with_reducible repeat (first | refine zI ?_ _ | refine zF ?_ | refine zE ?_ _)); refine blk_put (cs := #[.int .i64 ((rd_T66 l0_0 ((rd_T54 l1 x6_1).f0)).f0), .int .i64 ((rd_T66 l0_0 ((rd_T54 l1 x6_1).f0)).f1), .int .i64 0, .int .u8 0]) ?_ 2 _ rfl; (with_reducible repeat (first | refine zI ?_ _ | refine zF ?_ | refine zE ?_ _)); refine blk_put (cs := #[.int .i64 ((rd_T66 l0_0 ((rd_T54 l1 x6_1).f0)).f0), .int .i64 0, .int .i64 0, .int .u8 0]) ?_ 1 _ rfl; (with_reducible repeat (first | refine zI ?_ _ | refine zF ?_ | refine zE ?_ _)); refine blk_put (cs := #[.int .i64 0, .int .i64 0, .int .i64 0, .int .u8 0]) ?_ 0 _ rfl; (with_reducible repeat (first | refine zI ?_ _ | refine zF ?_ | refine zE ?_ _)); exact BK514.out⟩
  have n3_ : zA (((((((((w15.setCell ⟨gb514, 0, none⟩ (.int .i64 ((rd_T66 l0_0 ((rd_T54 l1 x6_1).f0)).f0))).setCell ⟨gb514, 1, none⟩ (.int .i64 ((rd_T66 l0_0 ((rd_T54 l1 x6_1).f0)).f1))).setCell ⟨gb514, 2, none⟩ (.int .i64 ((rd_T66 l0_0 ((rd_T54 l1 x6_1).f0)).f2))).setCell ⟨gb514, 3, none⟩ (.int .u8 ((rd_T66 l0_0 ((rd_T54 l1 x6_1).f0)).f3))).setCell ⟨gb515, 0, none⟩ (.int .i64 ((rd_T66 l0_0 (ji8)).f0))).setCell ⟨gb515, 1, none⟩ (.int .i64 ((rd_T66 l0_0 (ji8)).f1))).setCell ⟨gb515, 2, none⟩ (.int .i64 ((rd_T66 l0_0 (ji8)).f2))).setCell ⟨gb515, 3, none⟩ (.int .u8 ((rd_T66 l0_0 (ji8)).f3))).heap[gb515]? = some (.cells #[.int .i64 ((rd_T66 l0_0 (ji8)).f0), .int .i64 ((rd_T66 l0_0 (ji8)).f1), .int .i64 ((rd_T66 l0_0 (ji8)).f2), .int .u8 ((rd_T66 l0_0 (ji8)).f3)] 66 (0, 0))) := ⟨by (with_reducible repeat (first | refine zI ?_ _ | refine zF ?_ | refine zE ?_ _)); refine blk_put (cs := #[.int .i64 ((rd_T66 l0_0 (ji8)).f0), .int .i64 ((rd_T66 l0_0 (ji8)).f1), .int .i64 ((rd_T66 l0_0 (ji8)).f2), .int .u8 0]) ?_ 3 _ rfl; (with_reducible repeat (first | refine zI ?_ _ | refine zF ?_ | refine zE ?_ _)); refine blk_put (cs := #[.int .i64 ((rd_T66 l0_0 (ji8)).f0), .int .i64 ((rd_T66 l0_0 (ji8)).f1), .int .i64 0, .int .u8 0]) ?_ 2 _ rfl; (with_reducible repeat (first | refine zI ?_ _ | refine zF ?_ | refine zE ?_ _)); refine blk_put (cs := #[.int .i64 ((rd_T66 l0_0 (ji8)).f0), .int .i64 0, .int .i64 0, .int .u8 0]) ?_ 1 _ rfl; (with_reducible repeat (first | refine zI ?_ _ | refine zF ?_ | refine zE ?_ _)); refine blk_put (cs := #[.int .i64 0, .int .i64 0, .int .i64 0, .int .u8 0]) ?_ 0 _ rfl; (with_reducible repeat (first | refine zI ?_ _ | refine zF ?_ | refine zE ?_ _)); refine blk_far ?_ NB515_514.out _; (with_reducible repeat (first | refine zI ?_ _ | refine zF ?_ | refine zE ?_ _)); refine blk_far ?_ NB515_514.out _; (with_reducible repeat (first | refine zI ?_ _ | refine zF ?_ | refine zE ?_ _)); refine blk_far ?_ NB515_514.out _; (with_reducible repeat (first | refine zI ?_ _ | refine zF ?_ | refine zE ?_ _)); refine blk_far ?_ NB515_514.out _; (with_reducible repeat (first | refine zI ?_ _ | refine zF ?_ | refine zE ?_ _)); exact BK515.out⟩
  have n4_ : zA (Below w.heap.size w ((((((((w15.setCell ⟨gb514, 0, none⟩ (.int .i64 ((rd_T66 l0_0 ((rd_T54 l1 x6_1).f0)).f0))).setCell ⟨gb514, 1, none⟩ (.int .i64 ((rd_T66 l0_0 ((rd_T54 l1 x6_1).f0)).f1))).setCell ⟨gb514, 2, none⟩ (.int .i64 ((rd_T66 l0_0 ((rd_T54 l1 x6_1).f0)).f2))).setCell ⟨gb514, 3, none⟩ (.int .u8 ((rd_T66 l0_0 ((rd_T54 l1 x6_1).f0)).f3))).setCell ⟨gb515, 0, none⟩ (.int .i64 ((rd_T66 l0_0 (ji8)).f0))).setCell ⟨gb515, 1, none⟩ (.int .i64 ((rd_T66 l0_0 (ji8)).f1))).setCell ⟨gb515, 2, none⟩ (.int .i64 ((rd_T66 l0_0 (ji8)).f2))).setCell ⟨gb515, 3, none⟩ (.int .u8 ((rd_T66 l0_0 (ji8)).f3)))) := ⟨aL HB⟩
  (try clear HO_5)
  (try clear BK509)
  (try clear BK514)
  (try clear BK515)
  (try clear HB)
  generalize ((((((((w15.setCell ⟨gb514, 0, none⟩ (.int .i64 ((rd_T66 l0_0 ((rd_T54 l1 x6_1).f0)).f0))).setCell ⟨gb514, 1, none⟩ (.int .i64 ((rd_T66 l0_0 ((rd_T54 l1 x6_1).f0)).f1))).setCell ⟨gb514, 2, none⟩ (.int .i64 ((rd_T66 l0_0 ((rd_T54 l1 x6_1).f0)).f2))).setCell ⟨gb514, 3, none⟩ (.int .u8 ((rd_T66 l0_0 ((rd_T54 l1 x6_1).f0)).f3))).setCell ⟨gb515, 0, none⟩ (.int .i64 ((rd_T66 l0_0 (ji8)).f0))).setCell ⟨gb515, 1, none⟩ (.int .i64 ((rd_T66 l0_0 (ji8)).f1))).setCell ⟨gb515, 2, none⟩ (.int .i64 ((rd_T66 l0_0 (ji8)).f2))).setCell ⟨gb515, 3, none⟩ (.int .u8 ((rd_T66 l0_0 (ji8)).f3))) = w24 at n0_ n1_ n2_ n3_ n4_ ⊢
  have HO_5 := n0_; have BK509 := n1_; have BK514 := n2_; have BK515 := n3_; have HB := n4_; clear n0_ n1_ n2_ n3_ n4_; replace HO_5 := zA.mk (Kd.zL HO_5.out); replace BK509 := zA.mk (zF BK509.out); replace BK514 := zA.mk (zF BK514.out); replace BK515 := zA.mk (zF BK515.out); replace HB := zA.mk (below_drew1 HB.out); have p516 : 0 ≤ (x6_1 : Int) := aD
  have q516 : x6_1 < (l1.length : Int) := aD
  obtain ⟨ad516, e516, hx516_0, hx516_1, hx516_2, hx516_3⟩ := at_T54 HR1.out x6_1 p516 q516; have hw516_3 := hx516_3; have hw516_2 := hx516_2; have hw516_1 := hx516_1; have hw516_0 := hx516_0; obtain rfl : ad510 = ad516 := (by injection e516)
  replace hx516_0 := (HB.out.cell (World.block_lt_of_cell? w _ hx516_0)).trans hx516_0; replace hx516_1 := (HB.out.cell (World.block_lt_of_cell? w _ hx516_1)).trans hx516_1; replace hx516_2 := (HB.out.cell (World.block_lt_of_cell? w _ hx516_2)).trans hx516_2; replace hx516_3 := (HB.out.cell (World.block_lt_of_cell? w _ hx516_3)).trans hx516_3; replace p516 := eq_true p516; replace q516 := eq_true q516; have p517 : 0 ≤ (x6_1 : Int) := aD
  have q517 : x6_1 < (l1.length : Int) := aD
  obtain ⟨ad517, e517, hx517_0, hx517_1, hx517_2, hx517_3⟩ := at_T54 HR1.out x6_1 p517 q517; have hw517_3 := hx517_3; have hw517_2 := hx517_2; have hw517_1 := hx517_1; have hw517_0 := hx517_0; obtain rfl : ad510 = ad517 := (by injection e517)
  replace hx517_0 := (HB.out.cell (World.block_lt_of_cell? w _ hx517_0)).trans hx517_0; replace hx517_1 := (HB.out.cell (World.block_lt_of_cell? w _ hx517_1)).trans hx517_1; replace hx517_2 := (HB.out.cell (World.block_lt_of_cell? w _ hx517_2)).trans hx517_2; replace hx517_3 := (HB.out.cell (World.block_lt_of_cell? w _ hx517_3)).trans hx517_3; replace p517 := eq_true p517; replace q517 := eq_true q517; refine start_ (n := 22) (S := fun w' => w'.cell? ⟨gb514, 0, none⟩ = some (.int .i64 ((rd_T66 l0_0 ((rd_T54 l1 x6_1).f0)).f0)) ∧ w'.cell? ⟨gb514, 1, none⟩ = some (.int .i64 ((rd_T66 l0_0 ((rd_T54 l1 x6_1).f0)).f1)) ∧ w'.cell? ⟨gb514, 2, none⟩ = some (.int .i64 ((rd_T66 l0_0 ((rd_T54 l1 x6_1).f0)).f2)) ∧ w'.cell? ⟨gb514, 3, none⟩ = some (.int .u8 ((rd_T66 l0_0 ((rd_T54 l1 x6_1).f0)).f3)) ∧ w'.cell? ⟨gb515, 0, none⟩ = some (.int .i64 ((rd_T66 l0_0 (ji8)).f0)) ∧ w'.cell? ⟨gb515, 1, none⟩ = some (.int .i64 ((rd_T66 l0_0 (ji8)).f1)) ∧ w'.cell? ⟨gb515, 2, none⟩ = some (.int .i64 ((rd_T66 l0_0 (ji8)).f2)) ∧ w'.cell? ⟨gb515, 3, none⟩ = some (.int .u8 ((rd_T66 l0_0 (ji8)).f3)) ∧ w'.cell? (ad510.add ((x6_1).toNat * 4)) = some (.int .i64 ((rd_T54 l1 x6_1).f0)) ∧ w'.cell? ⟨(ad510.add ((x6_1).toNat * 4)).block, (ad510.add ((x6_1).toNat * 4)).off + 1, none⟩ = some (.int .i64 ((rd_T54 l1 x6_1).f1)) ∧ w'.cell? ⟨(ad510.add ((x6_1).toNat * 4)).block, (ad510.add ((x6_1).toNat * 4)).off + 2, none⟩ = some (.int .i64 ((rd_T54 l1 x6_1).f2)) ∧ w'.cell? ⟨(ad510.add ((x6_1).toNat * 4)).block, (ad510.add ((x6_1).toNat * 4)).off + 3, none⟩ = some (.int .u8 ((rd_T54 l1 x6_1).f3)) ∧ w'.cell? (ad510.add ((x6_1).toNat * 4)) = some (.int .i64 ((rd_T54 l1 x6_1).f0)) ∧ w'.cell? ⟨(ad510.add ((x6_1).toNat * 4)).block, (ad510.add ((x6_1).toNat * 4)).off + 1, none⟩ = some (.int .i64 ((rd_T54 l1 x6_1).f1)) ∧ w'.cell? ⟨(ad510.add ((x6_1).toNat * 4)).block, (ad510.add ((x6_1).toNat * 4)).off + 2, none⟩ = some (.int .i64 ((rd_T54 l1 x6_1).f2)) ∧ w'.cell? ⟨(ad510.add ((x6_1).toNat * 4)).block, (ad510.add ((x6_1).toNat * 4)).off + 3, none⟩ = some (.int .u8 ((rd_T54 l1 x6_1).f3))) (ds := []) #[false, false, false, false, false, false, false, false, false, false, false, false, false, false, false, false, false, false, false, false, false, false] (by kernel_rfl) rfl rfl ⟨(zB BK514.out 0).trans rfl, (zB BK514.out 1).trans rfl, (zB BK514.out 2).trans rfl, (zB BK514.out 3).trans rfl, (zB BK515.out 0).trans rfl, (zB BK515.out 1).trans rfl, (zB BK515.out 2).trans rfl, (zB BK515.out 3).trans rfl, ((HB.out.cell (World.block_lt_of_cell? w _ hw516_0)).trans hw516_0), ((HB.out.cell (World.block_lt_of_cell? w _ hw516_1)).trans hw516_1), ((HB.out.cell (World.block_lt_of_cell? w _ hw516_2)).trans hw516_2), ((HB.out.cell (World.block_lt_of_cell? w _ hw516_3)).trans hw516_3), ((HB.out.cell (World.block_lt_of_cell? w _ hw517_0)).trans hw517_0), ((HB.out.cell (World.block_lt_of_cell? w _ hw517_1)).trans hw517_1), ((HB.out.cell (World.block_lt_of_cell? w _ hw517_2)).trans hw517_2), ((HB.out.cell (World.block_lt_of_cell? w _ hw517_3)).trans hw517_3)⟩ (fun hHeld => ?_); refine with_tabW r3_Rows.tab6 r3_Rows.bits6 (fun HT_ HW_ => ?_)
  generalize w24.drew = w25 at HO_5 BK509 BK514 BK515 HB hx516_0 hx516_1 hx516_2 hx516_3 hx517_0 hx517_1 hx517_2 hx517_3 hHeld ⊢
  refine aP 0 (some 34) (tf_ 1 22) HT_ ?_
  refine aP 1 (some 35) (tf_ 2 22) HT_ ?_
  refine aP 3 (some 37) (tb_ 11 22) HT_ ?_
  refine aP 5 (some 39) (tb_ 43 22) HT_ ?_
  refine aP 8 (some 42) (tb_ 299 22) HT_ ?_
  refine aP 9 (some 43) (tb_ 811 22) HT_ ?_
  refine aP 10 (some 44) (tb_ 1835 22) HT_ ?_
  refine aP 11 (some 45) (tb_ 3883 22) HT_ ?_
  refine aP 13 (some 47) (tb_ 12075 22) HT_ ?_
  refine aP 14 (some 48) (tb_ 28459 22) HT_ ?_
  refine aP 15 (some 49) (tb_ 61227 22) HT_ ?_
  refine aP 16 (some 50) (tb_ 126763 22) HT_ ?_
  refine take_ (i := 2) (N := some 36) (v := ?_) (a' := ?_) (tb_ 126767 22) rfl rfl (take_ofW HT_.out HW_.out (by kernel_rfl)) (fun _ _ _ h => h) (Or.inl ⟨by rfl, ?_⟩) hHeld ?_ ?_
  rotate_left
  ·rintro w' ⟨s0, s1, s2, s3, s4, s5, s6, s7, s8, s9, s10, s11, s12, s13, s14, s15⟩
   go_simp
   with_reducible rfl
  rotate_left
  ·simp only [Act.put, sA_, sB_, sC_, i64_w, i32_w]
   rfl
  refine take_ (i := 4) (N := some 38) (v := ?_) (a' := ?_) (tb_ 126783 22) rfl rfl (take_ofW HT_.out HW_.out (by kernel_rfl)) (fun _ _ _ h => h) (Or.inl ⟨by rfl, ?_⟩) hHeld ?_ ?_
  rotate_left
  ·rintro w' ⟨s0, s1, s2, s3, s4, s5, s6, s7, s8, s9, s10, s11, s12, s13, s14, s15⟩
   go_simp
   with_reducible rfl
  rotate_left
  ·simp only [Act.put, sA_, sB_, sC_, i64_w, i32_w]
   rfl
  refine take_ (i := 6) (N := some 40) (v := ?_) (a' := ?_) (tb_ 126847 22) rfl rfl (take_ofW HT_.out HW_.out (by kernel_rfl)) (fun _ _ _ h => h) (Or.inl ⟨by rfl, ?_⟩) hHeld ?_ ?_
  rotate_left
  ·rintro w' ⟨s0, s1, s2, s3, s4, s5, s6, s7, s8, s9, s10, s11, s12, s13, s14, s15⟩
   go_simp
   with_reducible rfl
  rotate_left
  ·simp only [Act.put, sA_, sB_, sC_, i64_w, i32_w]
   rfl
  refine aP 7 (some 41) (tb_ 126975 22) HT_ ?_
  refine take_ (i := 12) (N := some 46) (v := ?_) (a' := ?_) (tf_ 17 22) rfl rfl (take_ofW HT_.out HW_.out (by kernel_rfl)) (fun _ _ _ h => h) (Or.inl ⟨by rfl, ?_⟩) hHeld ?_ ?_
  rotate_left
  ·rintro w' ⟨s0, s1, s2, s3, s4, s5, s6, s7, s8, s9, s10, s11, s12, s13, s14, s15⟩
   go_simp
   with_reducible rfl
  rotate_left
  ·simp only [Act.put, sA_, sB_, sC_, i64_w, i32_w]
   rfl
  refine take_ (i := 17) (N := some 51) (v := ?_) (a' := ?_) (tf_ 18 22) rfl rfl (take_ofW HT_.out HW_.out (by kernel_rfl)) (fun _ _ _ h => h) (Or.inl ⟨by rfl, ?_⟩) hHeld ?_ ?_
  rotate_left
  ·rintro w' ⟨s0, s1, s2, s3, s4, s5, s6, s7, s8, s9, s10, s11, s12, s13, s14, s15⟩
   go_simp
   with_reducible rfl
  rotate_left
  ·simp only [Act.put, sA_, sB_, sC_, i64_w, i32_w]
   rfl
  refine aP 18 (some 52) (tf_ 19 22) HT_ ?_
  refine one_ (i := 19) (N := some 53) (tb_ 1048575 22) rfl rfl (one_of HT_.out (by kernel_rfl)) (by decide) (fun K hK => ?_)
  refine value_ (w1 := ?_) (v := ?_) (by rfl) rfl ?_ ?_
  rotate_left 2
  ·go_simp
   constructor
   ·rfl
   rfl
  refine hK.out _ _ ⟨(zB (zE BK514.out _) 0).trans rfl, (zB (zE BK514.out _) 1).trans rfl, (zB (zE BK514.out _) 2).trans rfl, (zB (zE BK514.out _) 3).trans rfl, (zB (zE BK515.out _) 0).trans rfl, (zB (zE BK515.out _) 1).trans rfl, (zB (zE BK515.out _) 2).trans rfl, (zB (zE BK515.out _) 3).trans rfl, (World.cell?_alloc_lt _ _ _ (World.block_lt_of_cell? _ _ (((HB.out.cell (World.block_lt_of_cell? w _ hw516_0)).trans hw516_0)))).trans (((HB.out.cell (World.block_lt_of_cell? w _ hw516_0)).trans hw516_0)), (World.cell?_alloc_lt _ _ _ (World.block_lt_of_cell? _ _ (((HB.out.cell (World.block_lt_of_cell? w _ hw516_1)).trans hw516_1)))).trans (((HB.out.cell (World.block_lt_of_cell? w _ hw516_1)).trans hw516_1)), (World.cell?_alloc_lt _ _ _ (World.block_lt_of_cell? _ _ (((HB.out.cell (World.block_lt_of_cell? w _ hw516_2)).trans hw516_2)))).trans (((HB.out.cell (World.block_lt_of_cell? w _ hw516_2)).trans hw516_2)), (World.cell?_alloc_lt _ _ _ (World.block_lt_of_cell? _ _ (((HB.out.cell (World.block_lt_of_cell? w _ hw516_3)).trans hw516_3)))).trans (((HB.out.cell (World.block_lt_of_cell? w _ hw516_3)).trans hw516_3)), (World.cell?_alloc_lt _ _ _ (World.block_lt_of_cell? _ _ (((HB.out.cell (World.block_lt_of_cell? w _ hw517_0)).trans hw517_0)))).trans (((HB.out.cell (World.block_lt_of_cell? w _ hw517_0)).trans hw517_0)), (World.cell?_alloc_lt _ _ _ (World.block_lt_of_cell? _ _ (((HB.out.cell (World.block_lt_of_cell? w _ hw517_1)).trans hw517_1)))).trans (((HB.out.cell (World.block_lt_of_cell? w _ hw517_1)).trans hw517_1)), (World.cell?_alloc_lt _ _ _ (World.block_lt_of_cell? _ _ (((HB.out.cell (World.block_lt_of_cell? w _ hw517_2)).trans hw517_2)))).trans (((HB.out.cell (World.block_lt_of_cell? w _ hw517_2)).trans hw517_2)), (World.cell?_alloc_lt _ _ _ (World.block_lt_of_cell? _ _ (((HB.out.cell (World.block_lt_of_cell? w _ hw517_3)).trans hw517_3)))).trans (((HB.out.cell (World.block_lt_of_cell? w _ hw517_3)).trans hw517_3))⟩ (fun hHeld => ?_)
  clear hK K; refine norm_ (a' := ?_) ?_ ?_
  rotate_left
  ·show Act.put _ (some 53) _ = _
   simp only [Act.put, sA_, sB_, sC_, i64_w, i32_w]; rfl
  refine one_ (i := 20) (N := some 54) (tb_ 2097151 22) rfl rfl (one_of HT_.out (by kernel_rfl)) (by decide) (fun K hK => ?_)
  refine Kd.R_append_step k53 (w0 := w) w.heap.size (by rfl) (.tmp 34) (.tmp 53) 42 53 (.agg #[(.int .i64 0), (.int .i64 0), (.int .i64 0), (.int .u8 0)]) 32 rfl Try.underlying42 info53 rfl (by decide) (by omega) u5 x5_1 (⟨(rd_T66 l0_0 ((rd_T54 l1 x6_1).f0)).f0, wrap64 (((rd_T66 l0_0 (ji8)).f0) + ((rd_T66 l0_0 (ji8)).f1)), (rd_T54 l1 x6_1).f2, (rd_T54 l1 x6_1).f3⟩ : S53) [.int .i64 ((rd_T66 l0_0 ((rd_T54 l1 x6_1).f0)).f0), .int .i64 (wrap64 (((rd_T66 l0_0 (ji8)).f0) + ((rd_T66 l0_0 (ji8)).f1))), .int .i64 ((rd_T54 l1 x6_1).f2), .int .u8 ((rd_T54 l1 x6_1).f3)] (fun _ => True) (fun _ => False) rfl rfl ?aP (fun _ hk => hk.elim) ?aF ?aO ?aB ?aS ?aL ?_
  (case aP => exact k53_mkM _ _ _ (⟨(rd_T66 l0_0 ((rd_T54 l1 x6_1).f0)).f0, wrap64 (((rd_T66 l0_0 (ji8)).f0) + ((rd_T66 l0_0 (ji8)).f1)), (rd_T54 l1 x6_1).f2, (rd_T54 l1 x6_1).f3⟩ : S53))
  (case aB => exact (aL HB))
  (case aF => exact (fun _ _ => trivial))
  (case aO => exact (aR HO_5))
  (case aS => exact (zH (aL HB)))
  (case aL => have := LMc11.out; omega)
  intro v519 w26 ho hb hg hat
  rw [← Ny518.out] at ho; replace BK509 := zA.mk (blk_grown (g := gb509) (o := .cells #[.slice (some ad511) l0_0.length c0_0, .slice A0_1 l0_1.length c0_1] 31 (0, 0)) (aB BK509) hg (Kd.R_ne HO_5.out BK509.out (by decide)))
  replace BK514 := zA.mk (blk_grown (g := gb514) (o := .cells #[.int .i64 ((rd_T66 l0_0 ((rd_T54 l1 x6_1).f0)).f0), .int .i64 ((rd_T66 l0_0 ((rd_T54 l1 x6_1).f0)).f1), .int .i64 ((rd_T66 l0_0 ((rd_T54 l1 x6_1).f0)).f2), .int .u8 ((rd_T66 l0_0 ((rd_T54 l1 x6_1).f0)).f3)] 66 (0, 0)) (aB BK514) hg (Kd.R_ne HO_5.out BK514.out (by decide)))
  replace BK515 := zA.mk (blk_grown (g := gb515) (o := .cells #[.int .i64 ((rd_T66 l0_0 (ji8)).f0), .int .i64 ((rd_T66 l0_0 (ji8)).f1), .int .i64 ((rd_T66 l0_0 (ji8)).f2), .int .u8 ((rd_T66 l0_0 (ji8)).f3)] 66 (0, 0)) (aB BK515) hg (Kd.R_ne HO_5.out BK515.out (by decide)))
  replace HB := zA.mk (hb); have HO520 := zA.mk (ho); clear HO_5; clear ho hb hg hat; refine hK.out _ _ ⟨(zB BK514.out 0).trans rfl, (zB BK514.out 1).trans rfl, (zB BK514.out 2).trans rfl, (zB BK514.out 3).trans rfl, (zB BK515.out 0).trans rfl, (zB BK515.out 1).trans rfl, (zB BK515.out 2).trans rfl, (zB BK515.out 3).trans rfl, ((HB.out.cell (World.block_lt_of_cell? w _ hw516_0)).trans hw516_0), ((HB.out.cell (World.block_lt_of_cell? w _ hw516_1)).trans hw516_1), ((HB.out.cell (World.block_lt_of_cell? w _ hw516_2)).trans hw516_2), ((HB.out.cell (World.block_lt_of_cell? w _ hw516_3)).trans hw516_3), ((HB.out.cell (World.block_lt_of_cell? w _ hw517_0)).trans hw517_0), ((HB.out.cell (World.block_lt_of_cell? w _ hw517_1)).trans hw517_1), ((HB.out.cell (World.block_lt_of_cell? w _ hw517_2)).trans hw517_2), ((HB.out.cell (World.block_lt_of_cell? w _ hw517_3)).trans hw517_3)⟩ (fun hHeld => ?_)
  clear hK K; refine norm_ (a' := ?_) ?_ ?_
  rotate_left
  ·show Act.put _ (some 54) _ = _
   simp only [Act.put, sA_, sB_, sC_, i64_w, i32_w]; rfl
  refine aP 21 (some 5) (tb_ 4194303 22) HT_ ?_
  refine done_ (done_of HT_.out (by kernel_rfl)) ?_
  try go_wp2
  go_roundg k1
  case measure => have := HK1.out; omega
  case rel => exact ⟨(y518), (wrap64 (x6_1 + 1)), aZ, H', ⟨by have := HK1.out; omega⟩, ⟨aR HO520⟩, ⟨aB BK509⟩, ⟨aL HB⟩⟩
def l6_LinesBreaks.f (k : Nat) (l0 : List (S63)) (a1_0 : Int) (a1_1 : Int) (a1_2 : Int) (a1_3 : Int) (a1_4 : Int) (a1_5 : Nat) : Option (Bool) := (l6_Awake.f k).bind fun t525 => (if t525 = true then (if (l0.length : Int) > 80 then (some true) else ((h3_Para.f k l0).bind fun bt526 => ((h3_Config.f a1_0 a1_1 a1_2 a1_3 a1_4 a1_5).bind fun bt532 => ((lines_Break.f k bt526.1 bt526.2 bt532.1 bt532.2.1 bt532.2.2.1 bt532.2.2.2.1 bt532.2.2.2.2.1 bt532.2.2.2.2.2).bind fun bt540 => ((r3_Break.f k bt526.1 bt526.2 bt532.1 bt532.2.1 bt532.2.2.1 bt532.2.2.2.1 bt532.2.2.2.2.1 bt532.2.2.2.2.2).bind fun bt544 => (if (bt540.2 == bt544.2) = true then ((r3_SameLines.f k bt540.1 bt544.1).bind fun t548 => (if t548 = true then ((lines_Rows.f k bt526.1 bt526.2 bt540.1).bind fun t549 => ((r3_Rows.f k bt526.1 bt526.2 bt544.1).bind fun t552 => ((r3_SameLayouts.f k t549 false t552 false).bind fun t555 => (some t555)))) else (some false))) else (some false))))))) else (some false))
theorem l6_LinesBreaks.mono : ∀ a0 a1 a2 a3 a4 a5 a6 k, LeO (l6_LinesBreaks.f k a0 a1 a2 a3 a4 a5 a6) (l6_LinesBreaks.f (k + 1) a0 a1 a2 a3 a4 a5 a6) := by
 intro a0 a1 a2 a3 a4 a5 a6 k
 unfold l6_LinesBreaks.f
 repeat' (with_reducible first | exact lines_Break.mono _ _ _ _ _ _ _ _ _ | exact lines_Rows.mono _ _ _ _ | exact h3_Para.mono _ _ | exact l6_Awake.mono _ | exact r3_Break.mono _ _ _ _ _ _ _ _ _ | exact r3_Rows.mono _ _ _ _ | exact r3_SameLayouts.mono _ _ _ _ _ | exact r3_SameLines.mono _ _ _ | exact LeO.refl _ | exact LeO.none _ | refine LeO.ite ?_ ?_ | refine LeO.bind ?_ (fun _ => ?_))
def l6_LinesBreaks.T5 : Bool × List (List Nat × List Nat) := (true, [([], []), ([0], [0]), ([], []), ([2, 1], [2]), ([], []), ([], []), ([4, 1, 3, 0, 1, 4, 5], [1, 4]), ([5, 3, 6, 0, 1, 2, 3, 4, 5, 6], [3, 5])])
def l6_LinesBreaks.B5 : List Nat := [0, 1, 0, 7, 0, 0, 63, 127]
theorem l6_LinesBreaks.tab5 : rtab .any (opsOf Try.f3 5) = l6_LinesBreaks.T5 := by kernel_rfl
theorem l6_LinesBreaks.bits5 : waitsOk l6_LinesBreaks.T5.2 l6_LinesBreaks.B5 = true := by kernel_rfl
def l6_LinesBreaks.T8 : Bool × List (List Nat × List Nat) := (true, [([], []), ([], []), ([0, 1], [0, 1]), ([2], [2]), ([3], [3]), ([3], [3]), ([4, 5, 3, 3], [3, 4, 5]), ([3, 6], [3, 6]), ([7, 6], [7]), ([8], [8]), ([8], [8]), ([9, 10, 8, 8], [8, 9, 10]), ([11, 8], [8, 11]), ([8], [8]), ([8], [8]), ([13, 14, 11, 8], [8, 13, 14]), ([15, 8], [8, 15]), ([12, 16, 15, 8], [8, 12, 16]), ([8, 17], [8, 17]), ([18, 17, 0, 1, 2, 3, 4, 5, 6, 7, 8, 9, 10, 11, 12, 13, 14, 15, 16, 17, 18], [18])])
def l6_LinesBreaks.B8 : List Nat := [0, 0, 3, 7, 15, 15, 63, 127, 255, 511, 511, 2047, 4095, 511, 511, 28671, 61439, 131071, 262143, 524287]
theorem l6_LinesBreaks.tab8 : rtab .any (opsOf Try.f3 8) = l6_LinesBreaks.T8 := by kernel_rfl
theorem l6_LinesBreaks.bits8 : waitsOk l6_LinesBreaks.T8.2 l6_LinesBreaks.B8 = true := by kernel_rfl
set_option maxHeartbeats 8000000 in
set_option maxRecDepth 100000 in
theorem l6_LinesBreaks.calls (k : Nat) (A0 : Option Addr) (c0 : Nat) (l0 : List (S63)) (a1_0 : Int) (a1_1 : Int) (a1_2 : Int) (a1_3 : Int) (a1_4 : Int) (a1_5 : Nat) (r : Bool) (w : World) (hr0 : Kd.C k63 w A0 l0.length l0) (hc0 : l0.length ≤ c0) (h : l6_LinesBreaks.f k l0 a1_0 a1_1 a1_2 a1_3 a1_4 a1_5 = some r) (hrt_ : zA (r = true)) :
  Calls Try.prog 3 #[.slice A0 l0.length c0, .agg #[.int .u8 a1_0, .int .u8 a1_1, .int .u8 a1_2, .int .u16 a1_3, .int .u16 a1_4, .float .f64 a1_5]] w fun e w' => e = .returned (.bool r) ∧ Below w.heap.size w w' := by
 have hu26 := Try.underlying26; have hu31 := Try.underlying31; have hu35 := Try.underlying35; have hu45 := Try.underlying45; have HR0 := zA.mk hr0; have HC0 := zA.mk hc0; clear hr0 hc0; have HB := zA.mk (Below.refl w.heap.size w); have H : ((l6_Awake.f k).bind fun t525 => (if t525 = true then (if (l0.length : Int) > 80 then (some true) else ((h3_Para.f k l0).bind fun bt526 => ((h3_Config.f a1_0 a1_1 a1_2 a1_3 a1_4 a1_5).bind fun bt532 => ((lines_Break.f k bt526.1 bt526.2 bt532.1 bt532.2.1 bt532.2.2.1 bt532.2.2.2.1 bt532.2.2.2.2.1 bt532.2.2.2.2.2).bind fun bt540 => ((r3_Break.f k bt526.1 bt526.2 bt532.1 bt532.2.1 bt532.2.2.1 bt532.2.2.2.1 bt532.2.2.2.2.1 bt532.2.2.2.2.2).bind fun bt544 => (if (bt540.2 == bt544.2) = true then ((r3_SameLines.f k bt540.1 bt544.1).bind fun t548 => (if t548 = true then ((lines_Rows.f k bt526.1 bt526.2 bt540.1).bind fun t549 => ((r3_Rows.f k bt526.1 bt526.2 bt544.1).bind fun t552 => ((r3_SameLayouts.f k t549 false t552 false).bind fun t555 => (some t555)))) else (some false))) else (some false))))))) else (some false))) = some r := h
 clear h; replace H := Option.bind_eq_some_iff.mp H; obtain ⟨t525, A30, H⟩ := H; replace H : (if t525 = true then (if (l0.length : Int) > 80 then (some true) else ((h3_Para.f k l0).bind fun bt526 => ((h3_Config.f a1_0 a1_1 a1_2 a1_3 a1_4 a1_5).bind fun bt532 => ((lines_Break.f k bt526.1 bt526.2 bt532.1 bt532.2.1 bt532.2.2.1 bt532.2.2.2.1 bt532.2.2.2.2.1 bt532.2.2.2.2.2).bind fun bt540 => ((r3_Break.f k bt526.1 bt526.2 bt532.1 bt532.2.1 bt532.2.2.1 bt532.2.2.2.1 bt532.2.2.2.2.1 bt532.2.2.2.2.2).bind fun bt544 => (if (bt540.2 == bt544.2) = true then ((r3_SameLines.f k bt540.1 bt544.1).bind fun t548 => (if t548 = true then ((lines_Rows.f k bt526.1 bt526.2 bt540.1).bind fun t549 => ((r3_Rows.f k bt526.1 bt526.2 bt544.1).bind fun t552 => ((r3_SameLayouts.f k t549 false t552 false).bind fun t555 => (some t555)))) else (some false))) else (some false))))))) else (some false)) = some r := H
 have A3 := zA.mk A30; clear A30; by_cases c4 : t525 = true
 rotate_left
 ·replace c4 := Bool.eq_false_iff.mpr c4
  subst c4; have H1 : (some false) = some r := by rw [if_neg (show ¬ (false = true) by decide)] at H; exact H
  clear H; have H := H1; clear H1; exact absurd ((Option.some.inj H).trans hrt_.out) (by decide)
 subst c4; have H1 : (if (l0.length : Int) > 80 then (some true) else ((h3_Para.f k l0).bind fun bt526 => ((h3_Config.f a1_0 a1_1 a1_2 a1_3 a1_4 a1_5).bind fun bt532 => ((lines_Break.f k bt526.1 bt526.2 bt532.1 bt532.2.1 bt532.2.2.1 bt532.2.2.2.1 bt532.2.2.2.2.1 bt532.2.2.2.2.2).bind fun bt540 => ((r3_Break.f k bt526.1 bt526.2 bt532.1 bt532.2.1 bt532.2.2.1 bt532.2.2.2.1 bt532.2.2.2.2.1 bt532.2.2.2.2.2).bind fun bt544 => (if (bt540.2 == bt544.2) = true then ((r3_SameLines.f k bt540.1 bt544.1).bind fun t548 => (if t548 = true then ((lines_Rows.f k bt526.1 bt526.2 bt540.1).bind fun t549 => ((r3_Rows.f k bt526.1 bt526.2 bt544.1).bind fun t552 => ((r3_SameLayouts.f k t549 false t552 false).bind fun t555 => (some t555)))) else (some false))) else (some false))))))) = some r := by rw [if_pos rfl] at H; exact H
 clear H; have H := H1; clear H1; by_cases c5 : (l0.length : Int) > 80
 ·rw [if_pos c5] at H
  have c5b0 : decide (80 < (l0.length : Int)) = true := decide_eq_true c5
  have c5b1 : decide (80 < l0.length) = true := decide_eq_true (by omega)
  clear c5; obtain rfl := Option.some.inj H
  go_enter Try.func3, Try.ntmps3
  go_wp2_with (first | ((with_reducible refine gate_dst (N := 3) rfl ?_); refine box_event ?hg (N := 3) ?hd (cs := #[.int .u8 a1_0, .int .u8 a1_1, .int .u8 a1_2, .int .u16 a1_3, .int .u16 a1_4, .float .f64 a1_5]) (t := 26) ?hr ?_; (case hd => rfl); (case hg => rfl); (case hr => first | (go_simp; done) | (go_simp; rfl)); intro gb524 hg w6 hbox hb; have n0_ := zA.mk (zD (aL HB) hb); have n1_ := zA.mk (hbox); have n2_ := zA.mk ((by rw [hg]; exact (zH (aL HB)) : w.heap.size ≤ gb524)); have n3_ := zA.mk ((by rw [hg]; exact (zH (aL HB)) : w.heap.size ≤ gb524)); clear HB; have HB := n0_; have BK524 := n1_; have GW524 := n2_; have GE524 := n3_; clear n0_ n1_ n2_ n3_; clear hb hbox hg) | ((with_reducible refine gate_callee (f := 9) rfl ?_); refine goesL_ (some 11) rfl rfl Try.func9 (by kernel_rfl) rfl #[] rfl aT ?_; (with_reducible refine (l6_Awake.calls k  true _ A3.out (by first | exact ⟨rfl⟩ | exact hrt_)).mono ?_); rintro e w7 ⟨rfl, hb⟩; refine ⟨_, rfl, ?_⟩; have n0_ := zA.mk (zC (g := gb524) (o := .cells #[.int .u8 a1_0, .int .u8 a1_1, .int .u8 a1_2, .int .u16 a1_3, .int .u16 a1_4, .float .f64 a1_5] 26 (0, 0)) (aB BK524) hb); have n1_ := zA.mk (zD (aL HB) hb); clear BK524; clear HB; have BK524 := n0_; have HB := n1_; clear n0_ n1_; (try clear hb); (try clear hb2); (try clear hk); (try clear hi)))
  go_ret
  exact ⟨aX, aL HB⟩
 rw [if_neg c5] at H; have c5b0 : decide (80 < (l0.length : Int)) = false := decide_eq_false c5
 have c5b1 : decide (80 < l0.length) = false := decide_eq_false (by omega)
 clear c5; replace H := Option.bind_eq_some_iff.mp H; obtain ⟨⟨t526, t529⟩, A80, H⟩ := H; replace H : ((h3_Config.f a1_0 a1_1 a1_2 a1_3 a1_4 a1_5).bind fun bt532 => ((lines_Break.f k t526 t529 bt532.1 bt532.2.1 bt532.2.2.1 bt532.2.2.2.1 bt532.2.2.2.2.1 bt532.2.2.2.2.2).bind fun bt540 => ((r3_Break.f k t526 t529 bt532.1 bt532.2.1 bt532.2.2.1 bt532.2.2.2.1 bt532.2.2.2.2.1 bt532.2.2.2.2.2).bind fun bt544 => (if (bt540.2 == bt544.2) = true then ((r3_SameLines.f k bt540.1 bt544.1).bind fun t548 => (if t548 = true then ((lines_Rows.f k t526 t529 bt540.1).bind fun t549 => ((r3_Rows.f k t526 t529 bt544.1).bind fun t552 => ((r3_SameLayouts.f k t549 false t552 false).bind fun t555 => (some t555)))) else (some false))) else (some false))))) = some r := H
 have A8 := zA.mk A80; clear A80; replace H := Option.bind_eq_some_iff.mp H; obtain ⟨⟨t532, t533, t534, t535, t536, t537⟩, A90, H⟩ := H; replace H : ((lines_Break.f k t526 t529 t532 t533 t534 t535 t536 t537).bind fun bt540 => ((r3_Break.f k t526 t529 t532 t533 t534 t535 t536 t537).bind fun bt544 => (if (bt540.2 == bt544.2) = true then ((r3_SameLines.f k bt540.1 bt544.1).bind fun t548 => (if t548 = true then ((lines_Rows.f k t526 t529 bt540.1).bind fun t549 => ((r3_Rows.f k t526 t529 bt544.1).bind fun t552 => ((r3_SameLayouts.f k t549 false t552 false).bind fun t555 => (some t555)))) else (some false))) else (some false)))) = some r := H
 have A9 := zA.mk A90; clear A90; replace H := Option.bind_eq_some_iff.mp H; obtain ⟨⟨t540, t543⟩, A100, H⟩ := H; replace H : ((r3_Break.f k t526 t529 t532 t533 t534 t535 t536 t537).bind fun bt544 => (if (t543 == bt544.2) = true then ((r3_SameLines.f k t540 bt544.1).bind fun t548 => (if t548 = true then ((lines_Rows.f k t526 t529 t540).bind fun t549 => ((r3_Rows.f k t526 t529 bt544.1).bind fun t552 => ((r3_SameLayouts.f k t549 false t552 false).bind fun t555 => (some t555)))) else (some false))) else (some false))) = some r := H
 have A10 := zA.mk A100; clear A100; replace H := Option.bind_eq_some_iff.mp H; obtain ⟨⟨t544, t547⟩, A110, H⟩ := H; replace H : (if (t543 == t547) = true then ((r3_SameLines.f k t540 t544).bind fun t548 => (if t548 = true then ((lines_Rows.f k t526 t529 t540).bind fun t549 => ((r3_Rows.f k t526 t529 t544).bind fun t552 => ((r3_SameLayouts.f k t549 false t552 false).bind fun t555 => (some t555)))) else (some false))) else (some false)) = some r := H
 have A11 := zA.mk A110; clear A110; by_cases c12 : (t543 == t547) = true
 rotate_left
 ·rw [if_neg c12] at H
  have c12b0 : (t543 == t547) = false := by simpa using c12
  (try (have c12b1 : decide (t543 = t547) = false := by simpa using c12))
  (try (have c12b2 : (t543 == t547) = false := by simpa using c12))
  (try (have c12b3 : ¬ (t543 = t547) := by simpa using c12))
  clear c12; exact absurd ((Option.some.inj H).trans hrt_.out) (by decide)
 rw [if_pos c12] at H; have c12b0 : (t543 == t547) = true := c12
 (try (have c12b1 : decide (t543 = t547) = true := by simpa using c12))
 (try (have c12b2 : (t543 == t547) = true := by simpa using c12))
 clear c12; replace H := Option.bind_eq_some_iff.mp H; obtain ⟨t548, A130, H⟩ := H; replace H : (if t548 = true then ((lines_Rows.f k t526 t529 t540).bind fun t549 => ((r3_Rows.f k t526 t529 t544).bind fun t552 => ((r3_SameLayouts.f k t549 false t552 false).bind fun t555 => (some t555)))) else (some false)) = some r := H
 have A13 := zA.mk A130; clear A130; by_cases c14 : t548 = true
 rotate_left
 ·replace c14 := Bool.eq_false_iff.mpr c14
  subst c14; have H1 : (some false) = some r := by rw [if_neg (show ¬ (false = true) by decide)] at H; exact H
  clear H; have H := H1; clear H1; exact absurd ((Option.some.inj H).trans hrt_.out) (by decide)
 subst c14; have H1 : ((lines_Rows.f k t526 t529 t540).bind fun t549 => ((r3_Rows.f k t526 t529 t544).bind fun t552 => ((r3_SameLayouts.f k t549 false t552 false).bind fun t555 => (some t555)))) = some r := by rw [if_pos rfl] at H; exact H
 clear H; have H := H1; clear H1; replace H := Option.bind_eq_some_iff.mp H; obtain ⟨t549, A150, H⟩ := H; replace H : ((r3_Rows.f k t526 t529 t544).bind fun t552 => ((r3_SameLayouts.f k t549 false t552 false).bind fun t555 => (some t555))) = some r := H
 have A15 := zA.mk A150; clear A150; replace H := Option.bind_eq_some_iff.mp H; obtain ⟨t552, A160, H⟩ := H; replace H : ((r3_SameLayouts.f k t549 false t552 false).bind fun t555 => (some t555)) = some r := H
 have A16 := zA.mk A160; clear A160; replace H := Option.bind_eq_some_iff.mp H; obtain ⟨t555, A170, H⟩ := H; replace H : (some t555) = some r := H; have A17 := zA.mk A170; clear A170; obtain rfl := Option.some.inj H
 go_enter Try.func3, Try.ntmps3
 try go_wp2_with (first | ((with_reducible refine gate_dst (N := 3) rfl ?_); refine box_event ?hg (N := 3) ?hd (cs := #[.int .u8 a1_0, .int .u8 a1_1, .int .u8 a1_2, .int .u16 a1_3, .int .u16 a1_4, .float .f64 a1_5]) (t := 26) ?hr ?_; (case hd => rfl); (case hg => rfl); (case hr => first | (go_simp; done) | (go_simp; rfl)); intro gb524 hg w18 hbox hb; have n0_ := zA.mk (zD (aL HB) hb); have n1_ := zA.mk (hbox); have n2_ := zA.mk ((by rw [hg]; exact (zH (aL HB)) : w.heap.size ≤ gb524)); have n3_ := zA.mk ((by rw [hg]; exact (zH (aL HB)) : w.heap.size ≤ gb524)); clear HB; have HB := n0_; have BK524 := n1_; have GW524 := n2_; have GE524 := n3_; clear n0_ n1_ n2_ n3_; clear hb hbox hg) | ((with_reducible refine gate_callee (f := 9) rfl ?_); refine goesL_ (some 11) rfl rfl Try.func9 (by kernel_rfl) rfl #[] rfl aT ?_; (with_reducible refine (l6_Awake.calls k  true _ A3.out (by first | exact ⟨rfl⟩ | exact hrt_)).mono ?_); rintro e w19 ⟨rfl, hb⟩; refine ⟨_, rfl, ?_⟩; have n0_ := zA.mk (zC (g := gb524) (o := .cells #[.int .u8 a1_0, .int .u8 a1_1, .int .u8 a1_2, .int .u16 a1_3, .int .u16 a1_4, .float .f64 a1_5] 26 (0, 0)) (aB BK524) hb); have n1_ := zA.mk (zD (aL HB) hb); clear BK524; clear HB; have BK524 := n0_; have HB := n1_; clear n0_ n1_; (try clear hb); (try clear hb2); (try clear hk); (try clear hi)))
 have n0_ := zA.mk (zF BK524.out); have n1_ := zA.mk (below_drew1 HB.out); clear BK524; clear HB; have BK524 := n0_; have HB := n1_; clear n0_ n1_; refine start_ (n := 8) (S := fun w' => w'.cell? ⟨gb524, 0, none⟩ = some (.int .u8 a1_0) ∧ w'.cell? ⟨gb524, 1, none⟩ = some (.int .u8 a1_1) ∧ w'.cell? ⟨gb524, 2, none⟩ = some (.int .u8 a1_2) ∧ w'.cell? ⟨gb524, 3, none⟩ = some (.int .u16 a1_3) ∧ w'.cell? ⟨gb524, 4, none⟩ = some (.int .u16 a1_4) ∧ w'.cell? ⟨gb524, 5, none⟩ = some (.float .f64 a1_5)) (ds := []) #[false, false, false, false, false, false, false, false] (by kernel_rfl) rfl rfl ⟨(zB BK524.out 0).trans rfl, (zB BK524.out 1).trans rfl, (zB BK524.out 2).trans rfl, (zB BK524.out 3).trans rfl, (zB BK524.out 4).trans rfl, (zB BK524.out 5).trans rfl⟩ (fun hHeld => ?_); refine with_tabW l6_LinesBreaks.tab5 l6_LinesBreaks.bits5 (fun HT_ HW_ => ?_)
 generalize w19.drew = w20 at BK524 HB hHeld ⊢
 refine aP 0 (some 16) (tf_ 1 8) HT_ ?_
 refine take_ (i := 2) (N := some 18) (v := ?_) (a' := ?_) #[true, false, true, false, false, false, false, false] rfl rfl (take_ofW HT_.out HW_.out (by kernel_rfl)) (fun _ _ _ h => h) (Or.inl ⟨by rfl, ?_⟩) hHeld ?_ ?_
 rotate_left
 ·rintro w' ⟨s0, s1, s2, s3, s4, s5⟩
  go_simp
  with_reducible rfl
 rotate_left
 ·simp only [Act.put, sA_, sB_, sC_, i64_w, i32_w]
  rfl
 refine join_ (σ := Value × Value × Nat × Nat) 2 #[true, true, true, true, true, true, false, false] (fun s_ => [(17, .agg #[s_.1, s_.2.1]), (19, .agg #[.int .i64 t532, .int .i64 t533, .int .u8 t534, .int .i64 t535, .int .i64 t536, .float .f64 t537]), (5, .pointer (some ⟨s_.2.2.1, 0, none⟩)), (6, .pointer (some ⟨s_.2.2.2, 0, none⟩))]) (fun s_ w' => (w'.cell? ⟨gb524, 0, none⟩ = some (.int .u8 a1_0) ∧ w'.cell? ⟨gb524, 1, none⟩ = some (.int .u8 a1_1) ∧ w'.cell? ⟨gb524, 2, none⟩ = some (.int .u8 a1_2) ∧ w'.cell? ⟨gb524, 3, none⟩ = some (.int .u16 a1_3) ∧ w'.cell? ⟨gb524, 4, none⟩ = some (.int .u16 a1_4) ∧ w'.cell? ⟨gb524, 5, none⟩ = some (.float .f64 a1_5)) ∧ (Kd.R k66 66 w' w.heap.size (fun _ => True) s_.1 t526) ∧ (Kd.R (Kd.int .u8) 51 w' w.heap.size (fun _ => True) s_.2.1 t529) ∧ (w'.heap[gb524]? = some (.cells #[.int .u8 a1_0, .int .u8 a1_1, .int .u8 a1_2, .int .u16 a1_3, .int .u16 a1_4, .float .f64 a1_5] 26 (0, 0))) ∧ (w'.heap[s_.2.2.1]? = some (.cells #[.slice none 0 0, .slice none 0 0] 31 (0, 0))) ∧ (w'.heap[s_.2.2.2]? = some (.cells #[.int .i64 0, .int .i64 0, .int .u8 0, .int .i64 0, .int .i64 0, .float .f64 0] 35 (0, 0))) ∧ (w.heap.size ≤ s_.2.2.1) ∧ (w.heap.size ≤ s_.2.2.1) ∧ (gb524 ≠ s_.2.2.1) ∧ (s_.2.2.1 ≠ gb524) ∧ (s_.2.2.2 ≠ s_.2.2.1) ∧ (s_.2.2.1 ≠ s_.2.2.2) ∧ (w.heap.size ≤ s_.2.2.2) ∧ (w.heap.size ≤ s_.2.2.2) ∧ (gb524 ≠ s_.2.2.2) ∧ (s_.2.2.2 ≠ gb524) ∧ (Below w.heap.size w w')) ?_ ?_
 rotate_left
 ·intro hJ1_3_4_5
  refine par4_ (fuel := 2) (l' := #[true, true, true, true, true, true, false, false]) (i1 := 1) (i3 := 3) (i4 := 4) (i5 := 5) (σ := Value × Value) (cs4 := #[.slice none 0 0, .slice none 0 0]) (t4 := 31) (cs5 := #[.int .i64 0, .int .i64 0, .int .u8 0, .int .i64 0, .int .i64 0, .float .f64 0]) (t5 := 35) (fun s_ => .agg #[s_.1, s_.2]) (.agg #[.int .i64 t532, .int .i64 t533, .int .u8 t534, .int .i64 t535, .int .i64 t536, .float .f64 t537]) (par4_of HT_.out (by kernel_rfl)) rfl rfl rfl rfl rfl rfl rfl rfl rfl rfl (by decide) rfl (fun w_ => (w_.cell? ⟨gb524, 0, none⟩ = some (.int .u8 a1_0) ∧ w_.cell? ⟨gb524, 1, none⟩ = some (.int .u8 a1_1) ∧ w_.cell? ⟨gb524, 2, none⟩ = some (.int .u8 a1_2) ∧ w_.cell? ⟨gb524, 3, none⟩ = some (.int .u16 a1_3) ∧ w_.cell? ⟨gb524, 4, none⟩ = some (.int .u16 a1_4) ∧ w_.cell? ⟨gb524, 5, none⟩ = some (.float .f64 a1_5)) ∧ (w_.heap[gb524]? = some (.cells #[.int .u8 a1_0, .int .u8 a1_1, .int .u8 a1_2, .int .u16 a1_3, .int .u16 a1_4, .float .f64 a1_5] 26 (0, 0))) ∧ (Below w.heap.size w w_)) ?pgrow (fun _ hP_ => hP_.1) (fun s_ w_ => (Kd.R k66 66 w_ w.heap.size (fun _ => True) s_.1 t526) ∧ (Kd.R (Kd.int .u8) 51 w_ w.heap.size (fun _ => True) s_.2 t529)) ?pF (fun g_ => (w.heap.size ≤ g_) ∧ (gb524 ≠ g_) ∧ (g_ ≠ gb524)) ?pNew ?pc1 ?pc3 ?pc4 ?pc5 ?pPhi ?pcont
  case pgrow =>
   intro w0_ w1_ hP_ hb_; obtain ⟨hS_, k0_, k1_⟩ := hP_; have BK524 := zA.mk (by first | exact Kd.zR k0_ hb_ | exact zC k0_ hb_ | exact zD k0_ hb_); have HB := zA.mk (by first | exact Kd.zR k1_ hb_ | exact zC k1_ hb_ | exact zD k1_ hb_)
   exact ⟨⟨(zB BK524.out 0).trans rfl, (zB BK524.out 1).trans rfl, (zB BK524.out 2).trans rfl, (zB BK524.out 3).trans rfl, (zB BK524.out 4).trans rfl, (zB BK524.out 5).trans rfl⟩, BK524.out, HB.out⟩
  case pF => intro s_ w0_ w1_ hP_ hb_; obtain ⟨f0_, f1_⟩ := hP_; exact ⟨(by first | exact Kd.zR f0_ hb_ | exact zC f0_ hb_ | exact zD f0_ hb_), (by first | exact Kd.zR f1_ hb_ | exact zC f1_ hb_ | exact zD f1_ hb_)⟩
  case pNew => intro w0_ hP_; obtain ⟨hS_, k0_, k1_⟩ := hP_; (try have l0_ := blk_lt k0_); (try have m0_ := zH k0_); (try have l1_ := blk_lt k1_); (try have m1_ := zH k1_); refine ⟨?_, ?_, ?_⟩ <;> omega
  case pc1 =>
   intro a_ W_ K_ hev_ hP_ h_; obtain ⟨hS_, k0_, k1_⟩ := hP_; have BK524 := zA.mk k0_; have HB := zA.mk k1_
   refine goes_ Try.func10 (by kernel_rfl) rfl #[.slice A0 l0.length c0] (by rfl) rfl rfl (by simp only [List.map_toArray, List.map_cons, List.map_nil]; first | rfl | (simp (disch := decide) only [hev_]; rfl) | (rw [hev_ _ (by decide) (by decide) (by decide) (by decide)]; rfl)) ?_
   with_reducible refine (h3_Para.calls k _ _ l0 t526 t529 _ ?side1 ?side2 A8.out).mono ?_
   (case side1 => exact aA HR0 HB)
   (case side2 => exact HC0.out)
   rintro e w21 ⟨v527, v530, rfl, ho0, ho1, hb⟩
   refine ⟨_, rfl, ?_⟩
   exact h_ (v527, v530) _ hb ⟨(Kd.zU ho0 (zH (aL HB))), (Kd.zU ho1 (zH (aL HB)))⟩
  case pc3 =>
   intro a_ W_ K_ hev_ hP_ h_; obtain ⟨hS_, k0_, k1_⟩ := hP_; have BK524 := zA.mk k0_; have HB := zA.mk k1_
   refine goes_ Try.func11 (by kernel_rfl) rfl #[.agg #[.int .u8 a1_0, .int .u8 a1_1, .int .u8 a1_2, .int .u16 a1_3, .int .u16 a1_4, .float .f64 a1_5]] (by rfl) rfl rfl (by simp only [List.map_toArray, List.map_cons, List.map_nil]; first | rfl | (simp (disch := decide) only [hev_]; rfl) | (rw [hev_ _ (by decide) (by decide) (by decide) (by decide)]; rfl)) ?_
   with_reducible refine (h3_Config.calls a1_0 a1_1 a1_2 a1_3 a1_4 a1_5 t532 t533 t534 t535 t536 t537 _ A9.out).mono ?_
   rintro e w23 ⟨rfl, hb⟩
   refine ⟨_, rfl, ?_⟩
   exact h_ _ hb
  case pc4 => intro a_ W_; first | (go_simp; done) | (go_simp; rfl)
  case pc5 => intro a_ W_; first | (go_simp; done) | (go_simp; rfl)
  case pPhi => exact ⟨hHeld, BK524.out, HB.out⟩
  case pcont => intro s_ gb538 gb539 w25 hP_ hF_ y4_ y5_ x4_ x5_ he_; obtain ⟨hS_, k0_, k1_⟩ := hP_; obtain ⟨v527, v530⟩ := s_; obtain ⟨f0_, f1_⟩ := hF_; exact hJ1_3_4_5 (v527, v530, gb538, gb539) _ ⟨hS_, f0_, f1_, k0_, y4_, y5_, x4_.1, x4_.1, x4_.2.1, x4_.2.2, (Ne.symm he_), he_, x5_.1, x5_.1, x5_.2.1, x5_.2.2, k1_⟩
 rintro ⟨v527, v530, gb538, gb539⟩ w25 ⟨hS_, h0_, h1_, h2_, h3_, h4_, h5_, h6_, h7_, h8_, h9_, h10_, h11_, h12_, h13_, h14_, h15_⟩
 have n0_ : zA (Kd.R k66 66 w25 w.heap.size (fun _ => True) v527 t526) := ⟨h0_⟩
 have n1_ : zA (Kd.R (Kd.int .u8) 51 w25 w.heap.size (fun _ => True) v530 t529) := ⟨h1_⟩
 have n2_ : zA (w25.heap[gb524]? = some (.cells #[.int .u8 a1_0, .int .u8 a1_1, .int .u8 a1_2, .int .u16 a1_3, .int .u16 a1_4, .float .f64 a1_5] 26 (0, 0))) := ⟨h2_⟩
 have n3_ : zA (w25.heap[gb538]? = some (.cells #[.slice none 0 0, .slice none 0 0] 31 (0, 0))) := ⟨h3_⟩
 have n4_ : zA (w25.heap[gb539]? = some (.cells #[.int .i64 0, .int .i64 0, .int .u8 0, .int .i64 0, .int .i64 0, .float .f64 0] 35 (0, 0))) := ⟨h4_⟩
 have n5_ : zA (w.heap.size ≤ gb538) := ⟨h5_⟩
 have n6_ : zA (w.heap.size ≤ gb538) := ⟨h6_⟩
 have n7_ : zA (gb524 ≠ gb538) := ⟨h7_⟩
 have n8_ : zA (gb538 ≠ gb524) := ⟨h8_⟩
 have n9_ : zA (gb539 ≠ gb538) := ⟨h9_⟩
 have n10_ : zA (gb538 ≠ gb539) := ⟨h10_⟩
 have n11_ : zA (w.heap.size ≤ gb539) := ⟨h11_⟩
 have n12_ : zA (w.heap.size ≤ gb539) := ⟨h12_⟩
 have n13_ : zA (gb524 ≠ gb539) := ⟨h13_⟩
 have n14_ : zA (gb539 ≠ gb524) := ⟨h14_⟩
 have n15_ : zA (Below w.heap.size w w25) := ⟨h15_⟩
 clear BK524 HB h0_ h1_ h2_ h3_ h4_ h5_ h6_ h7_ h8_ h9_ h10_ h11_ h12_ h13_ h14_ h15_; have HO528 := n0_; have HO531 := n1_; have BK524 := n2_; have BK538 := n3_; have BK539 := n4_; have GW538 := n5_; have GE538 := n6_; have NB524_538 := n7_; have NB538_524 := n8_; have NB539_538 := n9_; have NB538_539 := n10_; have GW539 := n11_; have GE539 := n12_; have NB524_539 := n13_; have NB539_524 := n14_; have HB := n15_; clear n0_ n1_ n2_ n3_ n4_ n5_ n6_ n7_ n8_ n9_ n10_ n11_ n12_ n13_ n14_ n15_; have hHeld : w25.cell? ⟨gb524, 0, none⟩ = some (.int .u8 a1_0) ∧ w25.cell? ⟨gb524, 1, none⟩ = some (.int .u8 a1_1) ∧ w25.cell? ⟨gb524, 2, none⟩ = some (.int .u8 a1_2) ∧ w25.cell? ⟨gb524, 3, none⟩ = some (.int .u16 a1_3) ∧ w25.cell? ⟨gb524, 4, none⟩ = some (.int .u16 a1_4) ∧ w25.cell? ⟨gb524, 5, none⟩ = some (.float .f64 a1_5) := hS_
 obtain ⟨Ao26, co26, eo26⟩ := Kd.zT HO528.out; (first | subst eo26 | (injection eo26 with f1_ f2_ f3_; have f4_ := f1_.symm; have f5_ := f3_.symm; clear f1_ f2_ f3_; subst f4_; subst f5_))
 obtain ⟨Ao28, co28, eo28⟩ := Kd.zT HO531.out; (first | subst eo28 | (injection eo28 with f1_ f2_ f3_; have f4_ := f1_.symm; have f5_ := f3_.symm; clear f1_ f2_ f3_; subst f4_; subst f5_))
 refine norm_ (a' := ?_) ?_ ?_
 rotate_left
 ·simp only [putAll, Act.put, sA_, sB_, sC_]
  rfl
 refine one_ (i := 6) (N := none) #[true, true, true, true, true, true, true, false] rfl rfl (one_of HT_.out (by kernel_rfl)) (by decide) (fun K hK => ?_)
 have hs27 : w25.cell? ⟨gb538, 0, none⟩ = some (.slice none 0 0) := (zB BK538.out 0).trans rfl
 have hfs27 := blk_frozen BK538.out 0; have hns27_0 := NB524_538.out; have hns27_2 := NB539_538.out; have hms27_0 := NB538_524.out; have hms27_2 := NB538_539.out; have hs29 : w25.cell? ⟨gb538, 1, none⟩ = some (.slice none 0 0) := (zB BK538.out 1).trans rfl
 have hfs29 := blk_frozen BK538.out 1; have hns29_0 := NB524_538.out; have hns29_2 := NB539_538.out; have hms29_0 := NB538_524.out; have hms29_2 := NB538_539.out; refine skip_ (w1 := ?_) (by rfl) rfl ?_ ?_
 rotate_left
 ·go_simp
  rfl
 refine hK.out _ _ ⟨((zG (p := ⟨gb538, _, none⟩) NB524_538.out _).trans (((zG (p := ⟨gb538, _, none⟩) NB524_538.out _).trans (hHeld.1)))), ((zG (p := ⟨gb538, _, none⟩) NB524_538.out _).trans (((zG (p := ⟨gb538, _, none⟩) NB524_538.out _).trans (hHeld.2.1)))), ((zG (p := ⟨gb538, _, none⟩) NB524_538.out _).trans (((zG (p := ⟨gb538, _, none⟩) NB524_538.out _).trans (hHeld.2.2.1)))), ((zG (p := ⟨gb538, _, none⟩) NB524_538.out _).trans (((zG (p := ⟨gb538, _, none⟩) NB524_538.out _).trans (hHeld.2.2.2.1)))), ((zG (p := ⟨gb538, _, none⟩) NB524_538.out _).trans (((zG (p := ⟨gb538, _, none⟩) NB524_538.out _).trans (hHeld.2.2.2.2.1)))), ((zG (p := ⟨gb538, _, none⟩) NB524_538.out _).trans (((zG (p := ⟨gb538, _, none⟩) NB524_538.out _).trans (hHeld.2.2.2.2.2))))⟩ (fun hHeld => ?_)
 clear hK K; refine one_ (i := 7) (N := none) #[true, true, true, true, true, true, true, true] rfl rfl (one_of HT_.out (by kernel_rfl)) (by decide) (fun K hK => ?_)
 have hs30 : w25.cell? ⟨gb539, 0, none⟩ = some (.int .i64 0) := (zB BK539.out 0).trans rfl
 have hfs30 := blk_frozen BK539.out 0; have hns30_0 := NB524_539.out; have hns30_1 := NB538_539.out; have hms30_0 := NB539_524.out; have hms30_1 := NB539_538.out; have hs31 : w25.cell? ⟨gb539, 1, none⟩ = some (.int .i64 0) := (zB BK539.out 1).trans rfl
 have hfs31 := blk_frozen BK539.out 1; have hns31_0 := NB524_539.out; have hns31_1 := NB538_539.out; have hms31_0 := NB539_524.out; have hms31_1 := NB539_538.out; have hs32 : w25.cell? ⟨gb539, 2, none⟩ = some (.int .u8 0) := (zB BK539.out 2).trans rfl
 have hfs32 := blk_frozen BK539.out 2; have hns32_0 := NB524_539.out; have hns32_1 := NB538_539.out; have hms32_0 := NB539_524.out; have hms32_1 := NB539_538.out; have hs33 : w25.cell? ⟨gb539, 3, none⟩ = some (.int .i64 0) := (zB BK539.out 3).trans rfl
 have hfs33 := blk_frozen BK539.out 3; have hns33_0 := NB524_539.out; have hns33_1 := NB538_539.out; have hms33_0 := NB539_524.out; have hms33_1 := NB539_538.out; have hs34 : w25.cell? ⟨gb539, 4, none⟩ = some (.int .i64 0) := (zB BK539.out 4).trans rfl
 have hfs34 := blk_frozen BK539.out 4; have hns34_0 := NB524_539.out; have hns34_1 := NB538_539.out; have hms34_0 := NB539_524.out; have hms34_1 := NB539_538.out; have hs35 : w25.cell? ⟨gb539, 5, none⟩ = some (.float .f64 0) := (zB BK539.out 5).trans rfl
 have hfs35 := blk_frozen BK539.out 5; have hns35_0 := NB524_539.out; have hns35_1 := NB538_539.out; have hms35_0 := NB539_524.out; have hms35_1 := NB539_538.out; refine skip_ (w1 := ?_) (by rfl) rfl ?_ ?_
 rotate_left
 ·go_simp
  rfl
 refine hK.out _ _ ⟨((zG (p := ⟨gb539, _, none⟩) NB524_539.out _).trans (((zG (p := ⟨gb539, _, none⟩) NB524_539.out _).trans (((zG (p := ⟨gb539, _, none⟩) NB524_539.out _).trans (((zG (p := ⟨gb539, _, none⟩) NB524_539.out _).trans (((zG (p := ⟨gb539, _, none⟩) NB524_539.out _).trans (((zG (p := ⟨gb539, _, none⟩) NB524_539.out _).trans (hHeld.1)))))))))))), ((zG (p := ⟨gb539, _, none⟩) NB524_539.out _).trans (((zG (p := ⟨gb539, _, none⟩) NB524_539.out _).trans (((zG (p := ⟨gb539, _, none⟩) NB524_539.out _).trans (((zG (p := ⟨gb539, _, none⟩) NB524_539.out _).trans (((zG (p := ⟨gb539, _, none⟩) NB524_539.out _).trans (((zG (p := ⟨gb539, _, none⟩) NB524_539.out _).trans (hHeld.2.1)))))))))))), ((zG (p := ⟨gb539, _, none⟩) NB524_539.out _).trans (((zG (p := ⟨gb539, _, none⟩) NB524_539.out _).trans (((zG (p := ⟨gb539, _, none⟩) NB524_539.out _).trans (((zG (p := ⟨gb539, _, none⟩) NB524_539.out _).trans (((zG (p := ⟨gb539, _, none⟩) NB524_539.out _).trans (((zG (p := ⟨gb539, _, none⟩) NB524_539.out _).trans (hHeld.2.2.1)))))))))))), ((zG (p := ⟨gb539, _, none⟩) NB524_539.out _).trans (((zG (p := ⟨gb539, _, none⟩) NB524_539.out _).trans (((zG (p := ⟨gb539, _, none⟩) NB524_539.out _).trans (((zG (p := ⟨gb539, _, none⟩) NB524_539.out _).trans (((zG (p := ⟨gb539, _, none⟩) NB524_539.out _).trans (((zG (p := ⟨gb539, _, none⟩) NB524_539.out _).trans (hHeld.2.2.2.1)))))))))))), ((zG (p := ⟨gb539, _, none⟩) NB524_539.out _).trans (((zG (p := ⟨gb539, _, none⟩) NB524_539.out _).trans (((zG (p := ⟨gb539, _, none⟩) NB524_539.out _).trans (((zG (p := ⟨gb539, _, none⟩) NB524_539.out _).trans (((zG (p := ⟨gb539, _, none⟩) NB524_539.out _).trans (((zG (p := ⟨gb539, _, none⟩) NB524_539.out _).trans (hHeld.2.2.2.2.1)))))))))))), ((zG (p := ⟨gb539, _, none⟩) NB524_539.out _).trans (((zG (p := ⟨gb539, _, none⟩) NB524_539.out _).trans (((zG (p := ⟨gb539, _, none⟩) NB524_539.out _).trans (((zG (p := ⟨gb539, _, none⟩) NB524_539.out _).trans (((zG (p := ⟨gb539, _, none⟩) NB524_539.out _).trans (((zG (p := ⟨gb539, _, none⟩) NB524_539.out _).trans (hHeld.2.2.2.2.2))))))))))))⟩ (fun hHeld => ?_)
 clear hK K; refine done_ (done_of HT_.out (by kernel_rfl)) ?_
 have hnb36 := NB538_524.out; have hnc36 := NB524_538.out; have hnb37 := NB538_539.out; have hnc37 := NB539_538.out; obtain ⟨hcz38_0, hcz38_1, hfz38_0, hfz38_1⟩ := aC2 BK538; have hnb39 := NB539_524.out; have hnc39 := NB524_539.out; obtain ⟨hcz40_0, hcz40_1, hcz40_2, hcz40_3, hcz40_4, hcz40_5, hfz40_0, hfz40_1, hfz40_2, hfz40_3, hfz40_4, hfz40_5⟩ := aC6 BK539; try go_wp2_with (first | ((with_reducible refine gate_callee (f := 12) rfl ?_); refine goesL_ (some 23) rfl rfl Try.func12 (by kernel_rfl) rfl #[.agg #[.slice Ao26 t526.length co26, .slice Ao28 t529.length co28], .agg #[.int .i64 t532, .int .i64 t533, .int .u8 t534, .int .i64 t535, .int .i64 t536, .float .f64 t537]] rfl aT ?_; (with_reducible refine (lines_Break.calls k _ _ t526 _ _ t529 t532 t533 t534 t535 t536 t537 t540 t543 _ ?side1 ?side2 ?side3 ?side4 A10.out).mono ?_); (case side1 => refine (Kd.zQ (e := 66) (base := w.heap.size) (ok := fun k_ => True) (n := t526.length) (c := co26) ?_).2.2; exact (by (with_reducible repeat (first | apply Kd.zJ | apply Kd.zK | apply Kd.zL)); exact (Kd.zV (Kd.zV (Kd.zS (p := ⟨gb539, 5, none⟩) (Kd.zS (p := ⟨gb539, 4, none⟩) (Kd.zS (p := ⟨gb539, 3, none⟩) (Kd.zS (p := ⟨gb539, 2, none⟩) (Kd.zS (p := ⟨gb539, 1, none⟩) (Kd.zS (p := ⟨gb539, 0, none⟩) (Kd.zS (p := ⟨gb538, 1, none⟩) (Kd.zS (p := ⟨gb538, 0, none⟩) (Kd.zW (Kd.zW HO528.out BK538.out (by decide)) BK539.out (by decide)) (fun _ hk => hk.1.2) (.slice Ao26 t526.length co26)) (fun _ hk => hk.1.2) (.slice Ao28 t529.length co28)) (fun _ hk => hk.2) (.int .i64 t532)) (fun _ hk => hk.2) (.int .i64 t533)) (fun _ hk => hk.2) (.int .u8 t534)) (fun _ hk => hk.2) (.int .i64 t535)) (fun _ hk => hk.2) (.int .i64 t536)) (fun _ hk => hk.2) (.float .f64 t537)) (fun _ h_ => h_.1)) (fun _ h_ => h_.1)))); (case side2 => exact (Kd.zQ HO528.out).2.1); (case side3 => refine (Kd.zQ (e := 51) (base := w.heap.size) (ok := fun k_ => True) (n := t529.length) (c := co28) ?_).2.2; exact (by (with_reducible repeat (first | apply Kd.zJ | apply Kd.zK | apply Kd.zL)); exact (Kd.zV (Kd.zV (Kd.zS (p := ⟨gb539, 5, none⟩) (Kd.zS (p := ⟨gb539, 4, none⟩) (Kd.zS (p := ⟨gb539, 3, none⟩) (Kd.zS (p := ⟨gb539, 2, none⟩) (Kd.zS (p := ⟨gb539, 1, none⟩) (Kd.zS (p := ⟨gb539, 0, none⟩) (Kd.zS (p := ⟨gb538, 1, none⟩) (Kd.zS (p := ⟨gb538, 0, none⟩) (Kd.zW (Kd.zW HO531.out BK538.out (by decide)) BK539.out (by decide)) (fun _ hk => hk.1.2) (.slice Ao26 t526.length co26)) (fun _ hk => hk.1.2) (.slice Ao28 t529.length co28)) (fun _ hk => hk.2) (.int .i64 t532)) (fun _ hk => hk.2) (.int .i64 t533)) (fun _ hk => hk.2) (.int .u8 t534)) (fun _ hk => hk.2) (.int .i64 t535)) (fun _ hk => hk.2) (.int .i64 t536)) (fun _ hk => hk.2) (.float .f64 t537)) (fun _ h_ => h_.1)) (fun _ h_ => h_.1)))); (case side4 => exact (Kd.zQ HO531.out).2.1); rintro e w41 ⟨v541, rfl, ho0, hb⟩; refine ⟨_, rfl, ?_⟩; have n0_ := zA.mk (Kd.zR (by (with_reducible repeat (first | apply Kd.zJ | apply Kd.zK | apply Kd.zL)); exact (Kd.zV (Kd.zV (Kd.zS (p := ⟨gb539, 5, none⟩) (Kd.zS (p := ⟨gb539, 4, none⟩) (Kd.zS (p := ⟨gb539, 3, none⟩) (Kd.zS (p := ⟨gb539, 2, none⟩) (Kd.zS (p := ⟨gb539, 1, none⟩) (Kd.zS (p := ⟨gb539, 0, none⟩) (Kd.zS (p := ⟨gb538, 1, none⟩) (Kd.zS (p := ⟨gb538, 0, none⟩) (Kd.zW (Kd.zW HO528.out BK538.out (by decide)) BK539.out (by decide)) (fun _ hk => hk.1.2) (.slice Ao26 t526.length co26)) (fun _ hk => hk.1.2) (.slice Ao28 t529.length co28)) (fun _ hk => hk.2) (.int .i64 t532)) (fun _ hk => hk.2) (.int .i64 t533)) (fun _ hk => hk.2) (.int .u8 t534)) (fun _ hk => hk.2) (.int .i64 t535)) (fun _ hk => hk.2) (.int .i64 t536)) (fun _ hk => hk.2) (.float .f64 t537)) (fun _ h_ => h_.1)) (fun _ h_ => h_.1))) hb); have n1_ := zA.mk (Kd.zR (by (with_reducible repeat (first | apply Kd.zJ | apply Kd.zK | apply Kd.zL)); exact (Kd.zV (Kd.zV (Kd.zS (p := ⟨gb539, 5, none⟩) (Kd.zS (p := ⟨gb539, 4, none⟩) (Kd.zS (p := ⟨gb539, 3, none⟩) (Kd.zS (p := ⟨gb539, 2, none⟩) (Kd.zS (p := ⟨gb539, 1, none⟩) (Kd.zS (p := ⟨gb539, 0, none⟩) (Kd.zS (p := ⟨gb538, 1, none⟩) (Kd.zS (p := ⟨gb538, 0, none⟩) (Kd.zW (Kd.zW HO531.out BK538.out (by decide)) BK539.out (by decide)) (fun _ hk => hk.1.2) (.slice Ao26 t526.length co26)) (fun _ hk => hk.1.2) (.slice Ao28 t529.length co28)) (fun _ hk => hk.2) (.int .i64 t532)) (fun _ hk => hk.2) (.int .i64 t533)) (fun _ hk => hk.2) (.int .u8 t534)) (fun _ hk => hk.2) (.int .i64 t535)) (fun _ hk => hk.2) (.int .i64 t536)) (fun _ hk => hk.2) (.float .f64 t537)) (fun _ h_ => h_.1)) (fun _ h_ => h_.1))) hb); have n2_ := zA.mk (Kd.zU ho0 (zH (aL HB))); have n3_ := zA.mk (zC (g := gb524) (o := .cells #[.int .u8 a1_0, .int .u8 a1_1, .int .u8 a1_2, .int .u16 a1_3, .int .u16 a1_4, .float .f64 a1_5] 26 (0, 0)) (aB BK524) hb); have n4_ := zA.mk (zC (g := gb538) (o := .cells #[.slice Ao26 t526.length co26, .slice Ao28 t529.length co28] 31 (0, 0)) (by (with_reducible repeat (first | refine zI ?_ _ | refine zF ?_ | refine zE ?_ _)); refine blk_far ?_ NB538_539.out _; (with_reducible repeat (first | refine zI ?_ _ | refine zF ?_ | refine zE ?_ _)); refine blk_far ?_ NB538_539.out _; (with_reducible repeat (first | refine zI ?_ _ | refine zF ?_ | refine zE ?_ _)); refine blk_far ?_ NB538_539.out _; (with_reducible repeat (first | refine zI ?_ _ | refine zF ?_ | refine zE ?_ _)); refine blk_far ?_ NB538_539.out _; (with_reducible repeat (first | refine zI ?_ _ | refine zF ?_ | refine zE ?_ _)); refine blk_far ?_ NB538_539.out _; (with_reducible repeat (first | refine zI ?_ _ | refine zF ?_ | refine zE ?_ _)); refine blk_far ?_ NB538_539.out _; (with_reducible repeat (first | refine zI ?_ _ | refine zF ?_ | refine zE ?_ _)); refine blk_put (cs := #[.slice Ao26 t526.length co26, .slice none 0 0]) ?_ 1 _ rfl; (with_reducible repeat (first | refine zI ?_ _ | refine zF ?_ | refine zE ?_ _)); refine blk_put (cs := #[.slice none 0 0, .slice none 0 0]) ?_ 0 _ rfl; (with_reducible repeat (first | refine zI ?_ _ | refine zF ?_ | refine zE ?_ _)); exact BK538.out) hb); have n5_ := zA.mk (zC (g := gb539) (o := .cells #[.int .i64 t532, .int .i64 t533, .int .u8 t534, .int .i64 t535, .int .i64 t536, .float .f64 t537] 35 (0, 0)) (by (with_reducible repeat (first | refine zI ?_ _ | refine zF ?_ | refine zE ?_ _)); refine blk_put (cs := #[.int .i64 t532, .int .i64 t533, .int .u8 t534, .int .i64 t535, .int .i64 t536, .float .f64 0]) ?_ 5 _ rfl; (with_reducible repeat (first | refine zI ?_ _ | refine zF ?_ | refine zE ?_ _)); refine blk_put (cs := #[.int .i64 t532, .int .i64 t533, .int .u8 t534, .int .i64 t535, .int .i64 0, .float .f64 0]) ?_ 4 _ rfl; (with_reducible repeat (first | refine zI ?_ _ | refine zF ?_ | refine zE ?_ _)); refine blk_put (cs := #[.int .i64 t532, .int .i64 t533, .int .u8 t534, .int .i64 0, .int .i64 0, .float .f64 0]) ?_ 3 _ rfl; (with_reducible repeat (first | refine zI ?_ _ | refine zF ?_ | refine zE ?_ _)); refine blk_put (cs := #[.int .i64 t532, .int .i64 t533, .int .u8 0, .int .i64 0, .int .i64 0, .float .f64 0]) ?_ 2 _ rfl; (with_reducible repeat (first | refine zI ?_ _ | refine zF ?_ | refine zE ?_ _)); refine blk_put (cs := #[.int .i64 t532, .int .i64 0, .int .u8 0, .int .i64 0, .int .i64 0, .float .f64 0]) ?_ 1 _ rfl; (with_reducible repeat (first | refine zI ?_ _ | refine zF ?_ | refine zE ?_ _)); refine blk_put (cs := #[.int .i64 0, .int .i64 0, .int .u8 0, .int .i64 0, .int .i64 0, .float .f64 0]) ?_ 0 _ rfl; (with_reducible repeat (first | refine zI ?_ _ | refine zF ?_ | refine zE ?_ _)); refine blk_far ?_ NB539_538.out _; (with_reducible repeat (first | refine zI ?_ _ | refine zF ?_ | refine zE ?_ _)); refine blk_far ?_ NB539_538.out _; (with_reducible repeat (first | refine zI ?_ _ | refine zF ?_ | refine zE ?_ _)); exact BK539.out) hb); have n6_ := zA.mk (zD (aL HB) hb); clear HO528; clear HO531; clear BK524; clear BK538; clear BK539; clear HB; have HO528 := n0_; have HO531 := n1_; have HO542 := n2_; have BK524 := n3_; have BK538 := n4_; have BK539 := n5_; have HB := n6_; clear n0_ n1_ n2_ n3_ n4_ n5_ n6_; (try clear hb); (try clear hb2); (try clear hk); (try clear hi); (try clear ho0); obtain ⟨hcz42_0, hcz42_1, hfz42_0, hfz42_1⟩ := aC2 BK538; obtain ⟨hcz43_0, hcz43_1, hcz43_2, hcz43_3, hcz43_4, hcz43_5, hfz43_0, hfz43_1, hfz43_2, hfz43_3, hfz43_4, hfz43_5⟩ := aC6 BK539) | ((with_reducible refine gate_callee (f := 13) rfl ?_); refine goesL_ (some 29) rfl rfl Try.func13 (by kernel_rfl) rfl #[.agg #[.slice Ao26 t526.length co26, .slice Ao28 t529.length co28], .agg #[.int .i64 t532, .int .i64 t533, .int .u8 t534, .int .i64 t535, .int .i64 t536, .float .f64 t537]] rfl aT ?_; (with_reducible refine (r3_Break.calls k _ _ t526 _ _ t529 t532 t533 t534 t535 t536 t537 t544 t547 _ ?side1 ?side2 ?side3 ?side4 A11.out).mono ?_); (case side1 => exact aF HO528); (case side2 => exact (Kd.zQ HO528.out).2.1); (case side3 => exact aF HO531); (case side4 => exact (Kd.zQ HO531.out).2.1); rintro e w44 ⟨v545, rfl, ho0, hb⟩; refine ⟨_, rfl, ?_⟩; have n0_ := zA.mk (Kd.zR (aR HO528) hb); have n1_ := zA.mk (Kd.zR (aR HO531) hb); have n2_ := zA.mk (Kd.R_elder' (aR HO542) (Kd.R_base ho0) hb); have n3_ := zA.mk (Kd.zU (Kd.R_new' ho0 (Kd.R_lt (aR HO542))) (zH (aL HB))); have n4_ := zA.mk (zC (g := gb524) (o := .cells #[.int .u8 a1_0, .int .u8 a1_1, .int .u8 a1_2, .int .u16 a1_3, .int .u16 a1_4, .float .f64 a1_5] 26 (0, 0)) (aB BK524) hb); have n5_ := zA.mk (zC (g := gb538) (o := .cells #[.slice Ao26 t526.length co26, .slice Ao28 t529.length co28] 31 (0, 0)) (aB BK538) hb); have n6_ := zA.mk (zC (g := gb539) (o := .cells #[.int .i64 t532, .int .i64 t533, .int .u8 t534, .int .i64 t535, .int .i64 t536, .float .f64 t537] 35 (0, 0)) (aB BK539) hb); have n7_ := zA.mk (zD (aL HB) hb); clear HO528; clear HO531; clear HO542; clear BK524; clear BK538; clear BK539; clear HB; have HO528 := n0_; have HO531 := n1_; have HO542 := n2_; have HO546 := n3_; have BK524 := n4_; have BK538 := n5_; have BK539 := n6_; have HB := n7_; clear n0_ n1_ n2_ n3_ n4_ n5_ n6_ n7_; (try clear hb); (try clear hb2); (try clear hk); (try clear hi); (try clear ho0)))
 have n0_ := zA.mk (Kd.zL HO528.out); have n1_ := zA.mk (Kd.zL HO531.out); have n2_ := zA.mk (Kd.zL HO542.out); have n3_ := zA.mk (Kd.zL HO546.out); have n4_ := zA.mk (zF BK524.out); have n5_ := zA.mk (zF BK538.out); have n6_ := zA.mk (zF BK539.out); have n7_ := zA.mk (below_drew1 HB.out); clear HO528; clear HO531; clear HO542; clear HO546; clear BK524; clear BK538; clear BK539; clear HB; have HO528 := n0_; have HO531 := n1_; have HO542 := n2_; have HO546 := n3_; have BK524 := n4_; have BK538 := n5_; have BK539 := n6_; have HB := n7_; clear n0_ n1_ n2_ n3_ n4_ n5_ n6_ n7_; obtain ⟨Ao46, co46, eo46⟩ := Kd.zT HO542.out; (first | subst eo46 | (injection eo46 with f1_ f2_ f3_; have f4_ := f1_.symm; have f5_ := f3_.symm; clear f1_ f2_ f3_; subst f4_; subst f5_))
 obtain ⟨Ao47, co47, eo47⟩ := Kd.zT HO546.out; (first | subst eo47 | (injection eo47 with f1_ f2_ f3_; have f4_ := f1_.symm; have f5_ := f3_.symm; clear f1_ f2_ f3_; subst f4_; subst f5_))
 refine start_ (n := 20) (S := fun w' => w'.cell? ⟨gb538, 0, none⟩ = some (.slice Ao26 t526.length co26) ∧ w'.cell? ⟨gb538, 1, none⟩ = some (.slice Ao28 t529.length co28)) (ds := []) #[false, false, false, false, false, false, false, false, false, false, false, false, false, false, false, false, false, false, false, false] (by kernel_rfl) rfl rfl ⟨(zB BK538.out 0).trans rfl, (zB BK538.out 1).trans rfl⟩ (fun hHeld => ?_); refine with_tabW l6_LinesBreaks.tab8 l6_LinesBreaks.bits8 (fun HT_ HW_ => ?_)
 generalize w44.drew = w45 at HO528 HO531 HO542 HO546 BK524 BK538 BK539 HB hHeld ⊢
 refine aP 0 (some 32) (tf_ 1 20) HT_ ?_
 refine aP 1 (some 33) (tf_ 2 20) HT_ ?_
 refine aP 2 (some 34) (tf_ 3 20) HT_ ?_
 refine aP 3 (some 35) (tf_ 4 20) HT_ ?_
 refine aP 4 (some 36) (tf_ 5 20) HT_ ?_
 refine aP 5 (some 37) (tf_ 6 20) HT_ ?_
 refine one_ (i := 6) (N := some 38) #[true, true, true, true, true, true, true, false, false, false, false, false, false, false, false, false, false, false, false, false] rfl rfl (one_of HT_.out (by kernel_rfl)) (by decide) (fun K hK => ?_)
 refine goes_ Try.func14 (by kernel_rfl) rfl #[.slice Ao46 t540.length co46, .slice Ao47 t544.length co47] (by rfl) rfl rfl aT ?_
 with_reducible refine (r3_SameLines.calls k _ _ t540 _ _ t544 true _ ?side1 ?side2 ?side3 ?side4 A13.out).mono ?_
 (case side1 => exact aF HO542)
 (case side2 => exact (Kd.zQ HO542.out).2.1)
 (case side3 => exact aF HO546)
 (case side4 => exact (Kd.zQ HO546.out).2.1)
 rintro e w' ⟨rfl, ⟨nd, rfl⟩⟩
 refine ⟨_, rfl, ?_⟩
 refine hK.out _ _ ⟨(zB BK538.out 0).trans rfl, (zB BK538.out 1).trans rfl⟩ (fun hHeld => ?_)
 clear hK K; refine norm_ (a' := ?_) ?_ ?_
 rotate_left
 ·show Act.put _ (some 38) _ = _
  simp only [Act.put, sA_, sB_, sC_, i64_w, i32_w]; rfl
 refine aP 7 (some 39) (tf_ 8 20) HT_ ?_
 refine aP 8 (some 40) (tf_ 9 20) HT_ ?_
 refine aP 10 (some 42) #[true, true, true, true, true, true, true, true, true, false, true, false, false, false, false, false, false, false, false, false] HT_ ?_
 refine aP 14 (some 46) #[true, true, true, true, true, true, true, true, true, false, true, false, false, false, true, false, false, false, false, false] HT_ ?_
 refine take_ (i := 9) (N := some 41) (v := ?_) (a' := ?_) #[true, true, true, true, true, true, true, true, true, true, true, false, false, false, true, false, false, false, false, false] rfl rfl (take_ofW HT_.out HW_.out (by kernel_rfl)) (fun _ _ _ h => h) (Or.inl ⟨by rfl, ?_⟩) hHeld ?_ ?_
 rotate_left
 ·rintro w' ⟨s0, s1⟩
  go_simp
  with_reducible rfl
 rotate_left
 ·simp only [Act.put, sA_, sB_, sC_, i64_w, i32_w]
  rfl
 refine take_ (i := 13) (N := some 45) (v := ?_) (a' := ?_) #[true, true, true, true, true, true, true, true, true, true, true, false, false, true, true, false, false, false, false, false] rfl rfl (take_ofW HT_.out HW_.out (by kernel_rfl)) (fun _ _ _ h => h) (Or.inl ⟨by rfl, ?_⟩) hHeld ?_ ?_
 rotate_left
 ·rintro w' ⟨s0, s1⟩
  go_simp
  with_reducible rfl
 rotate_left
 ·simp only [Act.put, sA_, sB_, sC_, i64_w, i32_w]
  rfl
 refine one_ (i := 11) (N := some 43) #[true, true, true, true, true, true, true, true, true, true, true, true, false, true, true, false, false, false, false, false] rfl rfl (one_of HT_.out (by kernel_rfl)) (by decide) (fun K hK => ?_)
 refine goes_ Try.func16 (by kernel_rfl) rfl #[.agg #[.slice Ao26 t526.length co26, .slice Ao28 t529.length co28], .slice Ao46 t540.length co46] (by rfl) rfl rfl aT ?_
 with_reducible refine (lines_Rows.calls k _ _ t526 _ _ t529 _ _ t540 t549 _ ?side1 ?side2 ?side3 ?side4 ?side5 ?side6 A15.out).mono ?_
 (case side1 => exact aF HO528)
 (case side2 => exact (Kd.zQ HO528.out).2.1)
 (case side3 => exact aF HO531)
 (case side4 => exact (Kd.zQ HO531.out).2.1)
 (case side5 => exact aF HO542)
 (case side6 => exact (Kd.zQ HO542.out).2.1)
 rintro e w48 ⟨v550, rfl, ho0, hb⟩
 refine ⟨_, rfl, ?_⟩
 have n0_ := zA.mk (Kd.zR (aR HO528) hb); have n1_ := zA.mk (Kd.zR (aR HO531) hb); have n2_ := zA.mk (Kd.zR (aR HO542) hb); have n3_ := zA.mk (Kd.zR (aR HO546) hb); have n4_ := zA.mk (Kd.zU ho0 (zH (aL HB))); have n5_ := zA.mk (zC (g := gb524) (o := .cells #[.int .u8 a1_0, .int .u8 a1_1, .int .u8 a1_2, .int .u16 a1_3, .int .u16 a1_4, .float .f64 a1_5] 26 (0, 0)) (aB BK524) hb); have n6_ := zA.mk (zC (g := gb538) (o := .cells #[.slice Ao26 t526.length co26, .slice Ao28 t529.length co28] 31 (0, 0)) (aB BK538) hb); have n7_ := zA.mk (zC (g := gb539) (o := .cells #[.int .i64 t532, .int .i64 t533, .int .u8 t534, .int .i64 t535, .int .i64 t536, .float .f64 t537] 35 (0, 0)) (aB BK539) hb); have n8_ := zA.mk (zD (aL HB) hb); clear HO528; clear HO531; clear HO542; clear HO546; clear BK524; clear BK538; clear BK539; clear HB; have HO528 := n0_; have HO531 := n1_; have HO542 := n2_; have HO546 := n3_; have HO551 := n4_; have BK524 := n5_; have BK538 := n6_; have BK539 := n7_; have HB := n8_; clear n0_ n1_ n2_ n3_ n4_ n5_ n6_ n7_ n8_; (try clear hb)
 (try clear hb2)
 (try clear hk)
 (try clear hi)
 (try clear ho0)
 obtain ⟨Ao49, co49, eo49⟩ := Kd.zT HO551.out; (first | subst eo49 | (injection eo49 with f1_ f2_ f3_; have f4_ := f1_.symm; have f5_ := f3_.symm; clear f1_ f2_ f3_; subst f4_; subst f5_))
 refine hK.out _ _ ⟨(zB BK538.out 0).trans rfl, (zB BK538.out 1).trans rfl⟩ (fun hHeld => ?_)
 clear hK K; refine norm_ (a' := ?_) ?_ ?_
 rotate_left
 ·show Act.put _ (some 43) _ = _
  simp only [Act.put, sA_, sB_, sC_, i64_w, i32_w]; rfl
 refine aP 12 (some 44) (tf_ 15 20) HT_ ?_
 refine one_ (i := 15) (N := some 47) #[true, true, true, true, true, true, true, true, true, true, true, true, true, true, true, true, false, false, false, false] rfl rfl (one_of HT_.out (by kernel_rfl)) (by decide) (fun K hK => ?_)
 refine goes_ Try.func17 (by kernel_rfl) rfl #[.agg #[.slice Ao26 t526.length co26, .slice Ao28 t529.length co28], .slice Ao47 t544.length co47] (by rfl) rfl rfl aT ?_
 with_reducible refine (r3_Rows.calls k _ _ t526 _ _ t529 _ _ t544 t552 _ ?side1 ?side2 ?side3 ?side4 ?side5 ?side6 A16.out).mono ?_
 (case side1 => exact aF HO528)
 (case side2 => exact (Kd.zQ HO528.out).2.1)
 (case side3 => exact aF HO531)
 (case side4 => exact (Kd.zQ HO531.out).2.1)
 (case side5 => exact aF HO546)
 (case side6 => exact (Kd.zQ HO546.out).2.1)
 rintro e w50 ⟨v553, rfl, ho0, hb⟩
 refine ⟨_, rfl, ?_⟩
 have n0_ := zA.mk (Kd.zR (aR HO528) hb); have n1_ := zA.mk (Kd.zR (aR HO531) hb); have n2_ := zA.mk (Kd.zR (aR HO542) hb); have n3_ := zA.mk (Kd.zR (aR HO546) hb); have n4_ := zA.mk (Kd.R_elder' (aR HO551) (Kd.R_base ho0) hb); have n5_ := zA.mk (Kd.zU (Kd.R_new' ho0 (Kd.R_lt (aR HO551))) (zH (aL HB))); have n6_ := zA.mk (zC (g := gb524) (o := .cells #[.int .u8 a1_0, .int .u8 a1_1, .int .u8 a1_2, .int .u16 a1_3, .int .u16 a1_4, .float .f64 a1_5] 26 (0, 0)) (aB BK524) hb); have n7_ := zA.mk (zC (g := gb538) (o := .cells #[.slice Ao26 t526.length co26, .slice Ao28 t529.length co28] 31 (0, 0)) (aB BK538) hb); have n8_ := zA.mk (zC (g := gb539) (o := .cells #[.int .i64 t532, .int .i64 t533, .int .u8 t534, .int .i64 t535, .int .i64 t536, .float .f64 t537] 35 (0, 0)) (aB BK539) hb); have n9_ := zA.mk (zD (aL HB) hb); clear HO528; clear HO531; clear HO542; clear HO546; clear HO551; clear BK524; clear BK538; clear BK539; clear HB; have HO528 := n0_; have HO531 := n1_; have HO542 := n2_; have HO546 := n3_; have HO551 := n4_; have HO554 := n5_; have BK524 := n6_; have BK538 := n7_; have BK539 := n8_; have HB := n9_; clear n0_ n1_ n2_ n3_ n4_ n5_ n6_ n7_ n8_ n9_; (try clear hb)
 (try clear hb2)
 (try clear hk)
 (try clear hi)
 (try clear ho0)
 obtain ⟨Ao51, co51, eo51⟩ := Kd.zT HO554.out; (first | subst eo51 | (injection eo51 with f1_ f2_ f3_; have f4_ := f1_.symm; have f5_ := f3_.symm; clear f1_ f2_ f3_; subst f4_; subst f5_))
 refine hK.out _ _ ⟨(zB BK538.out 0).trans rfl, (zB BK538.out 1).trans rfl⟩ (fun hHeld => ?_)
 clear hK K; refine norm_ (a' := ?_) ?_ ?_
 rotate_left
 ·show Act.put _ (some 47) _ = _
  simp only [Act.put, sA_, sB_, sC_, i64_w, i32_w]; rfl
 refine aP 16 (some 48) (tf_ 17 20) HT_ ?_
 refine one_ (i := 17) (N := some 49) #[true, true, true, true, true, true, true, true, true, true, true, true, true, true, true, true, true, true, false, false] rfl rfl (one_of HT_.out (by kernel_rfl)) (by decide) (fun K hK => ?_)
 refine goes_ Try.func15 (by kernel_rfl) rfl #[.agg #[.slice Ao49 t549.length co49, .bool false], .agg #[.slice Ao51 t552.length co51, .bool false]] (by rfl) rfl rfl aT ?_
 with_reducible refine (r3_SameLayouts.calls k _ _ t549 false _ _ t552 false t555 _ ?side1 ?side2 ?side3 ?side4 A17.out).mono ?_
 (case side1 => exact aF HO551)
 (case side2 => exact (Kd.zQ HO551.out).2.1)
 (case side3 => exact aF HO554)
 (case side4 => exact (Kd.zQ HO554.out).2.1)
 rintro e w52 ⟨rfl, hb⟩
 refine ⟨_, rfl, ?_⟩
 have n0_ := zA.mk (Kd.zR (aR HO528) hb); have n1_ := zA.mk (Kd.zR (aR HO531) hb); have n2_ := zA.mk (Kd.zR (aR HO542) hb); have n3_ := zA.mk (Kd.zR (aR HO546) hb); have n4_ := zA.mk (Kd.zR (aR HO551) hb); have n5_ := zA.mk (Kd.zR (aR HO554) hb); have n6_ := zA.mk (zC (g := gb524) (o := .cells #[.int .u8 a1_0, .int .u8 a1_1, .int .u8 a1_2, .int .u16 a1_3, .int .u16 a1_4, .float .f64 a1_5] 26 (0, 0)) (aB BK524) hb); have n7_ := zA.mk (zC (g := gb538) (o := .cells #[.slice Ao26 t526.length co26, .slice Ao28 t529.length co28] 31 (0, 0)) (aB BK538) hb); have n8_ := zA.mk (zC (g := gb539) (o := .cells #[.int .i64 t532, .int .i64 t533, .int .u8 t534, .int .i64 t535, .int .i64 t536, .float .f64 t537] 35 (0, 0)) (aB BK539) hb); have n9_ := zA.mk (zD (aL HB) hb); clear HO528; clear HO531; clear HO542; clear HO546; clear HO551; clear HO554; clear BK524; clear BK538; clear BK539; clear HB; have HO528 := n0_; have HO531 := n1_; have HO542 := n2_; have HO546 := n3_; have HO551 := n4_; have HO554 := n5_; have BK524 := n6_; have BK538 := n7_; have BK539 := n8_; have HB := n9_; clear n0_ n1_ n2_ n3_ n4_ n5_ n6_ n7_ n8_ n9_; (try clear hb)
 (try clear hb2)
 (try clear hk)
 (try clear hi)
 refine hK.out _ _ ⟨(zB BK538.out 0).trans rfl, (zB BK538.out 1).trans rfl⟩ (fun hHeld => ?_)
 clear hK K; refine norm_ (a' := ?_) ?_ ?_
 rotate_left
 ·show Act.put _ (some 49) _ = _
  simp only [Act.put, sA_, sB_, sC_, i64_w, i32_w]; rfl
 refine aP 18 (some 50) (tf_ 19 20) HT_ ?_
 refine aP 19 (some 4) #[true, true, true, true, true, true, true, true, true, true, true, true, true, true, true, true, true, true, true, true] HT_ ?_
 refine done_ (done_of HT_.out (by kernel_rfl)) ?_
 try go_wp2
 go_ret
 exact ⟨aX, aL HB⟩
def l6_LinesBreaks.Pure : Prop := ∀ (l0 : List (S63)) (a1_0 : Int) (a1_1 : Int) (a1_2 : Int) (a1_3 : Int) (a1_4 : Int) (a1_5 : Nat), (l0.length * 4 ≤ 140737488351232 ∧ ∀ y0 ∈ l0, ((Lit.int .u8 y0.f0).wf = true ∧ ((Lit.int .u8 y0.f1).wf = true ∧ ((Lit.int .u8 y0.f2).wf = true ∧ (Lit.int .u8 y0.f3).wf = true)))) → ((Lit.int .u8 a1_0).wf = true ∧ ((Lit.int .u8 a1_1).wf = true ∧ ((Lit.int .u8 a1_2).wf = true ∧ ((Lit.int .u16 a1_3).wf = true ∧ ((Lit.int .u16 a1_4).wf = true ∧ (Lit.float .f64 a1_5).wf = true))))) → ∃ k, l6_LinesBreaks.f k l0 a1_0 a1_1 a1_2 a1_3 a1_4 a1_5 = some true
end Go.Proofs.Ytcnblneghbgjgaa.F
end
