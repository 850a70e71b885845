/- Printed by a program: Lean functions that answer as the Go functions do, and the proofs of it. -/
import Derived.Test.YtlgclhhkgohanaaVBestOne0
section
namespace Go.Proofs.Ytlgclhhkgohanaa.F
open Go.RowKit Go.Proofs.YtlgclhhkgohanaaW.PrintWords Go.Proofs.YtlgclhhkgohanaaW.PrintLast Go.Proofs.YtlgclhhkgohanaaW.PrintMore
attribute [local go_sem] max2_int min2_int max_two min_two max_three min_three max_four min_four   -- for this text's walks alone
set_option linter.unusedVariables false
set_option linter.unusedSimpArgs false
def span_Columns.l0 : Nat → Int → Int → List Int → Int → List (S62) → List Int → Option (List Int)
  | 0, _, _, _, _, _, _ => none
  | k + 1, x2, x3, x9, x10, x132000, x132001 => if x10 < x2 then (if 0 ≤ x10 then (if x10 < (x132000.length : Int) then (if 0 ≤ (wrap64 ((x9.length : Int) - 1)) then (if (wrap64 ((x9.length : Int) - 1)) < (x9.length : Int) then ((span_Next.f ((rd_T62 x132000 x10).f0) ((rd_T62 x132000 x10).f1) ((rd_T62 x132000 x10).f2) ((rd_T62 x132000 x10).f3) (rd x9 (wrap64 ((x9.length : Int) - 1))) x3).bind fun t137 => (if x9.length < 17592186044416 then (span_Columns.l0 k x2 x3 (x9 ++ [t137]) (wrap64 (x10 + 1)) x132000 x132001) else (none))) else (none)) else (none)) else (none)) else (none)) else (some x9)
def span_Columns.f (k : Nat) (l0_0 : List (S62)) (l0_1 : List Int) (a1 : Int) (a2 : Int) (a3 : Int) : Option (List Int) := span_Columns.l0 k a2 a3 (([0] : List Int)) a1 l0_0 l0_1
theorem span_Columns.mono_l : ∀ k, (∀ y0 y1 y2 y3 y4 y5, LeO (span_Columns.l0 k y0 y1 y2 y3 y4 y5) (span_Columns.l0 (k + 1) y0 y1 y2 y3 y4 y5))
  | 0 => fun _ _ _ _ _ _ r h => by simp [span_Columns.l0] at h
  | k + 1 => by
    have ih0 := span_Columns.mono_l k
    · intro y0 y1 y2 y3 y4 y5
      unfold span_Columns.l0
      repeat' first
      | (with_reducible exact ih0 _ _ _ _ _ _)
      | (with_reducible exact LeO.refl _)
      | (with_reducible exact LeO.none _)
      | (with_reducible refine LeO.ite ?_ ?_)
      | (with_reducible refine LeO.bind ?_ (fun _ => ?_))
      | exact ih0 _ _ _ _ _ _
      | exact LeO.none _
      | refine LeO.ite ?_ ?_
      | refine LeO.bind ?_ (fun _ => ?_)
theorem span_Columns.mono : ∀ a0 a1 a2 a3 a4 k, LeO (span_Columns.f k a0 a1 a2 a3 a4) (span_Columns.f (k + 1) a0 a1 a2 a3 a4) := by
  intro a0 a1 a2 a3 a4 k
  have ih0 := span_Columns.mono_l k; unfold span_Columns.f
  repeat' first
      | (with_reducible exact ih0 _ _ _ _ _ _)
      | (with_reducible exact LeO.refl _)
      | (with_reducible exact LeO.none _)
      | (with_reducible refine LeO.ite ?_ ?_)
      | (with_reducible refine LeO.bind ?_ (fun _ => ?_))
      | exact ih0 _ _ _ _ _ _
      | exact LeO.none _
      | refine LeO.ite ?_ ?_
      | refine LeO.bind ?_ (fun _ => ?_)
def span_Columns.T5 : Bool × List (List Nat × List Nat) := (true, [([], []), ([], []), ([1], [1]), ([], []), ([2, 3], [2, 3]), ([4], [4]), ([], []), ([], []), ([7], [7]), ([8], [8]), ([6, 9], [6, 9]), ([10], [10]), ([], []), ([5, 11, 12], [5, 11, 12]), ([13], [13]), ([0, 14, 13], [0, 14]), ([15, 15, 0, 1, 2, 3, 4, 5, 6, 7, 8, 9, 10, 11, 12, 13, 14, 15], [0, 6, 7, 15])])
def span_Columns.B5 : List Nat := [0, 0, 2, 0, 14, 30, 0, 0, 128, 384, 960, 1984, 0, 8190, 16382, 32767, 65535]
theorem span_Columns.tab5 : rtab .any (opsOf Try.f44 5) = span_Columns.T5 := by kernel_rfl
theorem span_Columns.bits5 : waitsOk span_Columns.T5.2 span_Columns.B5 = true := by kernel_rfl
set_option maxHeartbeats 8000000 in
set_option maxRecDepth 100000 in
theorem span_Columns.calls (k : Nat) (A0_0 : Option Addr) (c0_0 : Nat) (l0_0 : List (S62)) (A0_1 : Option Addr) (c0_1 : Nat) (l0_1 : List Int) (a1 : Int) (a2 : Int) (a3 : Int) (r : List Int) (w : World) (hr0_0 : Kd.C k62 w A0_0 l0_0.length l0_0) (hc0_0 : l0_0.length ≤ c0_0) (hr0_1 : Kd.C (Kd.int .u8) w A0_1 l0_1.length l0_1) (hc0_1 : l0_1.length ≤ c0_1) (h : span_Columns.f k l0_0 l0_1 a1 a2 a3 = some r) :
    Calls Try.prog 44 #[.agg #[.slice A0_0 l0_0.length c0_0, .slice A0_1 l0_1.length c0_1], .int .i64 a1, .int .i64 a2, .int .i64 a3] w fun e w' => ∃ v0_ : Value, e = .returned (v0_) ∧ Kd.R (Kd.int .i64) 3 w' w.heap.size (fun _ => True) v0_ r ∧ Below w.heap.size w w' := by
  have hu31 := Try.underlying31; have hu62 := Try.underlying62; have HR0_0 := zB.mk hr0_0; have HC0_0 := zB.mk hc0_0; clear hr0_0 hc0_0; have HR0_1 := zB.mk hr0_1; have HC0_1 := zB.mk hc0_1; clear hr0_1 hc0_1; have HB := zB.mk (Below.refl w.heap.size w); have H : (span_Columns.l0 k a2 a3 (([0] : List Int)) a1 l0_0 l0_1) = some r := h
  clear h; obtain ⟨y132, hy132⟩ : ∃ y_ : List Int, y_ = (([0] : List Int)) := ⟨_, rfl⟩; replace H : (span_Columns.l0 k a2 a3 y132 a1 l0_0 l0_1) = some r := by first | (rw [hy132]; with_reducible exact H) | (have H2_ := (Option.bind_some _ _).symm.trans H; rw [hy132]; with_reducible exact H2_) | (have H2_ := (Option.bind_some _ _).symm.trans H; with_reducible exact H2_) | with_reducible exact H | (rw [hy132]; exact H) | exact H
  have Ny132 := zB.mk hy132; clear hy132; have H' := zB.mk H
  clear H; go_enter Try.func44, Try.ntmps44
  go_wp2_with (first | ((with_reducible refine gate_dst (N := 4) rfl ?_); refine box_event ?hg (N := 4) ?hd (cs := #[.slice A0_0 l0_0.length c0_0, .slice A0_1 l0_1.length c0_1]) (t := 31) ?hr ?_; (case hd => rfl); (case hg => rfl); (case hr => first | (go_simp; done) | (go_simp; rfl)); intro gb131 hg w5 hbox hb; have n0_ := zB.mk (zO (by repeat (first | (with_reducible first | exact HB.out | apply zJ | apply zF | apply zH) | exact HB.out)) hb); have n1_ := zB.mk (hbox); have n2_ := zB.mk ((by rw [hg]; exact (zM (by repeat (first | (with_reducible first | exact HB.out | apply zJ | apply zF | apply zH) | exact HB.out))) : w.heap.size ≤ gb131)); have n3_ := zB.mk ((by rw [hg]; exact (zM (by repeat (first | (with_reducible first | exact HB.out | apply zJ | apply zF | apply zH) | exact HB.out))) : w.heap.size ≤ gb131)); clear HB; have HB := n0_; have BK131 := n1_; have GW131 := n2_; have GE131 := n3_; clear n0_ n1_ n2_ n3_; clear hb hbox hg) | ((with_reducible refine gate_dst (N := 11) rfl ?_); refine Kd.R_lit (Kd.int .i64) _ 3 ?hg (N := 11) ?hd (xs := ([0] : List Int)) (inner := [.int .i64 0]) (ok := fun _ => True) (okp := fun _ => True) ?hr ?hp (fun _ hk => hk) trivial (Below.refl _ _) (Nat.le_refl _) (by simp) ?_; (case hd => rfl); (case hg => rfl); (case hr => first | (go_simp; done) | (go_simp; rfl)); (case hp => exact (Reps.one (show Kd.M (Kd.int .i64) _ _ _ 0 [.int .i64 0] from rfl) (Reps.none _ _))); intro v133 w6 ho7 hb hg_ hnew_; clear hg_ hnew_; (first | rw [← Ny132.out] at ho7 | (simp only [Int.reduceToNat] at ho7; rw [← Ny132.out] at ho7)); have n0_ := zB.mk (Kd.R_lower ho7 (zM (by repeat (first | (with_reducible first | exact HB.out | apply zJ | apply zF | apply zH | refine zE ?_ GE131.out) | exact HB.out)))); have n1_ := zB.mk (zK (g := gb131) (o := .cells #[.slice A0_0 l0_0.length c0_0, .slice A0_1 l0_1.length c0_1] 31 (0, 0)) (by (with_reducible repeat (first | refine zC ?_ _ | refine zD ?_ | refine zA ?_ _)); exact BK131.out) hb); have n2_ := zB.mk (zO (by repeat (first | (with_reducible first | exact HB.out | apply zJ | apply zF | apply zH | refine zE ?_ GE131.out) | exact HB.out)) hb); clear BK131; clear HB; have HO134 := n0_; have BK131 := n1_; have HB := n2_; clear n0_ n1_ n2_; clear hb ho7))
  go_loopg [9, 10] k (fun kq v9 v10 w' => ∃ (x9_1 : List Int) (x10_1 : Int), v10 = .int .i64 x10_1 ∧ zB (span_Columns.l0 kq a2 a3 x9_1 x10_1 l0_0 l0_1 = some r) ∧ zB (kq ≤ k) ∧ zB (Kd.R (Kd.int .i64) 3 w' w.heap.size (fun _ => True) v9 x9_1) ∧ zB (w'.heap[gb131]? = some (.cells #[(.slice A0_0 l0_0.length c0_0), (.slice A0_1 l0_1.length c0_1)] 31 (0, 0))) ∧ zB (Below w.heap.size w w'))
  case atStart => exact ⟨(y132), (a1), (by first | rfl | (simp; done) | (simp [*]; done)), H', ⟨Nat.le_refl _⟩, ⟨by (with_reducible repeat (first | apply Kd.R_alloc | apply Kd.R_drewN | apply Kd.R_drew)); exact HO134.out⟩, ⟨by (with_reducible repeat (first | refine zC ?_ _ | refine zD ?_ | refine zA ?_ _)); exact BK131.out⟩, ⟨by repeat (first | (with_reducible first | exact HB.out | apply zJ | apply zF | apply zH | refine zE ?_ GE131.out) | exact HB.out)⟩⟩
  clear H'; try clear p2
  try clear c4
  obtain ⟨x9_1, x10_1, rfl, HA, HK1, HO_9, BK131, HB⟩ := hrel; cases gk with
  | zero => exact absurd HA.out (by simp [span_Columns.l0])
  | succ k1 =>
    have H := HA.out; clear HA; simp only [span_Columns.l0] at H; by_cases c8 : x10_1 < a2
    rotate_left
    · rw [if_neg c8] at H
      have c8b0 : decide (x10_1 < a2) = false := decide_eq_false c8
      clear c8; obtain rfl := Option.some.inj H
      go_wp2
      go_ret
      exact ⟨_, by first | rfl | (simp [errW_none, errW_some] <;> rfl) | (simp [*, errW_none, errW_some] <;> rfl), by (with_reducible repeat (first | apply Kd.R_alloc | apply Kd.R_drewN | apply Kd.R_drew)); exact HO_9.out, by repeat (first | (with_reducible first | exact HB.out | apply zJ | apply zF | apply zH | refine zE ?_ GE131.out) | exact HB.out)⟩
    rw [if_pos c8] at H; have c8b0 : decide (x10_1 < a2) = true := decide_eq_true c8
    clear c8; by_cases c9 : 0 ≤ x10_1
    rotate_left
    · rw [if_neg c9] at H
      exact absurd H (by simp)
    rw [if_pos c9] at H; have c9b0 : decide (0 ≤ x10_1) = true := decide_eq_true c9
    clear c9; by_cases c10 : x10_1 < (l0_0.length : Int)
    rotate_left
    · rw [if_neg c10] at H
      exact absurd H (by simp)
    rw [if_pos c10] at H; have c10b0 : decide (x10_1 < (l0_0.length : Int)) = true := decide_eq_true c10
    clear c10; obtain ⟨ji11, hji11⟩ : ∃ j_ : Int, (wrap64 ((x9_1.length : Int) - 1)) = j_ := ⟨_, rfl⟩; replace H : (if 0 ≤ (ji11) then (if (ji11) < (x9_1.length : Int) then ((span_Next.f ((rd_T62 l0_0 x10_1).f0) ((rd_T62 l0_0 x10_1).f1) ((rd_T62 l0_0 x10_1).f2) ((rd_T62 l0_0 x10_1).f3) (rd x9_1 (ji11)) a3).bind fun t137 => (if x9_1.length < 17592186044416 then (span_Columns.l0 k1 a2 a3 (x9_1 ++ [t137]) (wrap64 (x10_1 + 1)) l0_0 l0_1) else (none))) else (none)) else (none)) = some r := by first | (rw [hji11] at H; exact H) | (simp only [hji11] at H ⊢; exact H)
    have hji11w : (IntKind.i64.wrap ((x9_1.length : Int) - 1)) = ji11 := (i64_w _).trans hji11
    by_cases c12 : 0 ≤ (ji11)
    rotate_left
    · rw [if_neg c12] at H
      exact absurd H (by simp)
    rw [if_pos c12] at H; have c12b0 : decide (0 ≤ (ji11)) = true := decide_eq_true c12
    clear c12; by_cases c13 : (ji11) < (x9_1.length : Int)
    rotate_left
    · rw [if_neg c13] at H
      exact absurd H (by simp)
    rw [if_pos c13] at H; have c13b0 : decide ((ji11) < (x9_1.length : Int)) = true := decide_eq_true c13
    clear c13; replace H := Option.bind_eq_some_iff.mp H; obtain ⟨t137, A140, H⟩ := H; replace H : (if x9_1.length < 17592186044416 then (span_Columns.l0 k1 a2 a3 (x9_1 ++ [t137]) (wrap64 (x10_1 + 1)) l0_0 l0_1) else (none)) = some r := H; have A14 := zB.mk A140; clear A140; by_cases c15 : x9_1.length < 17592186044416
    rotate_left
    · rw [if_neg c15] at H
      exact absurd H (by simp)
    rw [if_pos c15] at H; have LMc15 := zB.mk c15; clear c15; obtain ⟨y138, hy138⟩ : ∃ y_ : List Int, y_ = (x9_1 ++ [t137]) := ⟨_, rfl⟩; replace H : (span_Columns.l0 k1 a2 a3 y138 (wrap64 (x10_1 + 1)) l0_0 l0_1) = some r := by first | (rw [hy138]; with_reducible exact H) | (have H2_ := (Option.bind_some _ _).symm.trans H; rw [hy138]; with_reducible exact H2_) | (have H2_ := (Option.bind_some _ _).symm.trans H; with_reducible exact H2_) | with_reducible exact H | (rw [hy138]; exact H) | exact H
    have Ny138 := zB.mk hy138; clear hy138; have H' := zB.mk H
    clear H; try go_wp2
    have n0_ := zB.mk (Kd.R_drew HO_9.out); have n1_ := zB.mk (zD BK131.out); have n2_ := zB.mk (zH HB.out); clear HO_9; clear BK131; clear HB; have HO_9 := n0_; have BK131 := n1_; have HB := n2_; clear n0_ n1_ n2_; have p135 : 0 ≤ (x10_1 : Int) := of_decide_eq_true (by first | (with_reducible assumption) | assumption)
    have q135 : x10_1 < (l0_0.length : Int) := of_decide_eq_true (by first | (with_reducible assumption) | assumption)
    obtain ⟨ad135, e135, hx135_0, hx135_1, hx135_2, hx135_3⟩ := at_T62 HR0_0.out x10_1 p135 q135; have hw135_3 := hx135_3; have hw135_2 := hx135_2; have hw135_1 := hx135_1; have hw135_0 := hx135_0; cases e135
    replace hx135_0 := (HB.out.cell (World.block_lt_of_cell? w _ hx135_0)).trans hx135_0; replace hx135_1 := (HB.out.cell (World.block_lt_of_cell? w _ hx135_1)).trans hx135_1; replace hx135_2 := (HB.out.cell (World.block_lt_of_cell? w _ hx135_2)).trans hx135_2; replace hx135_3 := (HB.out.cell (World.block_lt_of_cell? w _ hx135_3)).trans hx135_3; replace p135 := eq_true p135; replace q135 := eq_true q135; obtain ⟨Ao17, co17, eo17⟩ := Kd.R_slice HO_9.out; (first | subst eo17 | (injection eo17 with f1_ f2_ f3_; have f4_ := f1_.symm; have f5_ := f3_.symm; clear f1_ f2_ f3_; subst f4_; subst f5_))
    have p136 : 0 ≤ ((ji11) : Int) := of_decide_eq_true (by first | (with_reducible assumption) | assumption)
    have q136 : (ji11) < (x9_1.length : Int) := of_decide_eq_true (by first | (with_reducible assumption) | assumption)
    obtain ⟨ad136, e136, hx136_0⟩ := Kd.at_int (Kd.R_reads' HO_9.out).2.2 (ji11) p136 q136; cases e136
    replace p136 := eq_true p136; replace q136 := eq_true q136; refine start_ (n := 17) (S := fun w' => w'.cell? ⟨gb131, 0, none⟩ = some (.slice (some ad135) l0_0.length c0_0) ∧ w'.cell? ⟨gb131, 1, none⟩ = some (.slice A0_1 l0_1.length c0_1) ∧ w'.cell? (ad135.add ((x10_1).toNat * 4)) = some (.int .i64 ((rd_T62 l0_0 x10_1).f0)) ∧ w'.cell? ⟨(ad135.add ((x10_1).toNat * 4)).block, (ad135.add ((x10_1).toNat * 4)).off + 1, none⟩ = some (.int .i64 ((rd_T62 l0_0 x10_1).f1)) ∧ w'.cell? ⟨(ad135.add ((x10_1).toNat * 4)).block, (ad135.add ((x10_1).toNat * 4)).off + 2, none⟩ = some (.int .i64 ((rd_T62 l0_0 x10_1).f2)) ∧ w'.cell? ⟨(ad135.add ((x10_1).toNat * 4)).block, (ad135.add ((x10_1).toNat * 4)).off + 3, none⟩ = some (.int .u8 ((rd_T62 l0_0 x10_1).f3)) ∧ w'.cell? (ad136.add ((ji11)).toNat) = some (.int .i64 (rd x9_1 (ji11)))) (ds := [14, 15]) #[false, false, false, false, false, false, false, false, false, false, false, false, false, false, false, false, false] (by kernel_rfl) rfl rfl ⟨(zG BK131.out 0).trans rfl, (zG BK131.out 1).trans rfl, ((HB.out.cell (World.block_lt_of_cell? w _ hw135_0)).trans hw135_0), ((HB.out.cell (World.block_lt_of_cell? w _ hw135_1)).trans hw135_1), ((HB.out.cell (World.block_lt_of_cell? w _ hw135_2)).trans hw135_2), ((HB.out.cell (World.block_lt_of_cell? w _ hw135_3)).trans hw135_3), hx136_0⟩ (fun hHeld => ?_); refine with_tabW span_Columns.tab5 span_Columns.bits5 (fun HT_ HW_ => ?_)
    generalize wr.drew = w16 at HO_9 BK131 HB hx135_0 hx135_1 hx135_2 hx135_3 hx136_0 hHeld ⊢
    refine pure_ (i := 0) (N := some 18) (v := ?_) (a' := ?_) (tf_ 1 17) rfl rfl (any_of HT_.out (by kernel_rfl)) (fun _ _ _ h => h) (Or.inl ⟨by rfl, ?_⟩) ?_ ?_
    rotate_left
    · intro w'
      go_simp
      with_reducible rfl
    rotate_left
    · simp only [Act.put, sA_, sB_, sC_, i64_w, i32_w]
      rfl
    refine pure_ (i := 1) (N := some 19) (v := ?_) (a' := ?_) (tf_ 2 17) rfl rfl (any_of HT_.out (by kernel_rfl)) (fun _ _ _ h => h) (Or.inl ⟨by rfl, ?_⟩) ?_ ?_
    rotate_left
    · intro w'
      go_simp
      with_reducible rfl
    rotate_left
    · simp only [Act.put, sA_, sB_, sC_, i64_w, i32_w]
      rfl
    refine pure_ (i := 3) (N := some 21) (v := ?_) (a' := ?_) #[true, true, false, true, false, false, false, false, false, false, false, false, false, false, false, false, false] rfl rfl (any_of HT_.out (by kernel_rfl)) (fun _ _ _ h => h) (Or.inl ⟨by rfl, ?_⟩) ?_ ?_
    rotate_left
    · intro w'
      go_simp
      with_reducible rfl
    rotate_left
    · simp only [Act.put, sA_, sB_, sC_, i64_w, i32_w]
      rfl
    refine pure_ (i := 6) (N := some 24) (v := ?_) (a' := ?_) #[true, true, false, true, false, false, true, false, false, false, false, false, false, false, false, false, false] rfl rfl (any_of HT_.out (by kernel_rfl)) (fun _ _ _ h => h) (Or.inl ⟨by rfl, ?_⟩) ?_ ?_
    rotate_left
    · intro w'
      go_simp
      with_reducible rfl
    rotate_left
    · simp only [Act.put, sA_, sB_, sC_, i64_w, i32_w]
      rfl
    refine pure_ (i := 7) (N := some 25) (v := ?_) (a' := ?_) #[true, true, false, true, false, false, true, true, false, false, false, false, false, false, false, false, false] rfl rfl (any_of HT_.out (by kernel_rfl)) (fun _ _ _ h => h) (Or.inl ⟨by rfl, ?_⟩) ?_ ?_
    rotate_left
    · intro w'
      go_simp
      with_reducible rfl
    rotate_left
    · simp only [Act.put, sA_, sB_, sC_, i64_w, i32_w]
      rfl
    refine pure_ (i := 8) (N := some 26) (v := ?_) (a' := ?_) #[true, true, false, true, false, false, true, true, true, false, false, false, false, false, false, false, false] rfl rfl (any_of HT_.out (by kernel_rfl)) (fun _ _ _ h => h) (Or.inl ⟨by rfl, ?_⟩) ?_ ?_
    rotate_left
    · intro w'
      go_simp
      with_reducible rfl
    rotate_left
    · simp only [Act.put, sA_, sB_, sC_, i64_w, i32_w]
      rfl
    refine pure_ (i := 9) (N := some 27) (v := ?_) (a' := ?_) #[true, true, false, true, false, false, true, true, true, true, false, false, false, false, false, false, false] rfl rfl (any_of HT_.out (by kernel_rfl)) (fun _ _ _ h => h) (Or.inl ⟨by rfl, ?_⟩) ?_ ?_
    rotate_left
    · intro w'
      go_simp
      with_reducible rfl
    rotate_left
    · simp only [Act.put, sA_, sB_, sC_, i64_w, i32_w]
      rfl
    refine pure_ (i := 10) (N := some 28) (v := ?_) (a' := ?_) #[true, true, false, true, false, false, true, true, true, true, true, false, false, false, false, false, false] rfl rfl (any_of HT_.out (by kernel_rfl)) (fun _ _ _ h => h) (Or.inl ⟨by rfl, ?_⟩) ?_ ?_
    rotate_left
    · intro w'
      go_simp
      with_reducible rfl
    rotate_left
    · simp only [Act.put, sA_, sB_, sC_, i64_w, i32_w]
      rfl
    refine pure_ (i := 12) (N := some 30) (v := ?_) (a' := ?_) #[true, true, false, true, false, false, true, true, true, true, true, false, true, false, false, false, false] rfl rfl (any_of HT_.out (by kernel_rfl)) (fun _ _ _ h => h) (Or.inl ⟨by rfl, ?_⟩) ?_ ?_
    rotate_left
    · intro w'
      go_simp
      with_reducible rfl
    rotate_left
    · simp only [Act.put, sA_, sB_, sC_, i64_w, i32_w]
      rfl
    refine take_ (i := 2) (N := some 20) (v := ?_) (a' := ?_) #[true, true, true, true, false, false, true, true, true, true, true, false, true, false, false, false, false] rfl rfl (take_ofW HT_.out HW_.out (by kernel_rfl)) (fun _ _ _ h => h) (Or.inl ⟨by rfl, ?_⟩) hHeld ?_ ?_
    rotate_left
    · rintro w' ⟨s0, s1, s2, s3, s4, s5, s6⟩
      go_simp
      with_reducible rfl
    rotate_left
    · simp only [Act.put, sA_, sB_, sC_, i64_w, i32_w]
      rfl
    refine pure_ (i := 4) (N := some 22) (v := ?_) (a' := ?_) #[true, true, true, true, true, false, true, true, true, true, true, false, true, false, false, false, false] rfl rfl (any_of HT_.out (by kernel_rfl)) (fun _ _ _ h => h) (Or.inl ⟨by rfl, ?_⟩) ?_ ?_
    rotate_left
    · intro w'
      go_simp
      with_reducible rfl
    rotate_left
    · simp only [Act.put, sA_, sB_, sC_, i64_w, i32_w]
      rfl
    refine take_ (i := 5) (N := some 23) (v := ?_) (a' := ?_) #[true, true, true, true, true, true, true, true, true, true, true, false, true, false, false, false, false] rfl rfl (take_ofW HT_.out HW_.out (by kernel_rfl)) (fun _ _ _ h => h) (Or.inl ⟨by rfl, ?_⟩) hHeld ?_ ?_
    rotate_left
    · rintro w' ⟨s0, s1, s2, s3, s4, s5, s6⟩
      go_simp
      with_reducible rfl
    rotate_left
    · simp only [Act.put, sA_, sB_, sC_, i64_w, i32_w]
      rfl
    refine take_ (i := 11) (N := some 29) (v := ?_) (a' := ?_) (tf_ 13 17) rfl rfl (take_ofW HT_.out HW_.out (by kernel_rfl)) (fun _ _ _ h => h) (Or.inl ⟨by rfl, ?_⟩) hHeld ?_ ?_
    rotate_left
    · rintro w' ⟨s0, s1, s2, s3, s4, s5, s6⟩
      go_simp
      with_reducible rfl
    rotate_left
    · simp only [Act.put, sA_, sB_, sC_, i64_w, i32_w]
      rfl
    refine one_ (i := 13) (N := some 31) #[true, true, true, true, true, true, true, true, true, true, true, true, true, true, false, false, false] rfl rfl (one_of HT_.out (by kernel_rfl)) (by decide) (fun K hK => ?_)
    refine goes_ Try.func37 (by kernel_rfl) rfl #[.agg #[.int .i64 ((rd_T62 l0_0 x10_1).f0), .int .i64 ((rd_T62 l0_0 x10_1).f1), .int .i64 ((rd_T62 l0_0 x10_1).f2), .int .u8 ((rd_T62 l0_0 x10_1).f3)], .int .i64 (rd x9_1 (ji11)), .int .i64 a3] (by rfl) rfl rfl (by (try simp only [List.map_toArray, List.map_cons, List.map_nil]); first | done | (simp only [hji11]; rfl) | rfl | (simp only [List.length_drop, List.length_take]; rfl)) ?_
    with_reducible refine (span_Next.calls ((rd_T62 l0_0 x10_1).f0) ((rd_T62 l0_0 x10_1).f1) ((rd_T62 l0_0 x10_1).f2) ((rd_T62 l0_0 x10_1).f3) (rd x9_1 (ji11)) a3 t137 _ A14.out).mono ?_
    rintro e w18 ⟨rfl, hb⟩
    have HS6_ := (hb.cell (World.block_lt_of_cell? _ _ (hHeld.2.2.2.2.2.2))).trans (hHeld.2.2.2.2.2.2); refine ⟨_, rfl, ?_⟩
    have n0_ := zB.mk (Kd.R_below (by (with_reducible repeat (first | apply Kd.R_alloc | apply Kd.R_drewN | apply Kd.R_drew)); exact HO_9.out) hb)
    have n1_ := zB.mk (zK (g := gb131) (o := .cells #[.slice (some ad135) l0_0.length c0_0, .slice A0_1 l0_1.length c0_1] 31 (0, 0)) (by (with_reducible repeat (first | refine zC ?_ _ | refine zD ?_ | refine zA ?_ _)); exact BK131.out) hb)
    have n2_ := zB.mk (zO (by repeat (first | (with_reducible first | exact HB.out | apply zJ | apply zF | apply zH | refine zE ?_ GE131.out) | exact HB.out)) hb)
    clear HO_9 BK131 HB; have HO_9 := n0_; have BK131 := n1_; have HB := n2_; clear n0_ n1_ n2_; (try clear hb)
    (try clear hb2)
    (try clear hk)
    (try clear hi)
    refine hK.out _ _ ⟨(zG BK131.out 0).trans rfl, (zG BK131.out 1).trans rfl, ((HB.out.cell (World.block_lt_of_cell? w _ hw135_0)).trans hw135_0), ((HB.out.cell (World.block_lt_of_cell? w _ hw135_1)).trans hw135_1), ((HB.out.cell (World.block_lt_of_cell? w _ hw135_2)).trans hw135_2), ((HB.out.cell (World.block_lt_of_cell? w _ hw135_3)).trans hw135_3), HS6_⟩ (fun hHeld => ?_)
    clear hK K; refine norm_ (a' := ?_) ?_ ?_
    rotate_left
    · show Act.put _ (some 31) _ = _
      simp only [Act.put, sA_, sB_, sC_, i64_w, i32_w]; rfl
    refine last_ (i := 14) (N := some 32) #[true, true, true, true, true, true, true, true, true, true, true, true, true, true, true, false, false] rfl rfl (one_of HT_.out (by kernel_rfl)) (by decide) (fun K hK => ?_)
    refine value_ (w1 := ?_) (v := ?_) (by rfl) rfl ?_ ?_
    rotate_left 2
    · go_simp
      constructor
      · rfl
      rfl
    refine hK.out _ _ ?_
    clear hK K; refine norm_ (a' := ?_) ?_ ?_
    rotate_left
    · show Act.put _ (some 32) _ = _
      simp only [Act.put, sA_, sB_, sC_, i64_w, i32_w]; rfl
    refine last_ (i := 15) (N := some 33) #[true, true, true, true, true, true, true, true, true, true, true, true, true, true, true, true, false] rfl rfl (one_of HT_.out (by kernel_rfl)) (by decide) (fun K hK => ?_)
    refine Kd.R_append_step (Kd.int .i64) (w0 := w) w.heap.size (by rfl) (.tmp 18) (.tmp 32) 37 3 (.int .i64 0) 8 rfl Try.underlying37 info3 rfl (by decide) (by omega) (.slice (some ad136) x9_1.length co17) x9_1 t137 [.int .i64 t137] (fun _ => True) (fun _ => False) rfl rfl ?aP (fun _ hk => hk.elim) ?aF ?aO ?aB ?aS ?aL ?_
    (case aP => exact rfl)
    (case aB => exact (by repeat (first | (with_reducible first | exact HB.out | apply zJ | apply zF | apply zH | refine zE ?_ GE131.out) | exact HB.out)))
    (case aF => exact (fun _ _ => trivial))
    (case aO => exact (by (with_reducible repeat (first | apply Kd.R_alloc | apply Kd.R_drewN | apply Kd.R_drew)); exact HO_9.out))
    (case aS => exact (zM (by repeat (first | (with_reducible first | exact HB.out | apply zJ | apply zF | apply zH | refine zE ?_ GE131.out) | exact HB.out))))
    (case aL => have := LMc15.out; omega)
    intro v139 w19 ho hb hg hat
    rw [← Ny138.out] at ho; have n0_ := zB.mk (blk_grown (g := gb131) (o := .cells #[.slice (some ad135) l0_0.length c0_0, .slice A0_1 l0_1.length c0_1] 31 (0, 0)) (by (with_reducible repeat (first | refine zC ?_ _ | refine zD ?_ | refine zA ?_ _)); exact BK131.out) hg (Kd.R_ne HO_9.out BK131.out (by decide)))
    have n1_ := zB.mk (hb); have n2_ := zB.mk (ho); clear BK131; clear HB; clear HO_9; have BK131 := n0_; have HB := n1_; have HO140 := n2_; clear n0_ n1_ n2_; clear ho hb hg hat; refine hK.out _ _ ?_
    clear hK K; refine norm_ (a' := ?_) ?_ ?_
    rotate_left
    · show Act.put _ (some 33) _ = _
      simp only [Act.put, sA_, sB_, sC_, i64_w, i32_w]; rfl
    refine pure_ (i := 16) (N := some 9) (v := ?_) (a' := ?_) #[true, true, true, true, true, true, true, true, true, true, true, true, true, true, true, true, true] rfl rfl (any_of HT_.out (by kernel_rfl)) (fun _ _ _ h => h) (Or.inl ⟨by rfl, ?_⟩) ?_ ?_
    rotate_left
    · intro w'
      go_simp
      with_reducible rfl
    rotate_left
    · simp only [Act.put, sA_, sB_, sC_, i64_w, i32_w]
      rfl
    refine done_ (done_of HT_.out (by kernel_rfl)) ?_
    try go_wp2
    go_roundg k1
    case measure => have := HK1.out; omega
    case rel => exact ⟨(y138), (wrap64 (x10_1 + 1)), (by first | rfl | (simp; done) | (simp [*]; done)), H', ⟨by have := HK1.out; omega⟩, ⟨by (with_reducible repeat (first | apply Kd.R_alloc | apply Kd.R_drewN | apply Kd.R_drew)); exact HO140.out⟩, ⟨by (with_reducible repeat (first | refine zC ?_ _ | refine zD ?_ | refine zA ?_ _)); exact BK131.out⟩, ⟨by repeat (first | (with_reducible first | exact HB.out | apply zJ | apply zF | apply zH | refine zE ?_ GE131.out) | exact HB.out)⟩⟩
end Go.Proofs.Ytlgclhhkgohanaa.F
end
section
namespace Go.Proofs.Ytlgclhhkgohanaa.F
open Go.RowKit Go.Proofs.YtlgclhhkgohanaaW.PrintWords Go.Proofs.YtlgclhhkgohanaaW.PrintLast Go.Proofs.YtlgclhhkgohanaaW.PrintMore
attribute [local go_sem] max2_int min2_int max_two min_two max_three min_three max_four min_four   -- for this text's walks alone
set_option linter.unusedVariables false
set_option linter.unusedSimpArgs false
def span_Cells.f (k : Nat) (l0_0 : List (S62)) (l0_1 : List Int) (a1 : Int) (a2 : Int) (a3 : Int) (a4 : Int) : Option (Int) := (span_Trim.f k l0_0 l0_1 a1 a2).bind fun t142 => ((span_Columns.f k l0_0 l0_1 a1 t142 a4).bind fun t143 => (if 0 ≤ (wrap64 ((t143.length : Int) - 1)) then (if (wrap64 ((t143.length : Int) - 1)) < (t143.length : Int) then (if a3 = 3 then (some (wrap64 ((rd t143 (wrap64 ((t143.length : Int) - 1))) + 1))) else (some (rd t143 (wrap64 ((t143.length : Int) - 1))))) else (none)) else (none)))
theorem span_Cells.mono : ∀ a0 a1 a2 a3 a4 a5 k, LeO (span_Cells.f k a0 a1 a2 a3 a4 a5) (span_Cells.f (k + 1) a0 a1 a2 a3 a4 a5) := by
  intro a0 a1 a2 a3 a4 a5 k
  unfold span_Cells.f
  repeat' first
      | (with_reducible exact span_Columns.mono _ _ _ _ _ _)
      | (with_reducible exact span_Trim.mono _ _ _ _ _)
      | (with_reducible exact LeO.refl _)
      | (with_reducible exact LeO.none _)
      | (with_reducible refine LeO.ite ?_ ?_)
      | (with_reducible refine LeO.bind ?_ (fun _ => ?_))
      | exact span_Columns.mono _ _ _ _ _ _
      | exact span_Trim.mono _ _ _ _ _
      | exact LeO.none _
      | refine LeO.ite ?_ ?_
      | refine LeO.bind ?_ (fun _ => ?_)
def span_Cells.T1 : Bool × List (List Nat × List Nat) := (true, [([], []), ([], []), ([], []), ([], []), ([], []), ([2, 3, 4], [2, 3, 4]), ([], []), ([0, 1, 5, 6, 5], [0, 1, 5, 6]), ([7, 7, 0, 1, 2, 3, 4, 5, 6, 7], [7])])
def span_Cells.B1 : List Nat := [0, 0, 0, 0, 0, 28, 0, 127, 255]
theorem span_Cells.tab1 : rtab .any (opsOf Try.f32 1) = span_Cells.T1 := by kernel_rfl
theorem span_Cells.bits1 : waitsOk span_Cells.T1.2 span_Cells.B1 = true := by kernel_rfl
set_option maxHeartbeats 8000000 in
set_option maxRecDepth 100000 in
theorem span_Cells.calls (k : Nat) (A0_0 : Option Addr) (c0_0 : Nat) (l0_0 : List (S62)) (A0_1 : Option Addr) (c0_1 : Nat) (l0_1 : List Int) (a1 : Int) (a2 : Int) (a3 : Int) (a4 : Int) (r : Int) (w : World) (hr0_0 : Kd.C k62 w A0_0 l0_0.length l0_0) (hc0_0 : l0_0.length ≤ c0_0) (hr0_1 : Kd.C (Kd.int .u8) w A0_1 l0_1.length l0_1) (hc0_1 : l0_1.length ≤ c0_1) (h : span_Cells.f k l0_0 l0_1 a1 a2 a3 a4 = some r) :
    Calls Try.prog 32 #[.agg #[.slice A0_0 l0_0.length c0_0, .slice A0_1 l0_1.length c0_1], .int .i64 a1, .int .i64 a2, .int .u8 a3, .int .i64 a4] w fun e w' => e = .returned (.int .i64 r) ∧ Below w.heap.size w w' := by
  have hu31 := Try.underlying31; have HR0_0 := zB.mk hr0_0; have HC0_0 := zB.mk hc0_0; clear hr0_0 hc0_0; have HR0_1 := zB.mk hr0_1; have HC0_1 := zB.mk hc0_1; clear hr0_1 hc0_1; have HB := zB.mk (Below.refl w.heap.size w); have H : ((span_Trim.f k l0_0 l0_1 a1 a2).bind fun t142 => ((span_Columns.f k l0_0 l0_1 a1 t142 a4).bind fun t143 => (if 0 ≤ (wrap64 ((t143.length : Int) - 1)) then (if (wrap64 ((t143.length : Int) - 1)) < (t143.length : Int) then (if a3 = 3 then (some (wrap64 ((rd t143 (wrap64 ((t143.length : Int) - 1))) + 1))) else (some (rd t143 (wrap64 ((t143.length : Int) - 1))))) else (none)) else (none)))) = some r := h
  clear h; replace H := Option.bind_eq_some_iff.mp H; obtain ⟨t142, A60, H⟩ := H; replace H : ((span_Columns.f k l0_0 l0_1 a1 t142 a4).bind fun t143 => (if 0 ≤ (wrap64 ((t143.length : Int) - 1)) then (if (wrap64 ((t143.length : Int) - 1)) < (t143.length : Int) then (if a3 = 3 then (some (wrap64 ((rd t143 (wrap64 ((t143.length : Int) - 1))) + 1))) else (some (rd t143 (wrap64 ((t143.length : Int) - 1))))) else (none)) else (none))) = some r := H
  have A6 := zB.mk A60; clear A60; replace H := Option.bind_eq_some_iff.mp H; obtain ⟨t143, A70, H⟩ := H; replace H : (if 0 ≤ (wrap64 ((t143.length : Int) - 1)) then (if (wrap64 ((t143.length : Int) - 1)) < (t143.length : Int) then (if a3 = 3 then (some (wrap64 ((rd t143 (wrap64 ((t143.length : Int) - 1))) + 1))) else (some (rd t143 (wrap64 ((t143.length : Int) - 1))))) else (none)) else (none)) = some r := H; have A7 := zB.mk A70; clear A70; obtain ⟨ji8, hji8⟩ : ∃ j_ : Int, (wrap64 ((t143.length : Int) - 1)) = j_ := ⟨_, rfl⟩; replace H : (if 0 ≤ (ji8) then (if (ji8) < (t143.length : Int) then (if a3 = 3 then (some (wrap64 ((rd t143 (ji8)) + 1))) else (some (rd t143 (ji8)))) else (none)) else (none)) = some r := by first | (rw [hji8] at H; exact H) | (simp only [hji8] at H ⊢; exact H)
  (try rw [hji8] at A6)
  (try rw [hji8] at A7)
  have hji8w : (IntKind.i64.wrap ((t143.length : Int) - 1)) = ji8 := (i64_w _).trans hji8
  by_cases c9 : 0 ≤ (ji8)
  rotate_left
  · rw [if_neg c9] at H
    exact absurd H (by simp)
  rw [if_pos c9] at H; have c9b0 : decide (0 ≤ (ji8)) = true := decide_eq_true c9
  clear c9; by_cases c10 : (ji8) < (t143.length : Int)
  rotate_left
  · rw [if_neg c10] at H
    exact absurd H (by simp)
  rw [if_pos c10] at H; have c10b0 : decide ((ji8) < (t143.length : Int)) = true := decide_eq_true c10
  clear c10; by_cases c11 : a3 = 3
  · rw [if_pos c11] at H
    have c11b0 : (a3 == 3) = true := beq_iff_eq.mpr c11
    have c11b1 : (a3 != 3) = false := bne_eq_false_iff_eq.mpr c11
    clear c11; obtain rfl := Option.some.inj H
    go_enter Try.func32, Try.ntmps32
    try go_wp2_with (first | ((with_reducible refine gate_dst (N := 5) rfl ?_); refine box_event ?hg (N := 5) ?hd (cs := #[.slice A0_0 l0_0.length c0_0, .slice A0_1 l0_1.length c0_1]) (t := 31) ?hr ?_; (case hd => rfl); (case hg => rfl); (case hr => first | (go_simp; done) | (go_simp; rfl)); intro gb141 hg w12 hbox hb; have n0_ := zB.mk (zO (by repeat (first | (with_reducible first | exact HB.out | apply zJ | apply zF | apply zH) | exact HB.out)) hb); have n1_ := zB.mk (hbox); have n2_ := zB.mk ((by rw [hg]; exact (zM (by repeat (first | (with_reducible first | exact HB.out | apply zJ | apply zF | apply zH) | exact HB.out))) : w.heap.size ≤ gb141)); have n3_ := zB.mk ((by rw [hg]; exact (zM (by repeat (first | (with_reducible first | exact HB.out | apply zJ | apply zF | apply zH) | exact HB.out))) : w.heap.size ≤ gb141)); clear HB; have HB := n0_; have BK141 := n1_; have GW141 := n2_; have GE141 := n3_; clear n0_ n1_ n2_ n3_; clear hb hbox hg))
    have n0_ := zB.mk (zD BK141.out); have n1_ := zB.mk (zH HB.out); clear BK141; clear HB; have BK141 := n0_; have HB := n1_; clear n0_ n1_; refine start_ (n := 9) (S := fun w' => w'.cell? ⟨gb141, 0, none⟩ = some (.slice A0_0 l0_0.length c0_0) ∧ w'.cell? ⟨gb141, 1, none⟩ = some (.slice A0_1 l0_1.length c0_1)) (ds := []) #[false, false, false, false, false, false, false, false, false] (by kernel_rfl) rfl rfl ⟨(zG BK141.out 0).trans rfl, (zG BK141.out 1).trans rfl⟩ (fun hHeld => ?_); refine with_tabW span_Cells.tab1 span_Cells.bits1 (fun HT_ HW_ => ?_)
    generalize w12.drew = w13 at BK141 HB hHeld ⊢
    refine pure_ (i := 1) (N := some 14) (v := ?_) (a' := ?_) #[false, true, false, false, false, false, false, false, false] rfl rfl (any_of HT_.out (by kernel_rfl)) (fun _ _ _ h => h) (Or.inl ⟨by rfl, ?_⟩) ?_ ?_
    rotate_left
    · intro w'
      go_simp
      with_reducible rfl
    rotate_left
    · simp only [Act.put, sA_, sB_, sC_, i64_w, i32_w]
      rfl
    refine pure_ (i := 3) (N := some 16) (v := ?_) (a' := ?_) #[false, true, false, true, false, false, false, false, false] rfl rfl (any_of HT_.out (by kernel_rfl)) (fun _ _ _ h => h) (Or.inl ⟨by rfl, ?_⟩) ?_ ?_
    rotate_left
    · intro w'
      go_simp
      with_reducible rfl
    rotate_left
    · simp only [Act.put, sA_, sB_, sC_, i64_w, i32_w]
      rfl
    refine pure_ (i := 4) (N := some 17) (v := ?_) (a' := ?_) #[false, true, false, true, true, false, false, false, false] rfl rfl (any_of HT_.out (by kernel_rfl)) (fun _ _ _ h => h) (Or.inl ⟨by rfl, ?_⟩) ?_ ?_
    rotate_left
    · intro w'
      go_simp
      with_reducible rfl
    rotate_left
    · simp only [Act.put, sA_, sB_, sC_, i64_w, i32_w]
      rfl
    refine pure_ (i := 6) (N := some 19) (v := ?_) (a' := ?_) #[false, true, false, true, true, false, true, false, false] rfl rfl (any_of HT_.out (by kernel_rfl)) (fun _ _ _ h => h) (Or.inl ⟨by rfl, ?_⟩) ?_ ?_
    rotate_left
    · intro w'
      go_simp
      with_reducible rfl
    rotate_left
    · simp only [Act.put, sA_, sB_, sC_, i64_w, i32_w]
      rfl
    refine take_ (i := 0) (N := some 13) (v := ?_) (a' := ?_) #[true, true, false, true, true, false, true, false, false] rfl rfl (take_ofW HT_.out HW_.out (by kernel_rfl)) (fun _ _ _ h => h) (Or.inl ⟨by rfl, ?_⟩) hHeld ?_ ?_
    rotate_left
    · rintro w' ⟨s0, s1⟩
      go_simp
      with_reducible rfl
    rotate_left
    · simp only [Act.put, sA_, sB_, sC_, i64_w, i32_w]
      rfl
    refine take_ (i := 2) (N := some 15) (v := ?_) (a' := ?_) #[true, true, true, true, true, false, true, false, false] rfl rfl (take_ofW HT_.out HW_.out (by kernel_rfl)) (fun _ _ _ h => h) (Or.inl ⟨by rfl, ?_⟩) hHeld ?_ ?_
    rotate_left
    · rintro w' ⟨s0, s1⟩
      go_simp
      with_reducible rfl
    rotate_left
    · simp only [Act.put, sA_, sB_, sC_, i64_w, i32_w]
      rfl
    refine one_ (i := 5) (N := some 18) #[true, true, true, true, true, true, true, false, false] rfl rfl (one_of HT_.out (by kernel_rfl)) (by decide) (fun K hK => ?_)
    refine goes_ Try.func38 (by kernel_rfl) rfl #[.agg #[.slice A0_0 l0_0.length c0_0, .slice A0_1 l0_1.length c0_1], .int .i64 a1, .int .i64 a2] (by rfl) rfl rfl (by (try simp only [List.map_toArray, List.map_cons, List.map_nil]); first | done | rfl | (simp only [List.length_drop, List.length_take]; rfl)) ?_
    with_reducible refine (span_Trim.calls k _ _ l0_0 _ _ l0_1 a1 a2 t142 _ ?side1 ?side2 ?side3 ?side4 A6.out).mono ?_
    (case side1 => repeat (first | exact (Kd.C_below HR0_0.out HB.out) | (with_reducible refine Kd.C_alloc ?_ _) | (with_reducible refine Kd.C_drewN ?_ _) | (with_reducible refine Kd.C_drew ?_)))
    (case side2 => exact HC0_0.out)
    (case side3 => repeat (first | exact (Kd.C_below HR0_1.out HB.out) | (with_reducible refine Kd.C_alloc ?_ _) | (with_reducible refine Kd.C_drewN ?_ _) | (with_reducible refine Kd.C_drew ?_)))
    (case side4 => exact HC0_1.out)
    rintro e w14 ⟨rfl, hb⟩
    refine ⟨_, rfl, ?_⟩
    have n0_ := zB.mk (zK (g := gb141) (o := .cells #[.slice A0_0 l0_0.length c0_0, .slice A0_1 l0_1.length c0_1] 31 (0, 0)) (by (with_reducible repeat (first | refine zC ?_ _ | refine zD ?_ | refine zA ?_ _)); exact BK141.out) hb)
    have n1_ := zB.mk (zO (by repeat (first | (with_reducible first | exact HB.out | apply zJ | apply zF | apply zH | refine zE ?_ GE141.out) | exact HB.out)) hb)
    clear BK141 HB; have BK141 := n0_; have HB := n1_; clear n0_ n1_; (try clear hb)
    (try clear hb2)
    (try clear hk)
    (try clear hi)
    refine hK.out _ _ ⟨(zG BK141.out 0).trans rfl, (zG BK141.out 1).trans rfl⟩ (fun hHeld => ?_)
    clear hK K; refine norm_ (a' := ?_) ?_ ?_
    rotate_left
    · show Act.put _ (some 18) _ = _
      simp only [Act.put, sA_, sB_, sC_, i64_w, i32_w]; rfl
    refine one_ (i := 7) (N := some 20) #[true, true, true, true, true, true, true, true, false] rfl rfl (one_of HT_.out (by kernel_rfl)) (by decide) (fun K hK => ?_)
    refine goes_ Try.func44 (by kernel_rfl) rfl #[.agg #[.slice A0_0 l0_0.length c0_0, .slice A0_1 l0_1.length c0_1], .int .i64 a1, .int .i64 t142, .int .i64 a4] (by rfl) rfl rfl (by (try simp only [List.map_toArray, List.map_cons, List.map_nil]); first | done | rfl | (simp only [List.length_drop, List.length_take]; rfl)) ?_
    with_reducible refine (span_Columns.calls k _ _ l0_0 _ _ l0_1 a1 t142 a4 t143 _ ?side1 ?side2 ?side3 ?side4 A7.out).mono ?_
    (case side1 => repeat (first | exact (Kd.C_below HR0_0.out HB.out) | (with_reducible refine Kd.C_alloc ?_ _) | (with_reducible refine Kd.C_drewN ?_ _) | (with_reducible refine Kd.C_drew ?_)))
    (case side2 => exact HC0_0.out)
    (case side3 => repeat (first | exact (Kd.C_below HR0_1.out HB.out) | (with_reducible refine Kd.C_alloc ?_ _) | (with_reducible refine Kd.C_drewN ?_ _) | (with_reducible refine Kd.C_drew ?_)))
    (case side4 => exact HC0_1.out)
    rintro e w15 ⟨v144, rfl, ho0, hb⟩
    refine ⟨_, rfl, ?_⟩
    have n0_ := zB.mk (Kd.R_lower ho0 (zM (by repeat (first | (with_reducible first | exact HB.out | apply zJ | apply zF | apply zH | refine zE ?_ GE141.out) | exact HB.out))))
    have n1_ := zB.mk (zK (g := gb141) (o := .cells #[.slice A0_0 l0_0.length c0_0, .slice A0_1 l0_1.length c0_1] 31 (0, 0)) (by (with_reducible repeat (first | refine zC ?_ _ | refine zD ?_ | refine zA ?_ _)); exact BK141.out) hb)
    have n2_ := zB.mk (zO (by repeat (first | (with_reducible first | exact HB.out | apply zJ | apply zF | apply zH | refine zE ?_ GE141.out) | exact HB.out)) hb)
    clear BK141 HB; have HO145 := n0_; have BK141 := n1_; have HB := n2_; clear n0_ n1_ n2_; (try clear hb)
    (try clear hb2)
    (try clear hk)
    (try clear hi)
    (try clear ho0)
    refine hK.out _ _ ⟨(zG BK141.out 0).trans rfl, (zG BK141.out 1).trans rfl⟩ (fun hHeld => ?_)
    clear hK K; refine norm_ (a' := ?_) ?_ ?_
    rotate_left
    · show Act.put _ (some 20) _ = _
      simp only [Act.put, sA_, sB_, sC_, i64_w, i32_w]; rfl
    refine pure_ (i := 8) (N := some 11) (v := ?_) (a' := ?_) #[true, true, true, true, true, true, true, true, true] rfl rfl (any_of HT_.out (by kernel_rfl)) (fun _ _ _ h => h) (Or.inl ⟨by rfl, ?_⟩) ?_ ?_
    rotate_left
    · intro w'
      go_simp
      with_reducible rfl
    rotate_left
    · simp only [Act.put, sA_, sB_, sC_, i64_w, i32_w]
      rfl
    refine done_ (done_of HT_.out (by kernel_rfl)) ?_
    obtain ⟨Ao16, co16, eo16⟩ := Kd.R_slice HO145.out; subst eo16; have p146 : 0 ≤ ((ji8) : Int) := of_decide_eq_true (by first | (with_reducible assumption) | assumption)
    have q146 : (ji8) < (t143.length : Int) := of_decide_eq_true (by first | (with_reducible assumption) | assumption)
    obtain ⟨ad146, e146, hx146_0⟩ := Kd.at_int (Kd.R_reads' HO145.out).2.2 (ji8) p146 q146; cases e146
    replace p146 := eq_true p146; replace q146 := eq_true q146; try go_wp2
    go_ret
    exact ⟨by first | rfl | (simp [errW_none, errW_some] <;> rfl) | (simp only [← hji8]; first | rfl | (simp [errW_none, errW_some] <;> rfl)) | (simp [*, errW_none, errW_some] <;> rfl), by repeat (first | (with_reducible first | exact HB.out | apply zJ | apply zF | apply zH | refine zE ?_ GE141.out) | exact HB.out)⟩
  rw [if_neg c11] at H; have c11b0 : (a3 == 3) = false := beq_eq_false_iff_ne.mpr c11
  have c11b1 : (a3 != 3) = true := bne_iff_ne.mpr c11
  obtain rfl := Option.some.inj H
  go_enter Try.func32, Try.ntmps32
  try go_wp2_with (first | ((with_reducible refine gate_dst (N := 5) rfl ?_); refine box_event ?hg (N := 5) ?hd (cs := #[.slice A0_0 l0_0.length c0_0, .slice A0_1 l0_1.length c0_1]) (t := 31) ?hr ?_; (case hd => rfl); (case hg => rfl); (case hr => first | (go_simp; done) | (go_simp; rfl)); intro gb141 hg w17 hbox hb; have n0_ := zB.mk (zO (by repeat (first | (with_reducible first | exact HB.out | apply zJ | apply zF | apply zH) | exact HB.out)) hb); have n1_ := zB.mk (hbox); have n2_ := zB.mk ((by rw [hg]; exact (zM (by repeat (first | (with_reducible first | exact HB.out | apply zJ | apply zF | apply zH) | exact HB.out))) : w.heap.size ≤ gb141)); have n3_ := zB.mk ((by rw [hg]; exact (zM (by repeat (first | (with_reducible first | exact HB.out | apply zJ | apply zF | apply zH) | exact HB.out))) : w.heap.size ≤ gb141)); clear HB; have HB := n0_; have BK141 := n1_; have GW141 := n2_; have GE141 := n3_; clear n0_ n1_ n2_ n3_; clear hb hbox hg))
  have n0_ := zB.mk (zD BK141.out); have n1_ := zB.mk (zH HB.out); clear BK141; clear HB; have BK141 := n0_; have HB := n1_; clear n0_ n1_; refine start_ (n := 9) (S := fun w' => w'.cell? ⟨gb141, 0, none⟩ = some (.slice A0_0 l0_0.length c0_0) ∧ w'.cell? ⟨gb141, 1, none⟩ = some (.slice A0_1 l0_1.length c0_1)) (ds := []) #[false, false, false, false, false, false, false, false, false] (by kernel_rfl) rfl rfl ⟨(zG BK141.out 0).trans rfl, (zG BK141.out 1).trans rfl⟩ (fun hHeld => ?_); refine with_tabW span_Cells.tab1 span_Cells.bits1 (fun HT_ HW_ => ?_)
  generalize w17.drew = w18 at BK141 HB hHeld ⊢
  refine pure_ (i := 1) (N := some 14) (v := ?_) (a' := ?_) #[false, true, false, false, false, false, false, false, false] rfl rfl (any_of HT_.out (by kernel_rfl)) (fun _ _ _ h => h) (Or.inl ⟨by rfl, ?_⟩) ?_ ?_
  rotate_left
  · intro w'
    go_simp
    with_reducible rfl
  rotate_left
  · simp only [Act.put, sA_, sB_, sC_, i64_w, i32_w]
    rfl
  refine pure_ (i := 3) (N := some 16) (v := ?_) (a' := ?_) #[false, true, false, true, false, false, false, false, false] rfl rfl (any_of HT_.out (by kernel_rfl)) (fun _ _ _ h => h) (Or.inl ⟨by rfl, ?_⟩) ?_ ?_
  rotate_left
  · intro w'
    go_simp
    with_reducible rfl
  rotate_left
  · simp only [Act.put, sA_, sB_, sC_, i64_w, i32_w]
    rfl
  refine pure_ (i := 4) (N := some 17) (v := ?_) (a' := ?_) #[false, true, false, true, true, false, false, false, false] rfl rfl (any_of HT_.out (by kernel_rfl)) (fun _ _ _ h => h) (Or.inl ⟨by rfl, ?_⟩) ?_ ?_
  rotate_left
  · intro w'
    go_simp
    with_reducible rfl
  rotate_left
  · simp only [Act.put, sA_, sB_, sC_, i64_w, i32_w]
    rfl
  refine pure_ (i := 6) (N := some 19) (v := ?_) (a' := ?_) #[false, true, false, true, true, false, true, false, false] rfl rfl (any_of HT_.out (by kernel_rfl)) (fun _ _ _ h => h) (Or.inl ⟨by rfl, ?_⟩) ?_ ?_
  rotate_left
  · intro w'
    go_simp
    with_reducible rfl
  rotate_left
  · simp only [Act.put, sA_, sB_, sC_, i64_w, i32_w]
    rfl
  refine take_ (i := 0) (N := some 13) (v := ?_) (a' := ?_) #[true, true, false, true, true, false, true, false, false] rfl rfl (take_ofW HT_.out HW_.out (by kernel_rfl)) (fun _ _ _ h => h) (Or.inl ⟨by rfl, ?_⟩) hHeld ?_ ?_
  rotate_left
  · rintro w' ⟨s0, s1⟩
    go_simp
    with_reducible rfl
  rotate_left
  · simp only [Act.put, sA_, sB_, sC_, i64_w, i32_w]
    rfl
  refine take_ (i := 2) (N := some 15) (v := ?_) (a' := ?_) #[true, true, true, true, true, false, true, false, false] rfl rfl (take_ofW HT_.out HW_.out (by kernel_rfl)) (fun _ _ _ h => h) (Or.inl ⟨by rfl, ?_⟩) hHeld ?_ ?_
  rotate_left
  · rintro w' ⟨s0, s1⟩
    go_simp
    with_reducible rfl
  rotate_left
  · simp only [Act.put, sA_, sB_, sC_, i64_w, i32_w]
    rfl
  refine one_ (i := 5) (N := some 18) #[true, true, true, true, true, true, true, false, false] rfl rfl (one_of HT_.out (by kernel_rfl)) (by decide) (fun K hK => ?_)
  refine goes_ Try.func38 (by kernel_rfl) rfl #[.agg #[.slice A0_0 l0_0.length c0_0, .slice A0_1 l0_1.length c0_1], .int .i64 a1, .int .i64 a2] (by rfl) rfl rfl (by (try simp only [List.map_toArray, List.map_cons, List.map_nil]); first | done | rfl | (simp only [List.length_drop, List.length_take]; rfl)) ?_
  with_reducible refine (span_Trim.calls k _ _ l0_0 _ _ l0_1 a1 a2 t142 _ ?side1 ?side2 ?side3 ?side4 A6.out).mono ?_
  (case side1 => repeat (first | exact (Kd.C_below HR0_0.out HB.out) | (with_reducible refine Kd.C_alloc ?_ _) | (with_reducible refine Kd.C_drewN ?_ _) | (with_reducible refine Kd.C_drew ?_)))
  (case side2 => exact HC0_0.out)
  (case side3 => repeat (first | exact (Kd.C_below HR0_1.out HB.out) | (with_reducible refine Kd.C_alloc ?_ _) | (with_reducible refine Kd.C_drewN ?_ _) | (with_reducible refine Kd.C_drew ?_)))
  (case side4 => exact HC0_1.out)
  rintro e w19 ⟨rfl, hb⟩
  refine ⟨_, rfl, ?_⟩
  have n0_ := zB.mk (zK (g := gb141) (o := .cells #[.slice A0_0 l0_0.length c0_0, .slice A0_1 l0_1.length c0_1] 31 (0, 0)) (by (with_reducible repeat (first | refine zC ?_ _ | refine zD ?_ | refine zA ?_ _)); exact BK141.out) hb)
  have n1_ := zB.mk (zO (by repeat (first | (with_reducible first | exact HB.out | apply zJ | apply zF | apply zH | refine zE ?_ GE141.out) | exact HB.out)) hb)
  clear BK141 HB; have BK141 := n0_; have HB := n1_; clear n0_ n1_; (try clear hb)
  (try clear hb2)
  (try clear hk)
  (try clear hi)
  refine hK.out _ _ ⟨(zG BK141.out 0).trans rfl, (zG BK141.out 1).trans rfl⟩ (fun hHeld => ?_)
  clear hK K; refine norm_ (a' := ?_) ?_ ?_
  rotate_left
  · show Act.put _ (some 18) _ = _
    simp only [Act.put, sA_, sB_, sC_, i64_w, i32_w]; rfl
  refine one_ (i := 7) (N := some 20) #[true, true, true, true, true, true, true, true, false] rfl rfl (one_of HT_.out (by kernel_rfl)) (by decide) (fun K hK => ?_)
  refine goes_ Try.func44 (by kernel_rfl) rfl #[.agg #[.slice A0_0 l0_0.length c0_0, .slice A0_1 l0_1.length c0_1], .int .i64 a1, .int .i64 t142, .int .i64 a4] (by rfl) rfl rfl (by (try simp only [List.map_toArray, List.map_cons, List.map_nil]); first | done | rfl | (simp only [List.length_drop, List.length_take]; rfl)) ?_
  with_reducible refine (span_Columns.calls k _ _ l0_0 _ _ l0_1 a1 t142 a4 t143 _ ?side1 ?side2 ?side3 ?side4 A7.out).mono ?_
  (case side1 => repeat (first | exact (Kd.C_below HR0_0.out HB.out) | (with_reducible refine Kd.C_alloc ?_ _) | (with_reducible refine Kd.C_drewN ?_ _) | (with_reducible refine Kd.C_drew ?_)))
  (case side2 => exact HC0_0.out)
  (case side3 => repeat (first | exact (Kd.C_below HR0_1.out HB.out) | (with_reducible refine Kd.C_alloc ?_ _) | (with_reducible refine Kd.C_drewN ?_ _) | (with_reducible refine Kd.C_drew ?_)))
  (case side4 => exact HC0_1.out)
  rintro e w20 ⟨v144, rfl, ho0, hb⟩
  refine ⟨_, rfl, ?_⟩
  have n0_ := zB.mk (Kd.R_lower ho0 (zM (by repeat (first | (with_reducible first | exact HB.out | apply zJ | apply zF | apply zH | refine zE ?_ GE141.out) | exact HB.out))))
  have n1_ := zB.mk (zK (g := gb141) (o := .cells #[.slice A0_0 l0_0.length c0_0, .slice A0_1 l0_1.length c0_1] 31 (0, 0)) (by (with_reducible repeat (first | refine zC ?_ _ | refine zD ?_ | refine zA ?_ _)); exact BK141.out) hb)
  have n2_ := zB.mk (zO (by repeat (first | (with_reducible first | exact HB.out | apply zJ | apply zF | apply zH | refine zE ?_ GE141.out) | exact HB.out)) hb)
  clear BK141 HB; have HO145 := n0_; have BK141 := n1_; have HB := n2_; clear n0_ n1_ n2_; (try clear hb)
  (try clear hb2)
  (try clear hk)
  (try clear hi)
  (try clear ho0)
  refine hK.out _ _ ⟨(zG BK141.out 0).trans rfl, (zG BK141.out 1).trans rfl⟩ (fun hHeld => ?_)
  clear hK K; refine norm_ (a' := ?_) ?_ ?_
  rotate_left
  · show Act.put _ (some 20) _ = _
    simp only [Act.put, sA_, sB_, sC_, i64_w, i32_w]; rfl
  refine pure_ (i := 8) (N := some 11) (v := ?_) (a' := ?_) #[true, true, true, true, true, true, true, true, true] rfl rfl (any_of HT_.out (by kernel_rfl)) (fun _ _ _ h => h) (Or.inl ⟨by rfl, ?_⟩) ?_ ?_
  rotate_left
  · intro w'
    go_simp
    with_reducible rfl
  rotate_left
  · simp only [Act.put, sA_, sB_, sC_, i64_w, i32_w]
    rfl
  refine done_ (done_of HT_.out (by kernel_rfl)) ?_
  obtain ⟨Ao21, co21, eo21⟩ := Kd.R_slice HO145.out; subst eo21; have p146 : 0 ≤ ((ji8) : Int) := of_decide_eq_true (by first | (with_reducible assumption) | assumption)
  have q146 : (ji8) < (t143.length : Int) := of_decide_eq_true (by first | (with_reducible assumption) | assumption)
  obtain ⟨ad146, e146, hx146_0⟩ := Kd.at_int (Kd.R_reads' HO145.out).2.2 (ji8) p146 q146; cases e146
  replace p146 := eq_true p146; replace q146 := eq_true q146; try go_wp2
  go_ret
  exact ⟨by first | rfl | (simp [errW_none, errW_some] <;> rfl) | (simp only [← hji8]; first | rfl | (simp [errW_none, errW_some] <;> rfl)) | (simp [*, errW_none, errW_some] <;> rfl), by repeat (first | (with_reducible first | exact HB.out | apply zJ | apply zF | apply zH | refine zE ?_ GE141.out) | exact HB.out)⟩
end Go.Proofs.Ytlgclhhkgohanaa.F
end
section
namespace Go.Proofs.Ytlgclhhkgohanaa.F
open Go.RowKit Go.Proofs.YtlgclhhkgohanaaW.PrintWords Go.Proofs.YtlgclhhkgohanaaW.PrintLast Go.Proofs.YtlgclhhkgohanaaW.PrintMore
attribute [local go_sem] max2_int min2_int max_two min_two max_three min_three max_four min_four   -- for this text's walks alone
set_option linter.unusedVariables false
set_option linter.unusedSimpArgs false
def span_Make.f (k : Nat) (l0_0 : List (S62)) (l0_1 : List Int) (a1 : Int) (a2 : Int) (a3 : Int) (a4 : Int) : Option (Int × Int × Int × Int) := (span_Cells.f k l0_0 l0_1 a1 a2 a3 a4).bind fun t149 => (some (a1, a2, t149, a3))
theorem span_Make.mono : ∀ a0 a1 a2 a3 a4 a5 k, LeO (span_Make.f k a0 a1 a2 a3 a4 a5) (span_Make.f (k + 1) a0 a1 a2 a3 a4 a5) := by
  intro a0 a1 a2 a3 a4 a5 k
  unfold span_Make.f
  repeat' first
      | (with_reducible exact span_Cells.mono _ _ _ _ _ _ _)
      | (with_reducible exact LeO.refl _)
      | (with_reducible exact LeO.none _)
      | (with_reducible refine LeO.ite ?_ ?_)
      | (with_reducible refine LeO.bind ?_ (fun _ => ?_))
      | exact span_Cells.mono _ _ _ _ _ _ _
      | exact LeO.none _
      | refine LeO.ite ?_ ?_
      | refine LeO.bind ?_ (fun _ => ?_)
set_option maxHeartbeats 8000000 in
set_option maxRecDepth 100000 in
theorem span_Make.calls (k : Nat) (A0_0 : Option Addr) (c0_0 : Nat) (l0_0 : List (S62)) (A0_1 : Option Addr) (c0_1 : Nat) (l0_1 : List Int) (a1 : Int) (a2 : Int) (a3 : Int) (a4 : Int) (r1 : Int) (r2 : Int) (r3 : Int) (r4 : Int) (w : World) (hr0_0 : Kd.C k62 w A0_0 l0_0.length l0_0) (hc0_0 : l0_0.length ≤ c0_0) (hr0_1 : Kd.C (Kd.int .u8) w A0_1 l0_1.length l0_1) (hc0_1 : l0_1.length ≤ c0_1) (h : span_Make.f k l0_0 l0_1 a1 a2 a3 a4 = some (r1, r2, r3, r4)) :
    Calls Try.prog 25 #[.agg #[.slice A0_0 l0_0.length c0_0, .slice A0_1 l0_1.length c0_1], .int .i64 a1, .int .i64 a2, .int .u8 a3, .int .i64 a4] w fun e w' => e = .returned (.agg #[.int .i64 r1, .int .i64 r2, .int .i64 r3, .int .u8 r4]) ∧ Below w.heap.size w w' := by
  have hu31 := Try.underlying31; have hu48 := Try.underlying48; have HR0_0 := zB.mk hr0_0; have HC0_0 := zB.mk hc0_0; clear hr0_0 hc0_0; have HR0_1 := zB.mk hr0_1; have HC0_1 := zB.mk hc0_1; clear hr0_1 hc0_1; have HB := zB.mk (Below.refl w.heap.size w); have H : ((span_Cells.f k l0_0 l0_1 a1 a2 a3 a4).bind fun t149 => (some (a1, a2, t149, a3))) = some (r1, r2, r3, r4) := h
  clear h; replace H := Option.bind_eq_some_iff.mp H; obtain ⟨t149, A60, H⟩ := H; replace H : (some (a1, a2, t149, a3)) = some (r1, r2, r3, r4) := H; have A6 := zB.mk A60; clear A60; simp only [Option.some.injEq, Prod.mk.injEq] at H; obtain ⟨rfl, rfl, rfl, rfl⟩ := H; go_enter Try.func25, Try.ntmps25
  go_wp2_with (first | ((with_reducible refine gate_dst (N := 5) rfl ?_); refine box_event ?hg (N := 5) ?hd (cs := #[.slice A0_0 l0_0.length c0_0, .slice A0_1 l0_1.length c0_1]) (t := 31) ?hr ?_; (case hd => rfl); (case hg => rfl); (case hr => first | (go_simp; done) | (go_simp; rfl)); intro gb147 hg w7 hbox hb; have n0_ := zB.mk (zO (by repeat (first | (with_reducible first | exact HB.out | apply zJ | apply zF | apply zH) | exact HB.out)) hb); have n1_ := zB.mk (hbox); have n2_ := zB.mk ((by rw [hg]; exact (zM (by repeat (first | (with_reducible first | exact HB.out | apply zJ | apply zF | apply zH) | exact HB.out))) : w.heap.size ≤ gb147)); have n3_ := zB.mk ((by rw [hg]; exact (zM (by repeat (first | (with_reducible first | exact HB.out | apply zJ | apply zF | apply zH) | exact HB.out))) : w.heap.size ≤ gb147)); clear HB; have HB := n0_; have BK147 := n1_; have GW147 := n2_; have GE147 := n3_; clear n0_ n1_ n2_ n3_; clear hb hbox hg) | ((with_reducible refine gate_dst (N := 10) rfl ?_); refine box_event ?hg (N := 10) ?hd (cs := #[.int .i64 0, .int .i64 0, .int .i64 0, .int .u8 0]) (t := 48) ?hr ?_; (case hd => rfl); (case hg => rfl); (case hr => first | (go_simp; done) | (go_simp; rfl)); intro gb148 hg w8 hbox hb; have n0_ := zB.mk (zK (g := gb147) (o := .cells #[.slice A0_0 l0_0.length c0_0, .slice A0_1 l0_1.length c0_1] 31 (0, 0)) (by (with_reducible repeat (first | refine zC ?_ _ | refine zD ?_ | refine zA ?_ _)); exact BK147.out) hb); have n1_ := zB.mk (zO (by repeat (first | (with_reducible first | exact HB.out | apply zJ | apply zF | apply zH | refine zE ?_ GE147.out) | exact HB.out)) hb); have n2_ := zB.mk (hbox); have n3_ := zB.mk ((by rw [hg]; exact (zM (by repeat (first | (with_reducible first | exact HB.out | apply zJ | apply zF | apply zH | refine zE ?_ GE147.out) | exact HB.out))) : w.heap.size ≤ gb148)); have n4_ := zB.mk ((by rw [hg]; exact (zM (by repeat (first | (with_reducible first | exact HB.out | apply zJ | apply zF | apply zH | refine zE ?_ GE147.out) | exact HB.out))) : w.heap.size ≤ gb148)); have n5_ := zB.mk ((by rw [hg]; exact Nat.ne_of_lt (blk_lt (g := gb147) (o := .cells #[.slice A0_0 l0_0.length c0_0, .slice A0_1 l0_1.length c0_1] 31 (0, 0)) (by (with_reducible repeat (first | refine zC ?_ _ | refine zD ?_ | refine zA ?_ _)); exact BK147.out)) : gb147 ≠ gb148)); have n6_ := zB.mk ((by rw [hg]; exact Nat.ne_of_gt (blk_lt (g := gb147) (o := .cells #[.slice A0_0 l0_0.length c0_0, .slice A0_1 l0_1.length c0_1] 31 (0, 0)) (by (with_reducible repeat (first | refine zC ?_ _ | refine zD ?_ | refine zA ?_ _)); exact BK147.out)) : gb148 ≠ gb147)); clear BK147; clear HB; have BK147 := n0_; have HB := n1_; have BK148 := n2_; have GW148 := n3_; have GE148 := n4_; have NB147_148 := n5_; have NB148_147 := n6_; clear n0_ n1_ n2_ n3_ n4_ n5_ n6_; clear hb hbox hg; have hnb9 := NB147_148.out; have hnc9 := NB148_147.out; have hcz10_0 : w8.cell? ⟨gb147, 0, none⟩ = some (.slice A0_0 l0_0.length c0_0) := (zG BK147.out 0).trans rfl; have hcz10_1 : w8.cell? ⟨gb147, 1, none⟩ = some (.slice A0_1 l0_1.length c0_1) := (zG BK147.out 1).trans rfl; have hfz10_0 := zI BK147.out 0; have hfz10_1 := zI BK147.out 1) | ((with_reducible refine gate_callee (f := 32) rfl ?_); refine goesL_ (some 18) rfl rfl Try.func32 (by kernel_rfl) rfl #[.agg #[.slice A0_0 l0_0.length c0_0, .slice A0_1 l0_1.length c0_1], .int .i64 a1, .int .i64 a2, .int .u8 a3, .int .i64 a4] rfl (by (try simp only [List.map_toArray, List.map_cons, List.map_nil]); first | done | rfl | (simp only [List.length_drop, List.length_take]; rfl)) ?_; (with_reducible refine (span_Cells.calls k _ _ l0_0 _ _ l0_1 a1 a2 a3 a4 t149 _ ?side1 ?side2 ?side3 ?side4 A6.out).mono ?_); (case side1 => repeat (first | exact (Kd.C_below HR0_0.out HB.out) | (with_reducible refine Kd.C_alloc ?_ _) | (with_reducible refine Kd.C_drewN ?_ _) | (with_reducible refine Kd.C_drew ?_))); (case side2 => exact HC0_0.out); (case side3 => repeat (first | exact (Kd.C_below HR0_1.out HB.out) | (with_reducible refine Kd.C_alloc ?_ _) | (with_reducible refine Kd.C_drewN ?_ _) | (with_reducible refine Kd.C_drew ?_))); (case side4 => exact HC0_1.out); rintro e w11 ⟨rfl, hb⟩; refine ⟨_, rfl, ?_⟩; have n0_ := zB.mk (zK (g := gb147) (o := .cells #[.slice A0_0 l0_0.length c0_0, .slice A0_1 l0_1.length c0_1] 31 (0, 0)) (by (with_reducible repeat (first | refine zC ?_ _ | refine zD ?_ | refine zA ?_ _)); exact BK147.out) hb); have n1_ := zB.mk (zK (g := gb148) (o := .cells #[.int .i64 0, .int .i64 0, .int .i64 0, .int .u8 0] 48 (0, 0)) (by (with_reducible repeat (first | refine zC ?_ _ | refine zD ?_ | refine zA ?_ _)); exact BK148.out) hb); have n2_ := zB.mk (zO (by repeat (first | (with_reducible first | exact HB.out | apply zJ | apply zF | apply zH | refine zE ?_ GE147.out | refine zE ?_ GE148.out) | exact HB.out)) hb); clear BK147; clear BK148; clear HB; have BK147 := n0_; have BK148 := n1_; have HB := n2_; clear n0_ n1_ n2_; (try clear hb); (try clear hb2); (try clear hk); (try clear hi); have hcz12_0 : w11.cell? ⟨gb148, 0, none⟩ = some (.int .i64 0) := (zG BK148.out 0).trans rfl; have hcz12_1 : w11.cell? ⟨gb148, 1, none⟩ = some (.int .i64 0) := (zG BK148.out 1).trans rfl; have hcz12_2 : w11.cell? ⟨gb148, 2, none⟩ = some (.int .i64 0) := (zG BK148.out 2).trans rfl; have hcz12_3 : w11.cell? ⟨gb148, 3, none⟩ = some (.int .u8 0) := (zG BK148.out 3).trans rfl; have hfz12_0 := zI BK148.out 0; have hfz12_1 := zI BK148.out 1; have hfz12_2 := zI BK148.out 2; have hfz12_3 := zI BK148.out 3) | ((with_reducible refine gate_store (t := 48) (p := 10) rfl ?_); refine store_event (t := 48) (p := 10) (v := ?vo_w13) (w1 := ((((w11.setCell ⟨gb148, 0, none⟩ (.int .i64 a1)).setCell ⟨gb148, 1, none⟩ (.int .i64 a2)).setCell ⟨gb148, 2, none⟩ (.int .i64 t149)).setCell ⟨gb148, 3, none⟩ (.int .u8 a3))) ?hg ?ho ?hn ?hr ?_; (case ho => rfl); (case hg => rfl); (case hn => rfl); (case hr => first | (go_simp; done) | (go_simp; rfl)); intro w13 hw; have n0_ : zB (w13.heap[gb147]? = some (.cells #[.slice A0_0 l0_0.length c0_0, .slice A0_1 l0_1.length c0_1] 31 (0, 0))) := ⟨(by rw [hw]; exact (by (with_reducible repeat (first | refine zC ?_ _ | refine zD ?_ | refine zA ?_ _)); refine zN ?_ NB147_148.out _; (with_reducible repeat (first | refine zC ?_ _ | refine zD ?_ | refine zA ?_ _)); refine zN ?_ NB147_148.out _; (with_reducible repeat (first | refine zC ?_ _ | refine zD ?_ | refine zA ?_ _)); refine zN ?_ NB147_148.out _; (with_reducible repeat (first | refine zC ?_ _ | refine zD ?_ | refine zA ?_ _)); refine zN ?_ NB147_148.out _; (with_reducible repeat (first | refine zC ?_ _ | refine zD ?_ | refine zA ?_ _)); exact BK147.out))⟩; have n1_ : zB (w13.heap[gb148]? = some (.cells #[.int .i64 a1, .int .i64 a2, .int .i64 t149, .int .u8 a3] 48 (0, 0))) := ⟨(by rw [hw]; exact (by (with_reducible repeat (first | refine zC ?_ _ | refine zD ?_ | refine zA ?_ _)); refine blk_put (cs := #[.int .i64 a1, .int .i64 a2, .int .i64 t149, .int .u8 0]) ?_ 3 _ rfl; (with_reducible repeat (first | refine zC ?_ _ | refine zD ?_ | refine zA ?_ _)); refine blk_put (cs := #[.int .i64 a1, .int .i64 a2, .int .i64 0, .int .u8 0]) ?_ 2 _ rfl; (with_reducible repeat (first | refine zC ?_ _ | refine zD ?_ | refine zA ?_ _)); refine blk_put (cs := #[.int .i64 a1, .int .i64 0, .int .i64 0, .int .u8 0]) ?_ 1 _ rfl; (with_reducible repeat (first | refine zC ?_ _ | refine zD ?_ | refine zA ?_ _)); refine blk_put (cs := #[.int .i64 0, .int .i64 0, .int .i64 0, .int .u8 0]) ?_ 0 _ rfl; (with_reducible repeat (first | refine zC ?_ _ | refine zD ?_ | refine zA ?_ _)); exact BK148.out))⟩; have n2_ : zB (Below w.heap.size w w13) := ⟨(by rw [hw]; exact (by repeat (first | (with_reducible first | exact HB.out | apply zJ | apply zF | apply zH | refine zE ?_ GE147.out | refine zE ?_ GE148.out) | exact HB.out)))⟩; clear hw; clear BK147; clear BK148; clear HB; have BK147 := n0_; have BK148 := n1_; have HB := n2_; clear n0_ n1_ n2_))
  refine bodyPost_ret (results_cell_row rfl _ _ gb148 48 #[.int .i64 a1, .int .i64 a2, .int .i64 t149, .int .u8 a3] (0, 0) _ rfl (by (with_reducible repeat (first | refine zC ?_ _ | refine zD ?_ | refine zA ?_ _)); exact BK148.out) Try.underlying48 rfl (by kernel_rfl)) rfl ?_
  exact ⟨by first | rfl | (simp [errW_none, errW_some] <;> rfl) | (simp [*, errW_none, errW_some] <;> rfl), by repeat (first | (with_reducible first | exact HB.out | apply zJ | apply zF | apply zH | refine zE ?_ GE147.out | refine zE ?_ GE148.out) | exact HB.out)⟩
end Go.Proofs.Ytlgclhhkgohanaa.F
end
section
namespace Go.Proofs.Ytlgclhhkgohanaa.F
open Go.RowKit Go.Proofs.YtlgclhhkgohanaaW.PrintWords Go.Proofs.YtlgclhhkgohanaaW.PrintLast Go.Proofs.YtlgclhhkgohanaaW.PrintMore
attribute [local go_sem] max2_int min2_int max_two min_two max_three min_three max_four min_four   -- for this text's walks alone
set_option linter.unusedVariables false
set_option linter.unusedSimpArgs false
mutual
def best_Break.l0 : Nat → Int → Int → List (S65) → Int → List (S62) → List Int → Int → Int → Int → Int → Int → Nat → Option ((List (S48)) × Bool)
  | 0, _, _, _, _, _, _, _, _, _, _, _, _ => none
  | k + 1, x1, x2, x10, x11, x151000, x151001, x152000, x152001, x152002, x152003, x152004, x152005 => if x11 ≥ x1 then (if 0 ≤ (wrap64 (x11 - x1)) then (if (wrap64 (x11 - x1)) < (x10.length : Int) then ((some (x10.set ((wrap64 (x11 - x1)) : Int).toNat (⟨0, (-1)⟩ : S65) : List (S65))).bind fun y155 => (if x11 = x1 then ((best_next.f k x151000 x151001 x11 x1 x2 y155 x152000 x152001 x152002 x152003 x152004 x152005).bind fun bt156 => (best_Break.l0 k x1 x2 (y155.set ((wrap64 (x11 - x1)) : Int).toNat (⟨bt156.1, bt156.2⟩ : S65)) (wrap64 (x11 - 1)) x151000 x151001 x152000 x152001 x152002 x152003 x152004 x152005)) else (if 0 ≤ x11 then (if x11 < (x151001.length : Int) then (if (rd x151001 x11) = 0 then (best_Break.l0 k x1 x2 y155 (wrap64 (x11 - 1)) x151000 x151001 x152000 x152001 x152002 x152003 x152004 x152005) else ((best_next.f k x151000 x151001 x11 x1 x2 y155 x152000 x152001 x152002 x152003 x152004 x152005).bind fun bt160 => (best_Break.l0 k x1 x2 (y155.set ((wrap64 (x11 - x1)) : Int).toNat (⟨bt160.1, bt160.2⟩ : S65)) (wrap64 (x11 - 1)) x151000 x151001 x152000 x152001 x152002 x152003 x152004 x152005))) else (none)) else (none)))) else (none)) else (none)) else (if 0 < (x10.length : Int) then (if ((rd_T65 x10 0).f1) < 0 then (some (([] : List (S48)), false)) else (best_Break.l1 k x1 x2 x10 ([] : List (S48)) x1 x151000 x151001 x152000 x152001 x152002 x152003 x152004 x152005)) else (none))
def best_Break.l1 : Nat → Int → Int → List (S65) → List (S48) → Int → List (S62) → List Int → Int → Int → Int → Int → Int → Nat → Option ((List (S48)) × Bool)
  | 0, _, _, _, _, _, _, _, _, _, _, _, _, _ => none
  | k + 1, x1, x2, x10, x12, x13, x151000, x151001, x152000, x152001, x152002, x152003, x152004, x152005 => if x13 < x2 then (if 0 ≤ (wrap64 (x13 - x1)) then (if (wrap64 (x13 - x1)) < (x10.length : Int) then (if 0 ≤ ((rd_T65 x10 (wrap64 (x13 - x1))).f1) then (if ((rd_T65 x10 (wrap64 (x13 - x1))).f1) < (x151001.length : Int) then ((span_Make.f k x151000 x151001 x13 ((rd_T65 x10 (wrap64 (x13 - x1))).f1) (rd x151001 ((rd_T65 x10 (wrap64 (x13 - x1))).f1)) x152001).bind fun bt166 => (if x12.length < 4398046511104 then (best_Break.l1 k x1 x2 x10 (x12 ++ [(⟨bt166.1, bt166.2.1, bt166.2.2.1, bt166.2.2.2⟩ : S48)]) ((rd_T65 x10 (wrap64 (x13 - x1))).f1) x151000 x151001 x152000 x152001 x152002 x152003 x152004 x152005) else (none))) else (none)) else (none)) else (none)) else (none)) else (some (x12, true))
end
def best_Break.f (k : Nat) (l0_0 : List (S62)) (l0_1 : List Int) (a1 : Int) (a2 : Int) (a3_0 : Int) (a3_1 : Int) (a3_2 : Int) (a3_3 : Int) (a3_4 : Int) (a3_5 : Nat) : Option ((List (S48)) × Bool) := if a1 ≥ a2 then (some (([] : List (S48)), true)) else (if 0 ≤ (wrap64 ((wrap64 (a2 - a1)) + 1)) then (if (wrap64 ((wrap64 (a2 - a1)) + 1) : Int).toNat ≤ 17592186044416 then (best_Break.l0 k a1 a2 (List.replicate (wrap64 ((wrap64 (a2 - a1)) + 1) : Int).toNat z65) (wrap64 (a2 - 1)) l0_0 l0_1 a3_0 a3_1 a3_2 a3_3 a3_4 a3_5) else (none)) else (none))
theorem best_Break.mono_l : ∀ k, (∀ y0 y1 y2 y3 y4 y5 y6 y7 y8 y9 y10 y11, LeO (best_Break.l0 k y0 y1 y2 y3 y4 y5 y6 y7 y8 y9 y10 y11) (best_Break.l0 (k + 1) y0 y1 y2 y3 y4 y5 y6 y7 y8 y9 y10 y11)) ∧ (∀ y0 y1 y2 y3 y4 y5 y6 y7 y8 y9 y10 y11 y12, LeO (best_Break.l1 k y0 y1 y2 y3 y4 y5 y6 y7 y8 y9 y10 y11 y12) (best_Break.l1 (k + 1) y0 y1 y2 y3 y4 y5 y6 y7 y8 y9 y10 y11 y12))
  | 0 => ⟨fun _ _ _ _ _ _ _ _ _ _ _ _ r h => by simp [best_Break.l0] at h, fun _ _ _ _ _ _ _ _ _ _ _ _ _ r h => by simp [best_Break.l1] at h⟩
  | k + 1 => by
    obtain ⟨ih0, ih1⟩ := best_Break.mono_l k; refine ⟨?_, ?_⟩
    · intro y0 y1 y2 y3 y4 y5 y6 y7 y8 y9 y10 y11
      unfold best_Break.l0
      repeat' first
      | (with_reducible exact ih0 _ _ _ _ _ _ _ _ _ _ _ _)
      | (with_reducible exact ih1 _ _ _ _ _ _ _ _ _ _ _ _ _)
      | (with_reducible exact best_next.mono _ _ _ _ _ _ _ _ _ _ _ _ _)
      | (with_reducible exact span_Make.mono _ _ _ _ _ _ _)
      | (with_reducible exact LeO.refl _)
      | (with_reducible exact LeO.none _)
      | (with_reducible refine LeO.ite ?_ ?_)
      | (with_reducible refine LeO.bind ?_ (fun _ => ?_))
      | exact ih0 _ _ _ _ _ _ _ _ _ _ _ _
      | exact ih1 _ _ _ _ _ _ _ _ _ _ _ _ _
      | exact best_next.mono _ _ _ _ _ _ _ _ _ _ _ _ _
      | exact span_Make.mono _ _ _ _ _ _ _
      | exact LeO.none _
      | refine LeO.ite ?_ ?_
      | refine LeO.bind ?_ (fun _ => ?_)
    · intro y0 y1 y2 y3 y4 y5 y6 y7 y8 y9 y10 y11 y12
      unfold best_Break.l1
      repeat' first
      | (with_reducible exact ih0 _ _ _ _ _ _ _ _ _ _ _ _)
      | (with_reducible exact ih1 _ _ _ _ _ _ _ _ _ _ _ _ _)
      | (with_reducible exact best_next.mono _ _ _ _ _ _ _ _ _ _ _ _ _)
      | (with_reducible exact span_Make.mono _ _ _ _ _ _ _)
      | (with_reducible exact LeO.refl _)
      | (with_reducible exact LeO.none _)
      | (with_reducible refine LeO.ite ?_ ?_)
      | (with_reducible refine LeO.bind ?_ (fun _ => ?_))
      | exact ih0 _ _ _ _ _ _ _ _ _ _ _ _
      | exact ih1 _ _ _ _ _ _ _ _ _ _ _ _ _
      | exact best_next.mono _ _ _ _ _ _ _ _ _ _ _ _ _
      | exact span_Make.mono _ _ _ _ _ _ _
      | exact LeO.none _
      | refine LeO.ite ?_ ?_
      | refine LeO.bind ?_ (fun _ => ?_)
theorem best_Break.mono : ∀ a0 a1 a2 a3 a4 a5 a6 a7 a8 a9 k, LeO (best_Break.f k a0 a1 a2 a3 a4 a5 a6 a7 a8 a9) (best_Break.f (k + 1) a0 a1 a2 a3 a4 a5 a6 a7 a8 a9) := by
  intro a0 a1 a2 a3 a4 a5 a6 a7 a8 a9 k
  obtain ⟨ih0, ih1⟩ := best_Break.mono_l k; unfold best_Break.f
  repeat' first
      | (with_reducible exact ih0 _ _ _ _ _ _ _ _ _ _ _ _)
      | (with_reducible exact ih1 _ _ _ _ _ _ _ _ _ _ _ _ _)
      | (with_reducible exact best_next.mono _ _ _ _ _ _ _ _ _ _ _ _ _)
      | (with_reducible exact span_Make.mono _ _ _ _ _ _ _)
      | (with_reducible exact LeO.refl _)
      | (with_reducible exact LeO.none _)
      | (with_reducible refine LeO.ite ?_ ?_)
      | (with_reducible refine LeO.bind ?_ (fun _ => ?_))
      | exact ih0 _ _ _ _ _ _ _ _ _ _ _ _
      | exact ih1 _ _ _ _ _ _ _ _ _ _ _ _ _
      | exact best_next.mono _ _ _ _ _ _ _ _ _ _ _ _ _
      | exact span_Make.mono _ _ _ _ _ _ _
      | exact LeO.none _
      | refine LeO.ite ?_ ?_
      | refine LeO.bind ?_ (fun _ => ?_)
def best_Break.T16 : Bool × List (List Nat × List Nat) := (true, [([], []), ([], []), ([], []), ([], []), ([], []), ([4], [4]), ([], []), ([5, 6], [5, 6]), ([7], [7]), ([], []), ([9], [9]), ([1, 2, 3, 8, 10], [1, 2, 3, 8, 10]), ([11], [11]), ([0, 12, 11], [0, 12]), ([13, 13, 0, 1, 2, 3, 4, 5, 6, 7, 8, 9, 10, 11, 12, 13], [0, 13])])
def best_Break.B16 : List Nat := [0, 0, 0, 0, 0, 16, 0, 112, 240, 0, 512, 2046, 4094, 8191, 16383]
theorem best_Break.tab16 : rtab .any (opsOf Try.f14 16) = best_Break.T16 := by kernel_rfl
theorem best_Break.bits16 : waitsOk best_Break.T16.2 best_Break.B16 = true := by kernel_rfl
set_option maxHeartbeats 8000000 in
set_option maxRecDepth 100000 in
theorem best_Break.calls (k : Nat) (A0_0 : Option Addr) (c0_0 : Nat) (l0_0 : List (S62)) (A0_1 : Option Addr) (c0_1 : Nat) (l0_1 : List Int) (a1 : Int) (a2 : Int) (a3_0 : Int) (a3_1 : Int) (a3_2 : Int) (a3_3 : Int) (a3_4 : Int) (a3_5 : Nat) (r1 : List (S48)) (r2 : Bool) (w : World) (hr0_0 : Kd.C k62 w A0_0 l0_0.length l0_0) (hc0_0 : l0_0.length ≤ c0_0) (hr0_1 : Kd.C (Kd.int .u8) w A0_1 l0_1.length l0_1) (hc0_1 : l0_1.length ≤ c0_1) (h : best_Break.f k l0_0 l0_1 a1 a2 a3_0 a3_1 a3_2 a3_3 a3_4 a3_5 = some (r1, r2)) :
    Calls Try.prog 14 #[.agg #[.slice A0_0 l0_0.length c0_0, .slice A0_1 l0_1.length c0_1], .int .i64 a1, .int .i64 a2, .agg #[.int .i64 a3_0, .int .i64 a3_1, .int .u8 a3_2, .int .i64 a3_3, .int .i64 a3_4, .float .f64 a3_5]] w fun e w' => ∃ v0_ : Value, e = .returned (.tuple #[v0_, .bool r2]) ∧ Kd.R k48 48 w' w.heap.size (fun _ => True) v0_ r1 ∧ Below w.heap.size w w' := by
  have hu31 := Try.underlying31; have hu35 := Try.underlying35; have hu65 := Try.underlying65; have HR0_0 := zB.mk hr0_0; have HC0_0 := zB.mk hc0_0; clear hr0_0 hc0_0; have HR0_1 := zB.mk hr0_1; have HC0_1 := zB.mk hc0_1; clear hr0_1 hc0_1; have HB := zB.mk (Below.refl w.heap.size w); have H : (if a1 ≥ a2 then (some (([] : List (S48)), true)) else (if 0 ≤ (wrap64 ((wrap64 (a2 - a1)) + 1)) then (if (wrap64 ((wrap64 (a2 - a1)) + 1) : Int).toNat ≤ 17592186044416 then (best_Break.l0 k a1 a2 (List.replicate (wrap64 ((wrap64 (a2 - a1)) + 1) : Int).toNat z65) (wrap64 (a2 - 1)) l0_0 l0_1 a3_0 a3_1 a3_2 a3_3 a3_4 a3_5) else (none)) else (none))) = some (r1, r2) := h
  clear h; by_cases c5 : a1 ≥ a2
  · rw [if_pos c5] at H
    have c5b0 : decide (a2 ≤ a1) = true := decide_eq_true c5
    clear c5; simp only [Option.some.injEq, Prod.mk.injEq] at H; obtain ⟨rfl, rfl⟩ := H; go_enter Try.func14, Try.ntmps14
    go_wp2_with (first | ((with_reducible refine gate_dst (N := 4) rfl ?_); refine box_event ?hg (N := 4) ?hd (cs := #[.slice A0_0 l0_0.length c0_0, .slice A0_1 l0_1.length c0_1]) (t := 31) ?hr ?_; (case hd => rfl); (case hg => rfl); (case hr => first | (go_simp; done) | (go_simp; rfl)); intro gb150 hg w6 hbox hb; have n0_ := zB.mk (zO (by repeat (first | (with_reducible first | exact HB.out | apply zJ | apply zF | apply zH) | exact HB.out)) hb); have n1_ := zB.mk (hbox); have n2_ := zB.mk ((by rw [hg]; exact (zM (by repeat (first | (with_reducible first | exact HB.out | apply zJ | apply zF | apply zH) | exact HB.out))) : w.heap.size ≤ gb150)); have n3_ := zB.mk ((by rw [hg]; exact (zM (by repeat (first | (with_reducible first | exact HB.out | apply zJ | apply zF | apply zH) | exact HB.out))) : w.heap.size ≤ gb150)); clear HB; have HB := n0_; have BK150 := n1_; have GW150 := n2_; have GE150 := n3_; clear n0_ n1_ n2_ n3_; clear hb hbox hg) | ((with_reducible refine gate_dst (N := 7) rfl ?_); refine box_event ?hg (N := 7) ?hd (cs := #[.int .i64 a3_0, .int .i64 a3_1, .int .u8 a3_2, .int .i64 a3_3, .int .i64 a3_4, .float .f64 a3_5]) (t := 35) ?hr ?_; (case hd => rfl); (case hg => rfl); (case hr => first | (go_simp; done) | (go_simp; rfl)); intro gb151 hg w7 hbox hb; have n0_ := zB.mk (zK (g := gb150) (o := .cells #[.slice A0_0 l0_0.length c0_0, .slice A0_1 l0_1.length c0_1] 31 (0, 0)) (by (with_reducible repeat (first | refine zC ?_ _ | refine zD ?_ | refine zA ?_ _)); exact BK150.out) hb); have n1_ := zB.mk (zO (by repeat (first | (with_reducible first | exact HB.out | apply zJ | apply zF | apply zH | refine zE ?_ GE150.out) | exact HB.out)) hb); have n2_ := zB.mk (hbox); have n3_ := zB.mk ((by rw [hg]; exact (zM (by repeat (first | (with_reducible first | exact HB.out | apply zJ | apply zF | apply zH | refine zE ?_ GE150.out) | exact HB.out))) : w.heap.size ≤ gb151)); have n4_ := zB.mk ((by rw [hg]; exact (zM (by repeat (first | (with_reducible first | exact HB.out | apply zJ | apply zF | apply zH | refine zE ?_ GE150.out) | exact HB.out))) : w.heap.size ≤ gb151)); have n5_ := zB.mk ((by rw [hg]; exact Nat.ne_of_lt (blk_lt (g := gb150) (o := .cells #[.slice A0_0 l0_0.length c0_0, .slice A0_1 l0_1.length c0_1] 31 (0, 0)) (by (with_reducible repeat (first | refine zC ?_ _ | refine zD ?_ | refine zA ?_ _)); exact BK150.out)) : gb150 ≠ gb151)); have n6_ := zB.mk ((by rw [hg]; exact Nat.ne_of_gt (blk_lt (g := gb150) (o := .cells #[.slice A0_0 l0_0.length c0_0, .slice A0_1 l0_1.length c0_1] 31 (0, 0)) (by (with_reducible repeat (first | refine zC ?_ _ | refine zD ?_ | refine zA ?_ _)); exact BK150.out)) : gb151 ≠ gb150)); clear BK150; clear HB; have BK150 := n0_; have HB := n1_; have BK151 := n2_; have GW151 := n3_; have GE151 := n4_; have NB150_151 := n5_; have NB151_150 := n6_; clear n0_ n1_ n2_ n3_ n4_ n5_ n6_; clear hb hbox hg))
    go_ret2
    exact ⟨_, by first | rfl | (simp [errW_none, errW_some] <;> rfl) | (simp [*, errW_none, errW_some] <;> rfl), by first | exact Kd.R_nil _ _ _ _ _ | exact Kd.N_nil _ _ _ _ _ | exact Kd.V_nil _ _ _ _ _ | exact Kd.Q_nil _ _ _ _ _ | exact Kd.S_nil _ _ _ _ _, by repeat (first | (with_reducible first | exact HB.out | apply zJ | apply zF | apply zH | refine zE ?_ GE150.out | refine zE ?_ GE151.out) | exact HB.out)⟩
  rw [if_neg c5] at H; have c5b0 : decide (a2 ≤ a1) = false := decide_eq_false c5
  clear c5; obtain ⟨ji8, hji8⟩ : ∃ j_ : Int, (wrap64 ((wrap64 (a2 - a1)) + 1)) = j_ := ⟨_, rfl⟩; replace H : (if 0 ≤ (ji8) then (if (ji8 : Int).toNat ≤ 17592186044416 then (best_Break.l0 k a1 a2 (List.replicate (ji8 : Int).toNat z65) (wrap64 (a2 - 1)) l0_0 l0_1 a3_0 a3_1 a3_2 a3_3 a3_4 a3_5) else (none)) else (none)) = some (r1, r2) := by first | (rw [hji8] at H; exact H) | (simp only [hji8] at H ⊢; exact H)
  have hji8w : (IntKind.i64.wrap ((wrap64 (a2 - a1)) + 1)) = ji8 := (i64_w _).trans hji8
  by_cases c9 : 0 ≤ (ji8)
  rotate_left
  · rw [if_neg c9] at H
    exact absurd H (by simp)
  rw [if_pos c9] at H; have c9b0 := eq_true c9; have c9b1 : decide (0 ≤ (ji8)) = true := decide_eq_true c9
  clear c9; by_cases c10 : (ji8 : Int).toNat ≤ 17592186044416
  rotate_left
  · rw [if_neg c10] at H
    exact absurd H (by simp)
  rw [if_pos c10] at H; have c10b0 := eq_true c10; have c10b1 : decide ((ji8 : Int).toNat ≤ 17592186044416) = true := decide_eq_true c10
  clear c10; obtain ⟨y152, hy152⟩ : ∃ y_ : List (S65), y_ = (List.replicate (ji8 : Int).toNat z65) := ⟨_, rfl⟩; replace H : (best_Break.l0 k a1 a2 y152 (wrap64 (a2 - 1)) l0_0 l0_1 a3_0 a3_1 a3_2 a3_3 a3_4 a3_5) = some (r1, r2) := by first | (rw [hy152]; with_reducible exact H) | (have H2_ := (Option.bind_some _ _).symm.trans H; rw [hy152]; with_reducible exact H2_) | (have H2_ := (Option.bind_some _ _).symm.trans H; with_reducible exact H2_) | with_reducible exact H | (rw [hy152]; exact H) | exact H
  have Ny152 := zB.mk hy152; clear hy152; have H' := zB.mk H
  clear H; go_enter Try.func14, Try.ntmps14
  go_wp2_with (first | ((with_reducible refine gate_dst (N := 4) rfl ?_); refine box_event ?hg (N := 4) ?hd (cs := #[.slice A0_0 l0_0.length c0_0, .slice A0_1 l0_1.length c0_1]) (t := 31) ?hr ?_; (case hd => rfl); (case hg => rfl); (case hr => first | (go_simp; done) | (go_simp; rfl)); intro gb150 hg w11 hbox hb; have n0_ := zB.mk (zO (by repeat (first | (with_reducible first | exact HB.out | apply zJ | apply zF | apply zH) | exact HB.out)) hb); have n1_ := zB.mk (hbox); have n2_ := zB.mk ((by rw [hg]; exact (zM (by repeat (first | (with_reducible first | exact HB.out | apply zJ | apply zF | apply zH) | exact HB.out))) : w.heap.size ≤ gb150)); have n3_ := zB.mk ((by rw [hg]; exact (zM (by repeat (first | (with_reducible first | exact HB.out | apply zJ | apply zF | apply zH) | exact HB.out))) : w.heap.size ≤ gb150)); clear HB; have HB := n0_; have BK150 := n1_; have GW150 := n2_; have GE150 := n3_; clear n0_ n1_ n2_ n3_; clear hb hbox hg) | ((with_reducible refine gate_dst (N := 7) rfl ?_); refine box_event ?hg (N := 7) ?hd (cs := #[.int .i64 a3_0, .int .i64 a3_1, .int .u8 a3_2, .int .i64 a3_3, .int .i64 a3_4, .float .f64 a3_5]) (t := 35) ?hr ?_; (case hd => rfl); (case hg => rfl); (case hr => first | (go_simp; done) | (go_simp; rfl)); intro gb151 hg w12 hbox hb; have n0_ := zB.mk (zK (g := gb150) (o := .cells #[.slice A0_0 l0_0.length c0_0, .slice A0_1 l0_1.length c0_1] 31 (0, 0)) (by (with_reducible repeat (first | refine zC ?_ _ | refine zD ?_ | refine zA ?_ _)); exact BK150.out) hb); have n1_ := zB.mk (zO (by repeat (first | (with_reducible first | exact HB.out | apply zJ | apply zF | apply zH | refine zE ?_ GE150.out) | exact HB.out)) hb); have n2_ := zB.mk (hbox); have n3_ := zB.mk ((by rw [hg]; exact (zM (by repeat (first | (with_reducible first | exact HB.out | apply zJ | apply zF | apply zH | refine zE ?_ GE150.out) | exact HB.out))) : w.heap.size ≤ gb151)); have n4_ := zB.mk ((by rw [hg]; exact (zM (by repeat (first | (with_reducible first | exact HB.out | apply zJ | apply zF | apply zH | refine zE ?_ GE150.out) | exact HB.out))) : w.heap.size ≤ gb151)); have n5_ := zB.mk ((by rw [hg]; exact Nat.ne_of_lt (blk_lt (g := gb150) (o := .cells #[.slice A0_0 l0_0.length c0_0, .slice A0_1 l0_1.length c0_1] 31 (0, 0)) (by (with_reducible repeat (first | refine zC ?_ _ | refine zD ?_ | refine zA ?_ _)); exact BK150.out)) : gb150 ≠ gb151)); have n6_ := zB.mk ((by rw [hg]; exact Nat.ne_of_gt (blk_lt (g := gb150) (o := .cells #[.slice A0_0 l0_0.length c0_0, .slice A0_1 l0_1.length c0_1] 31 (0, 0)) (by (with_reducible repeat (first | refine zC ?_ _ | refine zD ?_ | refine zA ?_ _)); exact BK150.out)) : gb151 ≠ gb150)); clear BK150; clear HB; have BK150 := n0_; have HB := n1_; have BK151 := n2_; have GW151 := n3_; have GE151 := n4_; have NB150_151 := n5_; have NB151_150 := n6_; clear n0_ n1_ n2_ n3_ n4_ n5_ n6_; clear hb hbox hg) | ((with_reducible refine gate_dst (N := 22) rfl ?_); refine Kd.R_make k65 _ 65 rfl (N := 22) rfl 63 _ _ rfl ji8 rfl rfl Try.underlying63 (.agg #[(.int .i64 0), (.int .i64 0)]) 16 info65 rfl (by decide) (by omega) z65 (ok := fun _ => True) (okp := fun _ => True) (k65_mkM _ _ _ z65 ) (fun _ hk => hk) trivial (of_decide_eq_true (by first | (with_reducible assumption) | assumption)) (Nat.le_trans (Nat.mul_le_mul_right _ (of_decide_eq_true (by first | (with_reducible assumption) | assumption) : ji8.toNat ≤ 17592186044416)) (by omega)) (Below.refl _ _) (Nat.le_refl _) ?_; intro v153 w13 ho14 hb hg_ hnew_; clear hg_ hnew_; (first | rw [← Ny152.out] at ho14 | (simp only [Int.reduceToNat] at ho14; rw [← Ny152.out] at ho14)); have n0_ := zB.mk (Kd.R_lower ho14 (zM (by repeat (first | (with_reducible first | exact HB.out | apply zJ | apply zF | apply zH | refine zE ?_ GE150.out | refine zE ?_ GE151.out) | exact HB.out)))); have n1_ := zB.mk (zK (g := gb150) (o := .cells #[.slice A0_0 l0_0.length c0_0, .slice A0_1 l0_1.length c0_1] 31 (0, 0)) (by (with_reducible repeat (first | refine zC ?_ _ | refine zD ?_ | refine zA ?_ _)); exact BK150.out) hb); have n2_ := zB.mk (zK (g := gb151) (o := .cells #[.int .i64 a3_0, .int .i64 a3_1, .int .u8 a3_2, .int .i64 a3_3, .int .i64 a3_4, .float .f64 a3_5] 35 (0, 0)) (by (with_reducible repeat (first | refine zC ?_ _ | refine zD ?_ | refine zA ?_ _)); exact BK151.out) hb); have n3_ := zB.mk (zO (by repeat (first | (with_reducible first | exact HB.out | apply zJ | apply zF | apply zH | refine zE ?_ GE150.out | refine zE ?_ GE151.out) | exact HB.out)) hb); clear BK150; clear BK151; clear HB; have HO154 := n0_; have BK150 := n1_; have BK151 := n2_; have HB := n3_; clear n0_ n1_ n2_ n3_; clear hb ho14))
  go_loopg [11] k (fun kq v11 w' => ∃ (x10_1 : List (S65)) (x11_1 : Int), v11 = .int .i64 x11_1 ∧ zB (best_Break.l0 kq a1 a2 x10_1 x11_1 l0_0 l0_1 a3_0 a3_1 a3_2 a3_3 a3_4 a3_5 = some (r1, r2)) ∧ zB (kq ≤ k) ∧ zB (Kd.R k65 65 w' w.heap.size (fun _ => True) v153 x10_1) ∧ zB (w'.heap[gb150]? = some (.cells #[(.slice A0_0 l0_0.length c0_0), (.slice A0_1 l0_1.length c0_1)] 31 (0, 0))) ∧ zB (w'.heap[gb151]? = some (.cells #[.int .i64 a3_0, .int .i64 a3_1, .int .u8 a3_2, .int .i64 a3_3, .int .i64 a3_4, .float .f64 a3_5] 35 (0, 0))) ∧ zB (Below w.heap.size w w'))
  case atStart => exact ⟨(y152), (wrap64 (a2 - 1)), (by first | rfl | (simp; done) | (simp [*]; done)), H', ⟨Nat.le_refl _⟩, ⟨by (with_reducible repeat (first | apply Kd.R_alloc | apply Kd.R_drewN | apply Kd.R_drew)); exact HO154.out⟩, ⟨by (with_reducible repeat (first | refine zC ?_ _ | refine zD ?_ | refine zA ?_ _)); exact BK150.out⟩, ⟨by (with_reducible repeat (first | refine zC ?_ _ | refine zD ?_ | refine zA ?_ _)); exact BK151.out⟩, ⟨by repeat (first | (with_reducible first | exact HB.out | apply zJ | apply zF | apply zH | refine zE ?_ GE150.out | refine zE ?_ GE151.out) | exact HB.out)⟩⟩
  clear H'; try clear c1
  try clear p2
  try clear c5
  try clear c5b0
  try clear p6
  try clear c9
  try clear c9b0
  try clear c9b1
  try clear c10
  try clear c10b0
  try clear c10b1
  try clear c14
  obtain ⟨x10_1, x11_1, rfl, HA, HK1, HO_10, BK150, BK151, HB⟩ := hrel; cases gk with
  | zero => exact absurd HA.out (by simp [best_Break.l0])
  | succ k1 =>
    have H := HA.out; clear HA; simp only [best_Break.l0] at H; by_cases c15 : x11_1 ≥ a1
    rotate_left
    · rw [if_neg c15] at H
      have c15b0 : decide (a1 ≤ x11_1) = false := decide_eq_false c15
      clear c15; by_cases c48 : 0 < (x10_1.length : Int)
      rotate_left
      · rw [if_neg c48] at H
        exact absurd H (by simp)
      rw [if_pos c48] at H; have c48b0 : decide (0 < (x10_1.length : Int)) = true := decide_eq_true c48
      have c48b1 : decide (0 < x10_1.length) = true := decide_eq_true (by omega)
      clear c48; by_cases c49 : ((rd_T65 x10_1 0).f1) < 0
      · rw [if_pos c49] at H
        have c49b0 : decide (((rd_T65 x10_1 0).f1) < 0) = true := decide_eq_true c49
        clear c49; simp only [Option.some.injEq, Prod.mk.injEq] at H; obtain ⟨rfl, rfl⟩ := H; obtain ⟨Ao50, co50, eo50⟩ := Kd.R_slice HO_10.out; subst eo50; have p163 : 0 ≤ (0 : Int) := (by omega)
        have q163 : 0 < (x10_1.length : Int) := of_decide_eq_true (by first | (with_reducible assumption) | assumption)
        obtain ⟨ad163, e163, hx163_0, hx163_1⟩ := at_T65 (Kd.R_reads' HO_10.out).2.2 0 p163 q163; cases e163
        have qi163 : (0 < x10_1.length) = True := eq_true (by omega)
        (try rw [show ((0 : Int)).toNat = 0 from rfl] at hx163_0)
        (try rw [show 0 * 2 = 0 from rfl] at hx163_0)
        (try rw [Addr.add_zero'] at hx163_0)
        (try rw [show ((0 : Int)).toNat = 0 from rfl] at hx163_1)
        (try rw [show 0 * 2 = 0 from rfl] at hx163_1)
        (try rw [Addr.add_zero'] at hx163_1)
        replace p163 := eq_true p163; replace q163 := eq_true q163; go_wp2
        go_ret2
        exact ⟨_, by first | rfl | (simp [errW_none, errW_some] <;> rfl) | (simp only [← hji8]; first | rfl | (simp [errW_none, errW_some] <;> rfl)) | (simp [*, errW_none, errW_some] <;> rfl), by first | exact Kd.R_nil _ _ _ _ _ | exact Kd.N_nil _ _ _ _ _ | exact Kd.V_nil _ _ _ _ _ | exact Kd.Q_nil _ _ _ _ _ | exact Kd.S_nil _ _ _ _ _, by repeat (first | (with_reducible first | exact HB.out | apply zJ | apply zF | apply zH | refine zE ?_ GE150.out | refine zE ?_ GE151.out) | exact HB.out)⟩
      rw [if_neg c49] at H; have c49b0 : decide (((rd_T65 x10_1 0).f1) < 0) = false := decide_eq_false c49
      clear c49; have H' := zB.mk H
      clear H; obtain ⟨Ao51, co51, eo51⟩ := Kd.R_slice HO_10.out; subst eo51; have p163 : 0 ≤ (0 : Int) := (by omega)
      have q163 : 0 < (x10_1.length : Int) := of_decide_eq_true (by first | (with_reducible assumption) | assumption)
      obtain ⟨ad163, e163, hx163_0, hx163_1⟩ := at_T65 (Kd.R_reads' HO_10.out).2.2 0 p163 q163; cases e163
      have qi163 : (0 < x10_1.length) = True := eq_true (by omega)
      (try rw [show ((0 : Int)).toNat = 0 from rfl] at hx163_0)
      (try rw [show 0 * 2 = 0 from rfl] at hx163_0)
      (try rw [Addr.add_zero'] at hx163_0)
      (try rw [show ((0 : Int)).toNat = 0 from rfl] at hx163_1)
      (try rw [show 0 * 2 = 0 from rfl] at hx163_1)
      (try rw [Addr.add_zero'] at hx163_1)
      replace p163 := eq_true p163; replace q163 := eq_true q163; go_wp2
      go_loopg [12, 13] k1 (fun kq v12 v13 w' => ∃ (x12_2 : List (S48)) (x13_2 : Int), v13 = .int .i64 x13_2 ∧ zB (best_Break.l1 kq a1 a2 x10_1 x12_2 x13_2 l0_0 l0_1 a3_0 a3_1 a3_2 a3_3 a3_4 a3_5 = some (r1, r2)) ∧ zB (kq ≤ k1) ∧ zB (Kd.R k65 65 w' w.heap.size (fun _ => True) (.slice (some ad163) x10_1.length co51) x10_1) ∧ zB (Kd.R k48 48 w' w.heap.size (fun _ => True) v12 x12_2) ∧ zB (w'.heap[gb150]? = some (.cells #[(.slice A0_0 l0_0.length c0_0), (.slice A0_1 l0_1.length c0_1)] 31 (0, 0))) ∧ zB (w'.heap[gb151]? = some (.cells #[.int .i64 a3_0, .int .i64 a3_1, .int .u8 a3_2, .int .i64 a3_3, .int .i64 a3_4, .float .f64 a3_5] 35 (0, 0))) ∧ zB (Below w.heap.size w w'))
      case atStart => exact ⟨(([] : List (S48))), (a1), (by first | rfl | (simp; done) | (simp [*]; done)), H', ⟨Nat.le_refl _⟩, ⟨by (with_reducible repeat (first | apply Kd.R_alloc | apply Kd.R_drewN | apply Kd.R_drew)); exact HO_10.out⟩, ⟨by first | exact Kd.R_nil _ _ _ _ _ | exact Kd.N_nil _ _ _ _ _ | exact Kd.V_nil _ _ _ _ _ | exact Kd.Q_nil _ _ _ _ _ | exact Kd.S_nil _ _ _ _ _⟩, ⟨by (with_reducible repeat (first | refine zC ?_ _ | refine zD ?_ | refine zA ?_ _)); exact BK150.out⟩, ⟨by (with_reducible repeat (first | refine zC ?_ _ | refine zD ?_ | refine zA ?_ _)); exact BK151.out⟩, ⟨by repeat (first | (with_reducible first | exact HB.out | apply zJ | apply zF | apply zH | refine zE ?_ GE150.out | refine zE ?_ GE151.out) | exact HB.out)⟩⟩
      clear H'; try clear c1
      try clear p1
      try clear q1
      try clear hx1
      try clear qi1
      try clear c2
      try clear p2
      try clear q2
      try clear hx2
      try clear c3
      try clear p3
      try clear q3
      try clear hx3
      try clear c4
      try clear hx4
      try clear hf4
      try clear c5
      try clear c5b0
      try clear p6
      try clear c9
      try clear c9b0
      try clear c9b1
      try clear c10
      try clear c10b0
      try clear c10b1
      try clear c14
      try clear c15
      try clear c15b0
      try clear p15
      try clear q15
      try clear hx15
      try clear p16
      try clear q16
      try clear hx16
      try clear qi16
      try clear c17
      try clear c17b0
      try clear c18
      try clear c18b0
      try clear c19
      try clear p19
      try clear q19
      try clear hx19
      try clear hf19
      try clear c20
      try clear c20b0
      try clear c20b1
      try clear c22
      try clear p22
      try clear q22
      try clear hx22
      try clear hf22
      try clear c23
      try clear hx23
      try clear hf23
      try clear c24
      try clear c25
      try clear c29
      try clear hx29
      try clear hf29
      try clear c31
      try clear c31b0
      try clear c32
      try clear c32b0
      try clear c33
      try clear c33b0
      try clear c33b1
      try clear c34
      try clear hx34
      try clear hf34
      try clear c36
      try clear c39
      try clear p39
      try clear q39
      try clear hx39
      try clear hf39
      try clear c40
      try clear hx40
      try clear hf40
      try clear c42
      try clear c46
      try clear hx46
      try clear hf46
      try clear c48
      try clear c48b0
      try clear c48b1
      try clear c49
      try clear c49b0
      try clear hcz26_0
      try clear hcz26_1
      try clear hcz27_0
      try clear hcz27_1
      try clear hcz27_2
      try clear hcz27_3
      try clear hcz27_4
      try clear hcz27_5
      try clear hcz37_0
      try clear hcz37_1
      try clear hcz43_0
      try clear hcz43_1
      try clear hcz44_0
      try clear hcz44_1
      try clear hcz44_2
      try clear hcz44_3
      try clear hcz44_4
      try clear hcz44_5
      try clear hfz26_0
      try clear hfz26_1
      try clear hfz27_0
      try clear hfz27_1
      try clear hfz27_2
      try clear hfz27_3
      try clear hfz27_4
      try clear hfz27_5
      try clear hfz37_0
      try clear hfz37_1
      try clear hfz43_0
      try clear hfz43_1
      try clear hfz44_0
      try clear hfz44_1
      try clear hfz44_2
      try clear hfz44_3
      try clear hfz44_4
      try clear hfz44_5
      try clear hx159_0
      try clear hx163_0
      try clear hx163_1
      try clear hx19_0
      try clear hx19_1
      try clear hx22_0
      try clear hx22_1
      try clear hx23_0
      try clear hx23_1
      try clear hx29_0
      try clear hx29_1
      try clear hx34_0
      try clear hx34_1
      try clear hx39_0
      try clear hx39_1
      try clear hx40_0
      try clear hx40_1
      try clear hx46_0
      try clear hx46_1
      try clear p159
      try clear p163
      try clear p19
      try clear p2
      try clear p22
      try clear p39
      try clear p6
      try clear q159
      try clear q163
      try clear q19
      try clear q22
      try clear q39
      obtain ⟨x12_2, x13_2, rfl, HA, HK2, HO_10, HO_12, BK150, BK151, HB⟩ := hrel; cases gk with
      | zero => exact absurd HA.out (by simp [best_Break.l1])
      | succ k2 =>
        have H := HA.out; clear HA; simp only [best_Break.l1] at H; by_cases c52 : x13_2 < a2
        rotate_left
        · rw [if_neg c52] at H
          have c52b0 : decide (x13_2 < a2) = false := decide_eq_false c52
          clear c52; simp only [Option.some.injEq, Prod.mk.injEq] at H; obtain ⟨rfl, rfl⟩ := H; go_wp2
          go_ret2
          exact ⟨_, by first | rfl | (simp [errW_none, errW_some] <;> rfl) | (simp only [← hji8]; first | rfl | (simp [errW_none, errW_some] <;> rfl)) | (simp [*, errW_none, errW_some] <;> rfl), by (with_reducible repeat (first | apply Kd.R_alloc | apply Kd.R_drewN | apply Kd.R_drew)); exact HO_12.out, by repeat (first | (with_reducible first | exact HB.out | apply zJ | apply zF | apply zH | refine zE ?_ GE150.out | refine zE ?_ GE151.out) | exact HB.out)⟩
        rw [if_pos c52] at H; have c52b0 : decide (x13_2 < a2) = true := decide_eq_true c52
        clear c52; obtain ⟨ji53, hji53⟩ : ∃ j_ : Int, (wrap64 (x13_2 - a1)) = j_ := ⟨_, rfl⟩; replace H : (if 0 ≤ (ji53) then (if (ji53) < (x10_1.length : Int) then (if 0 ≤ ((rd_T65 x10_1 (ji53)).f1) then (if ((rd_T65 x10_1 (ji53)).f1) < (l0_1.length : Int) then ((span_Make.f k2 l0_0 l0_1 x13_2 ((rd_T65 x10_1 (ji53)).f1) (rd l0_1 ((rd_T65 x10_1 (ji53)).f1)) a3_1).bind fun bt166 => (if x12_2.length < 4398046511104 then (best_Break.l1 k2 a1 a2 x10_1 (x12_2 ++ [(⟨bt166.1, bt166.2.1, bt166.2.2.1, bt166.2.2.2⟩ : S48)]) ((rd_T65 x10_1 (ji53)).f1) l0_0 l0_1 a3_0 a3_1 a3_2 a3_3 a3_4 a3_5) else (none))) else (none)) else (none)) else (none)) else (none)) = some (r1, r2) := by first | (rw [hji53] at H; exact H) | (simp only [hji53] at H ⊢; exact H)
        have hji53w : (IntKind.i64.wrap (x13_2 - a1)) = ji53 := (i64_w _).trans hji53
        by_cases c54 : 0 ≤ (ji53)
        rotate_left
        · rw [if_neg c54] at H
          exact absurd H (by simp)
        rw [if_pos c54] at H; have c54b0 : decide (0 ≤ (ji53)) = true := decide_eq_true c54
        clear c54; by_cases c55 : (ji53) < (x10_1.length : Int)
        rotate_left
        · rw [if_neg c55] at H
          exact absurd H (by simp)
        rw [if_pos c55] at H; have c55b0 : decide ((ji53) < (x10_1.length : Int)) = true := decide_eq_true c55
        clear c55; by_cases c56 : 0 ≤ ((rd_T65 x10_1 (ji53)).f1)
        rotate_left
        · rw [if_neg c56] at H
          exact absurd H (by simp)
        rw [if_pos c56] at H; have c56b0 : decide (0 ≤ ((rd_T65 x10_1 (ji53)).f1)) = true := decide_eq_true c56
        clear c56; by_cases c57 : ((rd_T65 x10_1 (ji53)).f1) < (l0_1.length : Int)
        rotate_left
        · rw [if_neg c57] at H
          exact absurd H (by simp)
        rw [if_pos c57] at H; have c57b0 : decide (((rd_T65 x10_1 (ji53)).f1) < (l0_1.length : Int)) = true := decide_eq_true c57
        clear c57; replace H := Option.bind_eq_some_iff.mp H; obtain ⟨⟨t166, t167, t168, t169⟩, A580, H⟩ := H; replace H : (if x12_2.length < 4398046511104 then (best_Break.l1 k2 a1 a2 x10_1 (x12_2 ++ [(⟨t166, t167, t168, t169⟩ : S48)]) ((rd_T65 x10_1 (ji53)).f1) l0_0 l0_1 a3_0 a3_1 a3_2 a3_3 a3_4 a3_5) else (none)) = some (r1, r2) := H; have A58 := zB.mk A580; clear A580; by_cases c59 : x12_2.length < 4398046511104
        rotate_left
        · rw [if_neg c59] at H
          exact absurd H (by simp)
        rw [if_pos c59] at H; have LMc59 := zB.mk c59; clear c59; obtain ⟨y170, hy170⟩ : ∃ y_ : List (S48), y_ = (x12_2 ++ [(⟨t166, t167, t168, t169⟩ : S48)]) := ⟨_, rfl⟩; replace H : (best_Break.l1 k2 a1 a2 x10_1 y170 ((rd_T65 x10_1 (ji53)).f1) l0_0 l0_1 a3_0 a3_1 a3_2 a3_3 a3_4 a3_5) = some (r1, r2) := by first | (rw [hy170]; with_reducible exact H) | (have H2_ := (Option.bind_some _ _).symm.trans H; rw [hy170]; with_reducible exact H2_) | (have H2_ := (Option.bind_some _ _).symm.trans H; with_reducible exact H2_) | with_reducible exact H | (rw [hy170]; exact H) | exact H
        have Ny170 := zB.mk hy170; clear hy170; have H' := zB.mk H
        clear H; have p164 : 0 ≤ ((ji53) : Int) := of_decide_eq_true (by first | (with_reducible assumption) | assumption)
        have q164 : (ji53) < (x10_1.length : Int) := of_decide_eq_true (by first | (with_reducible assumption) | assumption)
        obtain ⟨ad164, e164, hx164_0, hx164_1⟩ := at_T65 (Kd.R_reads' HO_10.out).2.2 (ji53) p164 q164; obtain rfl : ad163 = ad164 := (by injection e164)
        replace p164 := eq_true p164; replace q164 := eq_true q164; try go_wp2
        have n0_ := zB.mk (Kd.R_drew HO_10.out); have n1_ := zB.mk (Kd.R_drew HO_12.out); have n2_ := zB.mk (zD BK150.out); have n3_ := zB.mk (zD BK151.out); have n4_ := zB.mk (zH HB.out); clear HO_10; clear HO_12; clear BK150; clear BK151; clear HB; have HO_10 := n0_; have HO_12 := n1_; have BK150 := n2_; have BK151 := n3_; have HB := n4_; clear n0_ n1_ n2_ n3_ n4_; have p165 : 0 ≤ (((rd_T65 x10_1 (ji53)).f1) : Int) := of_decide_eq_true (by first | (with_reducible assumption) | assumption)
        have q165 : ((rd_T65 x10_1 (ji53)).f1) < (l0_1.length : Int) := of_decide_eq_true (by first | (with_reducible assumption) | assumption)
        obtain ⟨ad165, e165, hx165_0⟩ := Kd.at_int HR0_1.out ((rd_T65 x10_1 (ji53)).f1) p165 q165; have hw165_0 := hx165_0; cases e165
        replace hx165_0 := (HB.out.cell (World.block_lt_of_cell? w _ hx165_0)).trans hx165_0; replace p165 := eq_true p165; replace q165 := eq_true q165; refine start_ (n := 15) (S := fun w' => w'.cell? ⟨gb150, 0, none⟩ = some (.slice A0_0 l0_0.length c0_0) ∧ w'.cell? ⟨gb150, 1, none⟩ = some (.slice (some ad165) l0_1.length c0_1) ∧ w'.cell? ⟨gb151, 0, none⟩ = some (.int .i64 a3_0) ∧ w'.cell? ⟨gb151, 1, none⟩ = some (.int .i64 a3_1) ∧ w'.cell? ⟨gb151, 2, none⟩ = some (.int .u8 a3_2) ∧ w'.cell? ⟨gb151, 3, none⟩ = some (.int .i64 a3_3) ∧ w'.cell? ⟨gb151, 4, none⟩ = some (.int .i64 a3_4) ∧ w'.cell? ⟨gb151, 5, none⟩ = some (.float .f64 a3_5) ∧ w'.cell? (ad165.add (((rd_T65 x10_1 (ji53)).f1)).toNat) = some (.int .u8 (rd l0_1 ((rd_T65 x10_1 (ji53)).f1)))) (ds := []) #[false, false, false, false, false, false, false, false, false, false, false, false, false, false, false] (by kernel_rfl) rfl rfl ⟨(zG BK150.out 0).trans rfl, (zG BK150.out 1).trans rfl, (zG BK151.out 0).trans rfl, (zG BK151.out 1).trans rfl, (zG BK151.out 2).trans rfl, (zG BK151.out 3).trans rfl, (zG BK151.out 4).trans rfl, (zG BK151.out 5).trans rfl, ((HB.out.cell (World.block_lt_of_cell? w _ hw165_0)).trans hw165_0)⟩ (fun hHeld => ?_); refine with_tabW best_Break.tab16 best_Break.bits16 (fun HT_ HW_ => ?_)
        generalize wr.drew = w60 at HO_10 HO_12 BK150 BK151 HB hx165_0 hHeld ⊢
        refine pure_ (i := 0) (N := some 75) (v := ?_) (a' := ?_) (tf_ 1 15) rfl rfl (any_of HT_.out (by kernel_rfl)) (fun _ _ _ h => h) (Or.inl ⟨by rfl, ?_⟩) ?_ ?_
        rotate_left
        · intro w'
          go_simp
          with_reducible rfl
        rotate_left
        · simp only [Act.put, sA_, sB_, sC_, i64_w, i32_w]
          rfl
        refine pure_ (i := 2) (N := some 77) (v := ?_) (a' := ?_) #[true, false, true, false, false, false, false, false, false, false, false, false, false, false, false] rfl rfl (any_of HT_.out (by kernel_rfl)) (fun _ _ _ h => h) (Or.inl ⟨by rfl, ?_⟩) ?_ ?_
        rotate_left
        · intro w'
          go_simp
          with_reducible rfl
        rotate_left
        · simp only [Act.put, sA_, sB_, sC_, i64_w, i32_w]
          rfl
        refine pure_ (i := 3) (N := some 78) (v := ?_) (a' := ?_) #[true, false, true, true, false, false, false, false, false, false, false, false, false, false, false] rfl rfl (any_of HT_.out (by kernel_rfl)) (fun _ _ _ h => h) (Or.inl ⟨by rfl, ?_⟩) ?_ ?_
        rotate_left
        · intro w'
          go_simp
          with_reducible rfl
        rotate_left
        · simp only [Act.put, sA_, sB_, sC_, i64_w, i32_w]
          rfl
        refine pure_ (i := 4) (N := some 79) (v := ?_) (a' := ?_) #[true, false, true, true, true, false, false, false, false, false, false, false, false, false, false] rfl rfl (any_of HT_.out (by kernel_rfl)) (fun _ _ _ h => h) (Or.inl ⟨by rfl, ?_⟩) ?_ ?_
        rotate_left
        · intro w'
          go_simp
          with_reducible rfl
        rotate_left
        · simp only [Act.put, sA_, sB_, sC_, i64_w, i32_w]
          rfl
        refine pure_ (i := 6) (N := some 81) (v := ?_) (a' := ?_) #[true, false, true, true, true, false, true, false, false, false, false, false, false, false, false] rfl rfl (any_of HT_.out (by kernel_rfl)) (fun _ _ _ h => h) (Or.inl ⟨by rfl, ?_⟩) ?_ ?_
        rotate_left
        · intro w'
          go_simp
          with_reducible rfl
        rotate_left
        · simp only [Act.put, sA_, sB_, sC_, i64_w, i32_w]
          rfl
        refine pure_ (i := 9) (N := some 84) (v := ?_) (a' := ?_) #[true, false, true, true, true, false, true, false, false, true, false, false, false, false, false] rfl rfl (any_of HT_.out (by kernel_rfl)) (fun _ _ _ h => h) (Or.inl ⟨by rfl, ?_⟩) ?_ ?_
        rotate_left
        · intro w'
          go_simp
          with_reducible rfl
        rotate_left
        · simp only [Act.put, sA_, sB_, sC_, i64_w, i32_w]
          rfl
        refine take_ (i := 1) (N := some 76) (v := ?_) (a' := ?_) #[true, true, true, true, true, false, true, false, false, true, false, false, false, false, false] rfl rfl (take_ofW HT_.out HW_.out (by kernel_rfl)) (fun _ _ _ h => h) (Or.inl ⟨by rfl, ?_⟩) hHeld ?_ ?_
        rotate_left
        · rintro w' ⟨s0, s1, s2, s3, s4, s5, s6, s7, s8⟩
          go_simp
          with_reducible rfl
        rotate_left
        · simp only [Act.put, sA_, sB_, sC_, i64_w, i32_w]
          rfl
        refine take_ (i := 5) (N := some 80) (v := ?_) (a' := ?_) #[true, true, true, true, true, true, true, false, false, true, false, false, false, false, false] rfl rfl (take_ofW HT_.out HW_.out (by kernel_rfl)) (fun _ _ _ h => h) (Or.inl ⟨by rfl, ?_⟩) hHeld ?_ ?_
        rotate_left
        · rintro w' ⟨s0, s1, s2, s3, s4, s5, s6, s7, s8⟩
          go_simp
          with_reducible rfl
        rotate_left
        · simp only [Act.put, sA_, sB_, sC_, i64_w, i32_w]
          rfl
        refine pure_ (i := 7) (N := some 82) (v := ?_) (a' := ?_) #[true, true, true, true, true, true, true, true, false, true, false, false, false, false, false] rfl rfl (any_of HT_.out (by kernel_rfl)) (fun _ _ _ h => h) (Or.inl ⟨by rfl, ?_⟩) ?_ ?_
        rotate_left
        · intro w'
          go_simp
          with_reducible rfl
        rotate_left
        · simp only [Act.put, sA_, sB_, sC_, i64_w, i32_w]
          rfl
        refine take_ (i := 8) (N := some 83) (v := ?_) (a' := ?_) (tf_ 10 15) rfl rfl (take_ofW HT_.out HW_.out (by kernel_rfl)) (fun _ _ _ h => h) (Or.inl ⟨by rfl, ?_⟩) hHeld ?_ ?_
        rotate_left
        · rintro w' ⟨s0, s1, s2, s3, s4, s5, s6, s7, s8⟩
          go_simp
          with_reducible rfl
        rotate_left
        · simp only [Act.put, sA_, sB_, sC_, i64_w, i32_w]
          rfl
        refine take_ (i := 10) (N := some 85) (v := ?_) (a' := ?_) (tf_ 11 15) rfl rfl (take_ofW HT_.out HW_.out (by kernel_rfl)) (fun _ _ _ h => h) (Or.inl ⟨by rfl, ?_⟩) hHeld ?_ ?_
        rotate_left
        · rintro w' ⟨s0, s1, s2, s3, s4, s5, s6, s7, s8⟩
          go_simp
          with_reducible rfl
        rotate_left
        · simp only [Act.put, sA_, sB_, sC_, i64_w, i32_w]
          rfl
        refine one_ (i := 11) (N := some 86) #[true, true, true, true, true, true, true, true, true, true, true, true, false, false, false] rfl rfl (one_of HT_.out (by kernel_rfl)) (by decide) (fun K hK => ?_)
        refine goes_ Try.func25 (by kernel_rfl) rfl #[.agg #[.slice A0_0 l0_0.length c0_0, .slice (some ad165) l0_1.length c0_1], .int .i64 x13_2, .int .i64 ((rd_T65 x10_1 (ji53)).f1), .int .u8 (rd l0_1 ((rd_T65 x10_1 (ji53)).f1)), .int .i64 a3_1] (by rfl) rfl rfl (by (try simp only [List.map_toArray, List.map_cons, List.map_nil]); first | done | (simp only [hji53]; rfl) | rfl | (simp only [List.length_drop, List.length_take]; rfl)) ?_
        with_reducible refine (span_Make.calls k2 _ _ l0_0 _ _ l0_1 x13_2 ((rd_T65 x10_1 (ji53)).f1) (rd l0_1 ((rd_T65 x10_1 (ji53)).f1)) a3_1 t166 t167 t168 t169 _ ?side1 ?side2 ?side3 ?side4 A58.out).mono ?_
        (case side1 => repeat (first | exact (Kd.C_below HR0_0.out HB.out) | (with_reducible refine Kd.C_alloc ?_ _) | (with_reducible refine Kd.C_drewN ?_ _) | (with_reducible refine Kd.C_drew ?_)))
        (case side2 => exact HC0_0.out)
        (case side3 => repeat (first | exact (Kd.C_below HR0_1.out HB.out) | (with_reducible refine Kd.C_alloc ?_ _) | (with_reducible refine Kd.C_drewN ?_ _) | (with_reducible refine Kd.C_drew ?_)))
        (case side4 => exact HC0_1.out)
        rintro e w61 ⟨rfl, hb⟩
        refine ⟨_, rfl, ?_⟩
        have n0_ := zB.mk (Kd.R_below (by (with_reducible repeat (first | apply Kd.R_alloc | apply Kd.R_drewN | apply Kd.R_drew)); exact HO_10.out) hb)
        have n1_ := zB.mk (Kd.R_below (by (with_reducible repeat (first | apply Kd.R_alloc | apply Kd.R_drewN | apply Kd.R_drew)); exact HO_12.out) hb)
        have n2_ := zB.mk (zK (g := gb150) (o := .cells #[.slice A0_0 l0_0.length c0_0, .slice (some ad165) l0_1.length c0_1] 31 (0, 0)) (by (with_reducible repeat (first | refine zC ?_ _ | refine zD ?_ | refine zA ?_ _)); exact BK150.out) hb)
        have n3_ := zB.mk (zK (g := gb151) (o := .cells #[.int .i64 a3_0, .int .i64 a3_1, .int .u8 a3_2, .int .i64 a3_3, .int .i64 a3_4, .float .f64 a3_5] 35 (0, 0)) (by (with_reducible repeat (first | refine zC ?_ _ | refine zD ?_ | refine zA ?_ _)); exact BK151.out) hb)
        have n4_ := zB.mk (zO (by repeat (first | (with_reducible first | exact HB.out | apply zJ | apply zF | apply zH | refine zE ?_ GE150.out | refine zE ?_ GE151.out) | exact HB.out)) hb)
        clear HO_10 HO_12 BK150 BK151 HB; have HO_10 := n0_; have HO_12 := n1_; have BK150 := n2_; have BK151 := n3_; have HB := n4_; clear n0_ n1_ n2_ n3_ n4_; (try clear hb)
        (try clear hb2)
        (try clear hk)
        (try clear hi)
        refine hK.out _ _ ⟨(zG BK150.out 0).trans rfl, (zG BK150.out 1).trans rfl, (zG BK151.out 0).trans rfl, (zG BK151.out 1).trans rfl, (zG BK151.out 2).trans rfl, (zG BK151.out 3).trans rfl, (zG BK151.out 4).trans rfl, (zG BK151.out 5).trans rfl, ((HB.out.cell (World.block_lt_of_cell? w _ hw165_0)).trans hw165_0)⟩ (fun hHeld => ?_)
        clear hK K; refine norm_ (a' := ?_) ?_ ?_
        rotate_left
        · show Act.put _ (some 86) _ = _
          simp only [Act.put, sA_, sB_, sC_, i64_w, i32_w]; rfl
        refine one_ (i := 12) (N := some 87) #[true, true, true, true, true, true, true, true, true, true, true, true, true, false, false] rfl rfl (one_of HT_.out (by kernel_rfl)) (by decide) (fun K hK => ?_)
        refine value_ (w1 := ?_) (v := ?_) (by rfl) rfl ?_ ?_
        rotate_left 2
        · go_simp
          constructor
          · rfl
          rfl
        refine hK.out _ _ ⟨(zG (zA BK150.out _) 0).trans rfl, (zG (zA BK150.out _) 1).trans rfl, (zG (zA BK151.out _) 0).trans rfl, (zG (zA BK151.out _) 1).trans rfl, (zG (zA BK151.out _) 2).trans rfl, (zG (zA BK151.out _) 3).trans rfl, (zG (zA BK151.out _) 4).trans rfl, (zG (zA BK151.out _) 5).trans rfl, (World.cell?_alloc_lt _ _ _ (World.block_lt_of_cell? _ _ (((HB.out.cell (World.block_lt_of_cell? w _ hw165_0)).trans hw165_0)))).trans (((HB.out.cell (World.block_lt_of_cell? w _ hw165_0)).trans hw165_0))⟩ (fun hHeld => ?_)
        clear hK K; refine norm_ (a' := ?_) ?_ ?_
        rotate_left
        · show Act.put _ (some 87) _ = _
          simp only [Act.put, sA_, sB_, sC_, i64_w, i32_w]; rfl
        refine one_ (i := 13) (N := some 88) #[true, true, true, true, true, true, true, true, true, true, true, true, true, true, false] rfl rfl (one_of HT_.out (by kernel_rfl)) (by decide) (fun K hK => ?_)
        refine Kd.R_append_step k48 (w0 := w) w.heap.size (by rfl) (.tmp 75) (.tmp 87) 39 48 (.agg #[(.int .i64 0), (.int .i64 0), (.int .i64 0), (.int .u8 0)]) 32 rfl Try.underlying39 info48 rfl (by decide) (by omega) u12 x12_2 (⟨t166, t167, t168, t169⟩ : S48) [.int .i64 t166, .int .i64 t167, .int .i64 t168, .int .u8 t169] (fun _ => True) (fun _ => False) rfl rfl ?aP (fun _ hk => hk.elim) ?aF ?aO ?aB ?aS ?aL ?_
        (case aP => exact k48_mkM _ _ _ (⟨t166, t167, t168, t169⟩ : S48))
        (case aB => exact (by repeat (first | (with_reducible first | exact HB.out | apply zJ | apply zF | apply zH | refine zE ?_ GE150.out | refine zE ?_ GE151.out) | exact HB.out)))
        (case aF => exact (fun _ _ => trivial))
        (case aO => exact (by (with_reducible repeat (first | apply Kd.R_alloc | apply Kd.R_drewN | apply Kd.R_drew)); exact HO_12.out))
        (case aS => exact (zM (by repeat (first | (with_reducible first | exact HB.out | apply zJ | apply zF | apply zH | refine zE ?_ GE150.out | refine zE ?_ GE151.out) | exact HB.out))))
        (case aL => have := LMc59.out; omega)
        intro v171 w62 ho hb hg hat
        rw [← Ny170.out] at ho; have n0_ := zB.mk (Kd.R_over' (by (with_reducible repeat (first | apply Kd.R_alloc | apply Kd.R_drewN | apply Kd.R_drew)); exact HO_10.out) (Kd.R_typed (by (with_reducible repeat (first | apply Kd.R_alloc | apply Kd.R_drewN | apply Kd.R_drew)); exact HO_12.out)) (by decide) hg)
        have n1_ := zB.mk (blk_grown (g := gb150) (o := .cells #[.slice A0_0 l0_0.length c0_0, .slice (some ad165) l0_1.length c0_1] 31 (0, 0)) (by (with_reducible repeat (first | refine zC ?_ _ | refine zD ?_ | refine zA ?_ _)); exact BK150.out) hg (Kd.R_ne HO_12.out BK150.out (by decide)))
        have n2_ := zB.mk (blk_grown (g := gb151) (o := .cells #[.int .i64 a3_0, .int .i64 a3_1, .int .u8 a3_2, .int .i64 a3_3, .int .i64 a3_4, .float .f64 a3_5] 35 (0, 0)) (by (with_reducible repeat (first | refine zC ?_ _ | refine zD ?_ | refine zA ?_ _)); exact BK151.out) hg (Kd.R_ne HO_12.out BK151.out (by decide)))
        have n3_ := zB.mk (hb); have n4_ := zB.mk (ho); clear HO_10; clear BK150; clear BK151; clear HB; clear HO_12; have HO_10 := n0_; have BK150 := n1_; have BK151 := n2_; have HB := n3_; have HO172 := n4_; clear n0_ n1_ n2_ n3_ n4_; clear ho hb hg hat; refine hK.out _ _ ⟨(zG BK150.out 0).trans rfl, (zG BK150.out 1).trans rfl, (zG BK151.out 0).trans rfl, (zG BK151.out 1).trans rfl, (zG BK151.out 2).trans rfl, (zG BK151.out 3).trans rfl, (zG BK151.out 4).trans rfl, (zG BK151.out 5).trans rfl, ((HB.out.cell (World.block_lt_of_cell? w _ hw165_0)).trans hw165_0)⟩ (fun hHeld => ?_)
        clear hK K; refine norm_ (a' := ?_) ?_ ?_
        rotate_left
        · show Act.put _ (some 88) _ = _
          simp only [Act.put, sA_, sB_, sC_, i64_w, i32_w]; rfl
        refine pure_ (i := 14) (N := some 12) (v := ?_) (a' := ?_) #[true, true, true, true, true, true, true, true, true, true, true, true, true, true, true] rfl rfl (any_of HT_.out (by kernel_rfl)) (fun _ _ _ h => h) (Or.inl ⟨by rfl, ?_⟩) ?_ ?_
        rotate_left
        · intro w'
          go_simp
          with_reducible rfl
        rotate_left
        · simp only [Act.put, sA_, sB_, sC_, i64_w, i32_w]
          rfl
        refine done_ (done_of HT_.out (by kernel_rfl)) ?_
        try go_wp2
        go_roundg k2
        case measure => have := HK1.out; have := HK2.out; omega
        case rel => exact ⟨(y170), ((rd_T65 x10_1 (ji53)).f1), (by first | rfl | (simp; done) | (simp only [← hji53] <;> (first | rfl | simp)) | (simp [*]; done)), H', ⟨by have := HK1.out; have := HK2.out; omega⟩, ⟨by (with_reducible repeat (first | apply Kd.R_alloc | apply Kd.R_drewN | apply Kd.R_drew)); exact HO_10.out⟩, ⟨by (with_reducible repeat (first | apply Kd.R_alloc | apply Kd.R_drewN | apply Kd.R_drew)); exact HO172.out⟩, ⟨by (with_reducible repeat (first | refine zC ?_ _ | refine zD ?_ | refine zA ?_ _)); exact BK150.out⟩, ⟨by (with_reducible repeat (first | refine zC ?_ _ | refine zD ?_ | refine zA ?_ _)); exact BK151.out⟩, ⟨by repeat (first | (with_reducible first | exact HB.out | apply zJ | apply zF | apply zH | refine zE ?_ GE150.out | refine zE ?_ GE151.out) | exact HB.out)⟩⟩
    rw [if_pos c15] at H; have c15b0 : decide (a1 ≤ x11_1) = true := decide_eq_true c15
    clear c15; obtain ⟨ji16, hji16⟩ : ∃ j_ : Int, (wrap64 (x11_1 - a1)) = j_ := ⟨_, rfl⟩; replace H : (if 0 ≤ (ji16) then (if (ji16) < (x10_1.length : Int) then ((some (x10_1.set ((ji16) : Int).toNat (⟨0, (-1)⟩ : S65) : List (S65))).bind fun y155 => (if x11_1 = a1 then ((best_next.f k1 l0_0 l0_1 x11_1 a1 a2 y155 a3_0 a3_1 a3_2 a3_3 a3_4 a3_5).bind fun bt156 => (best_Break.l0 k1 a1 a2 (y155.set ((ji16) : Int).toNat (⟨bt156.1, bt156.2⟩ : S65)) (wrap64 (x11_1 - 1)) l0_0 l0_1 a3_0 a3_1 a3_2 a3_3 a3_4 a3_5)) else (if 0 ≤ x11_1 then (if x11_1 < (l0_1.length : Int) then (if (rd l0_1 x11_1) = 0 then (best_Break.l0 k1 a1 a2 y155 (wrap64 (x11_1 - 1)) l0_0 l0_1 a3_0 a3_1 a3_2 a3_3 a3_4 a3_5) else ((best_next.f k1 l0_0 l0_1 x11_1 a1 a2 y155 a3_0 a3_1 a3_2 a3_3 a3_4 a3_5).bind fun bt160 => (best_Break.l0 k1 a1 a2 (y155.set ((ji16) : Int).toNat (⟨bt160.1, bt160.2⟩ : S65)) (wrap64 (x11_1 - 1)) l0_0 l0_1 a3_0 a3_1 a3_2 a3_3 a3_4 a3_5))) else (none)) else (none)))) else (none)) else (none)) = some (r1, r2) := by first | (rw [hji16] at H; exact H) | (simp only [hji16] at H ⊢; exact H)
    have hji16w : (IntKind.i64.wrap (x11_1 - a1)) = ji16 := (i64_w _).trans hji16
    by_cases c17 : 0 ≤ (ji16)
    rotate_left
    · rw [if_neg c17] at H
      exact absurd H (by simp)
    rw [if_pos c17] at H; have c17b0 : decide (0 ≤ (ji16)) = true := decide_eq_true c17
    clear c17; by_cases c18 : (ji16) < (x10_1.length : Int)
    rotate_left
    · rw [if_neg c18] at H
      exact absurd H (by simp)
    rw [if_pos c18] at H; have c18b0 : decide ((ji16) < (x10_1.length : Int)) = true := decide_eq_true c18
    clear c18; obtain ⟨y155, hy155⟩ : ∃ y_ : List (S65), y_ = (x10_1.set ((ji16) : Int).toNat (⟨0, (-1)⟩ : S65)) := ⟨_, rfl⟩; replace H : (if x11_1 = a1 then ((best_next.f k1 l0_0 l0_1 x11_1 a1 a2 y155 a3_0 a3_1 a3_2 a3_3 a3_4 a3_5).bind fun bt156 => (best_Break.l0 k1 a1 a2 (y155.set ((ji16) : Int).toNat (⟨bt156.1, bt156.2⟩ : S65)) (wrap64 (x11_1 - 1)) l0_0 l0_1 a3_0 a3_1 a3_2 a3_3 a3_4 a3_5)) else (if 0 ≤ x11_1 then (if x11_1 < (l0_1.length : Int) then (if (rd l0_1 x11_1) = 0 then (best_Break.l0 k1 a1 a2 y155 (wrap64 (x11_1 - 1)) l0_0 l0_1 a3_0 a3_1 a3_2 a3_3 a3_4 a3_5) else ((best_next.f k1 l0_0 l0_1 x11_1 a1 a2 y155 a3_0 a3_1 a3_2 a3_3 a3_4 a3_5).bind fun bt160 => (best_Break.l0 k1 a1 a2 (y155.set ((ji16) : Int).toNat (⟨bt160.1, bt160.2⟩ : S65)) (wrap64 (x11_1 - 1)) l0_0 l0_1 a3_0 a3_1 a3_2 a3_3 a3_4 a3_5))) else (none)) else (none))) = some (r1, r2) := by first | (rw [hy155]; with_reducible exact H) | (have H2_ := (Option.bind_some _ _).symm.trans H; rw [hy155]; with_reducible exact H2_) | (have H2_ := (Option.bind_some _ _).symm.trans H; with_reducible exact H2_) | with_reducible exact H | (rw [hy155]; exact H) | exact H
    have Ny155 := zB.mk hy155; clear hy155; by_cases c20 : x11_1 = a1
    · rw [if_pos c20] at H
      have c20b0 : (x11_1 == a1) = true := beq_iff_eq.mpr c20
      have c20b1 : (x11_1 != a1) = false := bne_eq_false_iff_eq.mpr c20
      clear c20; replace H := Option.bind_eq_some_iff.mp H; obtain ⟨⟨t156, t157⟩, A210, H⟩ := H; replace H : (best_Break.l0 k1 a1 a2 (y155.set ((ji16) : Int).toNat (⟨t156, t157⟩ : S65)) (wrap64 (x11_1 - 1)) l0_0 l0_1 a3_0 a3_1 a3_2 a3_3 a3_4 a3_5) = some (r1, r2) := H; have A21 := zB.mk A210; clear A210; obtain ⟨y158, hy158⟩ : ∃ y_ : List (S65), y_ = (y155.set ((ji16) : Int).toNat (⟨t156, t157⟩ : S65)) := ⟨_, rfl⟩; replace H : (best_Break.l0 k1 a1 a2 y158 (wrap64 (x11_1 - 1)) l0_0 l0_1 a3_0 a3_1 a3_2 a3_3 a3_4 a3_5) = some (r1, r2) := by first | (rw [hy158]; with_reducible exact H) | (have H2_ := (Option.bind_some _ _).symm.trans H; rw [hy158]; with_reducible exact H2_) | (have H2_ := (Option.bind_some _ _).symm.trans H; with_reducible exact H2_) | with_reducible exact H | (rw [hy158]; exact H) | exact H
      have Ny158 := zB.mk hy158; clear hy158; have H' := zB.mk H
      clear H; have p19 : 0 ≤ ((ji16) : Int) := of_decide_eq_true (by first | (with_reducible assumption) | assumption)
      have q19 : ((ji16) : Int) < ((x10_1.length : Int) : Int) := of_decide_eq_true (by first | (with_reducible assumption) | assumption)
      obtain ⟨go19, co19, eo19, gb19, gl19, cl19, HG19⟩ := Kd.R_form HO_10.out (by omega)
      (first | cases eo19 | (injection eo19 with ea_ en_ ec_; (first | subst ea_ | (injection ea_ with ea_; subst ea_)); subst ec_; clear en_))
      have GB19 := zB.mk gb19; have GG19 := zB.mk HG19; clear gb19 gl19 HG19; obtain ⟨ce19, hcl19, hM19, hcc19, hfr19⟩ := Kd.R_elem HO_10.out z65 ((ji16) : Int) p19 q19; obtain rfl := k65_openM hM19
      have hx19_0 : wr.cell? ⟨go19, ((ji16) : Int).toNat * 2, none⟩ = some (.int .i64 ((rd_T65 x10_1 (ji16)).f0)) := hcc19 0 _ rfl
      have hx19_1 : wr.cell? ⟨go19, ((ji16) : Int).toNat * 2 + 1, none⟩ = some (.int .i64 ((rd_T65 x10_1 (ji16)).f1)) := hcc19 1 _ rfl
      have hf19_0 : wr.frozen? ⟨go19, ((ji16) : Int).toNat * 2, none⟩ = false := hfr19 0
      have hf19_1 : wr.frozen? ⟨go19, ((ji16) : Int).toNat * 2 + 1, none⟩ = false := hfr19 1
      clear hcl19 hcc19 hfr19 hM19; replace p19 := eq_true p19; replace q19 := eq_true q19; have HX23 := zB.mk (show Kd.R k65 65 wr w.heap.size (fun _ => True) (.slice (some ⟨go19, 0, none⟩) x10_1.length co19) x10_1 from (by (with_reducible repeat (first | apply Kd.R_alloc | apply Kd.R_drewN | apply Kd.R_drew)); exact HO_10.out))
      obtain ⟨ce23, hcl23, hM23, hcc23, hfr23⟩ := Kd.R_elem HX23.out z65 ((ji16) : Int) (of_decide_eq_true (by first | (with_reducible assumption) | assumption)) (by have h_ : ((ji16) : Int) < ((x10_1.length : Int) : Int) := of_decide_eq_true (by first | (with_reducible assumption) | assumption); first | exact h_ | (have e_ := (Kd.R_reads' HO_10.out).1; omega) | simpa using h_)
      obtain rfl := k65_openM hM23
      have HP23 := Kd.R_seg HX23.out ((ji16) : Int) (of_decide_eq_true (by first | (with_reducible assumption) | assumption)) (by have h_ : ((ji16) : Int) < ((x10_1.length : Int) : Int) := of_decide_eq_true (by first | (with_reducible assumption) | assumption); first | exact h_ | (have e_ := (Kd.R_reads' HO_10.out).1; omega) | simpa using h_) (seg := [.int .i64 0, .int .i64 (-1)]) (j := 0) hcl23 hcc23 (show 2 ≤ 2 from by decide) (x' := (⟨0, (-1)⟩ : S65)) (k65_mkM _ _ _ (⟨0, (-1)⟩ : S65) ) (fun _ hk => hk)
      have hx23_0 := hcc23 0 _ rfl; (try simp only [show (k65).sz = 2 from rfl, Nat.mul_one, Nat.add_zero] at hx23_0)
      have hf23_0 := hfr23 0; (try simp only [show (k65).sz = 2 from rfl, Nat.mul_one, Nat.add_zero] at hf23_0)
      have hx23_1 := hcc23 1 _ rfl; (try simp only [show (k65).sz = 2 from rfl, Nat.mul_one, Nat.add_zero] at hx23_1)
      have hf23_1 := hfr23 1; (try simp only [show (k65).sz = 2 from rfl, Nat.mul_one, Nat.add_zero] at hf23_1)
      clear hcl23 hcc23 hfr23 hM23; go_wp2_with (first | ((with_reducible refine gate_store (t := 65) (p := 35) rfl ?_); refine store_event (t := 65) (p := 35) (v := ?vo_w24) (w1 := ((wr.setCell ⟨go19, ((ji16) : Int).toNat * 2, none⟩ (.int .i64 0)).setCell ⟨go19, ((ji16) : Int).toNat * 2 + 1, none⟩ (.int .i64 (-1)))) ?hg ?ho ?hn ?hr ?_; (case ho => rfl); (case hg => rfl); (case hn => rfl); (case hr => first | (go_simp; done) | (go_simp; rfl)); intro w24 hw; have hg : wr.grownBy w24 (some go19) := (by rw [hw]; exact HP23.2); have hp_ : Kd.R k65 65 w24 w.heap.size (fun _ => True) (.slice (some ⟨go19, 0, none⟩) x10_1.length co19) y155 := (by rw [hw, Ny155.out]; exact HP23.1); clear HP23; have n0_ := zB.mk (hp_); have n1_ := zB.mk (blk_grown (g := gb150) (o := .cells #[.slice A0_0 l0_0.length c0_0, .slice A0_1 l0_1.length c0_1] 31 (0, 0)) (by (with_reducible repeat (first | refine zC ?_ _ | refine zD ?_ | refine zA ?_ _)); exact BK150.out) hg (Kd.R_ne HO_10.out BK150.out (by decide))); have n2_ := zB.mk (blk_grown (g := gb151) (o := .cells #[.int .i64 a3_0, .int .i64 a3_1, .int .u8 a3_2, .int .i64 a3_3, .int .i64 a3_4, .float .f64 a3_5] 35 (0, 0)) (by (with_reducible repeat (first | refine zC ?_ _ | refine zD ?_ | refine zA ?_ _)); exact BK151.out) hg (Kd.R_ne HO_10.out BK151.out (by decide))); have n3_ := zB.mk ((by rw [hw]; exact zE (zE (HB.out) GB19.out) GB19.out : Below w.heap.size w w24)); clear HO_10; clear BK150; clear BK151; clear HB; have HO_10 := n0_; have BK150 := n1_; have BK151 := n2_; have HB := n3_; clear n0_ n1_ n2_ n3_; clear hg hw hp_; have hnb25 := NB150_151.out; have hnc25 := NB151_150.out; have hcz26_0 : w24.cell? ⟨gb150, 0, none⟩ = some (.slice A0_0 l0_0.length c0_0) := (zG BK150.out 0).trans rfl; have hcz26_1 : w24.cell? ⟨gb150, 1, none⟩ = some (.slice A0_1 l0_1.length c0_1) := (zG BK150.out 1).trans rfl; have hfz26_0 := zI BK150.out 0; have hfz26_1 := zI BK150.out 1; have hcz27_0 : w24.cell? ⟨gb151, 0, none⟩ = some (.int .i64 a3_0) := (zG BK151.out 0).trans rfl; have hcz27_1 : w24.cell? ⟨gb151, 1, none⟩ = some (.int .i64 a3_1) := (zG BK151.out 1).trans rfl; have hcz27_2 : w24.cell? ⟨gb151, 2, none⟩ = some (.int .u8 a3_2) := (zG BK151.out 2).trans rfl; have hcz27_3 : w24.cell? ⟨gb151, 3, none⟩ = some (.int .i64 a3_3) := (zG BK151.out 3).trans rfl; have hcz27_4 : w24.cell? ⟨gb151, 4, none⟩ = some (.int .i64 a3_4) := (zG BK151.out 4).trans rfl; have hcz27_5 : w24.cell? ⟨gb151, 5, none⟩ = some (.float .f64 a3_5) := (zG BK151.out 5).trans rfl; have hfz27_0 := zI BK151.out 0; have hfz27_1 := zI BK151.out 1; have hfz27_2 := zI BK151.out 2; have hfz27_3 := zI BK151.out 3; have hfz27_4 := zI BK151.out 4; have hfz27_5 := zI BK151.out 5) | ((with_reducible refine gate_callee (f := 24) rfl ?_); refine goesL_ (some 57) rfl rfl Try.func24 (by kernel_rfl) rfl #[.agg #[.slice A0_0 l0_0.length c0_0, .slice A0_1 l0_1.length c0_1], .int .i64 x11_1, .int .i64 a1, .int .i64 a2, .slice (some ⟨go19, 0, none⟩) y155.length co19, .agg #[.int .i64 a3_0, .int .i64 a3_1, .int .u8 a3_2, .int .i64 a3_3, .int .i64 a3_4, .float .f64 a3_5]] rfl (by (try simp only [List.map_toArray, List.map_cons, List.map_nil]); first | done | (rw [show y155.length = x10_1.length from (Kd.R_reads' HO_10.out).1.symm] <;> rfl) | rfl | (simp only [List.length_drop, List.length_take]; rfl)) ?_; (with_reducible refine (best_next.calls k1 _ _ l0_0 _ _ l0_1 x11_1 a1 a2 _ _ y155 a3_0 a3_1 a3_2 a3_3 a3_4 a3_5 t156 t157 _ ?side1 ?side2 ?side3 ?side4 ?side5 ?side6 A21.out).mono ?_); (case side1 => repeat (first | exact (Kd.C_below HR0_0.out HB.out) | (with_reducible refine Kd.C_alloc ?_ _) | (with_reducible refine Kd.C_drewN ?_ _) | (with_reducible refine Kd.C_drew ?_))); (case side2 => exact HC0_0.out); (case side3 => repeat (first | exact (Kd.C_below HR0_1.out HB.out) | (with_reducible refine Kd.C_alloc ?_ _) | (with_reducible refine Kd.C_drewN ?_ _) | (with_reducible refine Kd.C_drew ?_))); (case side4 => exact HC0_1.out); (case side5 => repeat (first | exact (Kd.R_reads' HO_10.out).2.2 | (with_reducible refine Kd.C_alloc ?_ _) | (with_reducible refine Kd.C_drewN ?_ _) | (with_reducible refine Kd.C_drew ?_))); (case side6 => rw [show y155.length = x10_1.length from (Kd.R_reads' HO_10.out).1.symm]; exact (Kd.R_reads' HO_10.out).2.1); rintro e w28 ⟨rfl, hb⟩; refine ⟨_, rfl, ?_⟩; have n0_ := zB.mk (Kd.R_below (by (with_reducible repeat (first | apply Kd.R_alloc | apply Kd.R_drewN | apply Kd.R_drew)); exact HO_10.out) hb); have n1_ := zB.mk (zK (g := gb150) (o := .cells #[.slice A0_0 l0_0.length c0_0, .slice A0_1 l0_1.length c0_1] 31 (0, 0)) (by (with_reducible repeat (first | refine zC ?_ _ | refine zD ?_ | refine zA ?_ _)); exact BK150.out) hb); have n2_ := zB.mk (zK (g := gb151) (o := .cells #[.int .i64 a3_0, .int .i64 a3_1, .int .u8 a3_2, .int .i64 a3_3, .int .i64 a3_4, .float .f64 a3_5] 35 (0, 0)) (by (with_reducible repeat (first | refine zC ?_ _ | refine zD ?_ | refine zA ?_ _)); exact BK151.out) hb); have n3_ := zB.mk (zO (by repeat (first | (with_reducible first | exact HB.out | apply zJ | apply zF | apply zH | refine zE ?_ GE150.out | refine zE ?_ GE151.out) | exact HB.out)) hb); clear HO_10; clear BK150; clear BK151; clear HB; have HO_10 := n0_; have BK150 := n1_; have BK151 := n2_; have HB := n3_; clear n0_ n1_ n2_ n3_; (try clear hb); (try clear hb2); (try clear hk); (try clear hi); have p22 : 0 ≤ ((ji16) : Int) := of_decide_eq_true (by first | (with_reducible assumption) | assumption); have q22 : ((ji16) : Int) < ((x10_1.length : Int) : Int) := of_decide_eq_true (by first | (with_reducible assumption) | assumption); obtain ⟨ce22, hcl22, hM22, hcc22, hfr22⟩ := Kd.R_elem HO_10.out z65 ((ji16) : Int) p22 q22; obtain rfl := k65_openM hM22; have hx22_0 : w28.cell? ⟨go19, ((ji16) : Int).toNat * 2, none⟩ = some (.int .i64 ((rd_T65 y155 (ji16)).f0)) := hcc22 0 _ rfl; have hx22_1 : w28.cell? ⟨go19, ((ji16) : Int).toNat * 2 + 1, none⟩ = some (.int .i64 ((rd_T65 y155 (ji16)).f1)) := hcc22 1 _ rfl; have hf22_0 : w28.frozen? ⟨go19, ((ji16) : Int).toNat * 2, none⟩ = false := hfr22 0; have hf22_1 : w28.frozen? ⟨go19, ((ji16) : Int).toNat * 2 + 1, none⟩ = false := hfr22 1; clear hcl22 hcc22 hfr22 hM22; replace p22 := eq_true p22; replace q22 := eq_true q22; have HX29 := zB.mk (show Kd.R k65 65 w28 w.heap.size (fun _ => True) (.slice (some ⟨go19, 0, none⟩) x10_1.length co19) y155 from (by (with_reducible repeat (first | apply Kd.R_alloc | apply Kd.R_drewN | apply Kd.R_drew)); exact HO_10.out)); obtain ⟨ce29, hcl29, hM29, hcc29, hfr29⟩ := Kd.R_elem HX29.out z65 ((ji16) : Int) (of_decide_eq_true (by first | (with_reducible assumption) | assumption)) (by have h_ : ((ji16) : Int) < ((x10_1.length : Int) : Int) := of_decide_eq_true (by first | (with_reducible assumption) | assumption); first | exact h_ | (have e_ := (Kd.R_reads' HO_10.out).1; omega) | simpa using h_); obtain rfl := k65_openM hM29; have HP29 := Kd.R_seg HX29.out ((ji16) : Int) (of_decide_eq_true (by first | (with_reducible assumption) | assumption)) (by have h_ : ((ji16) : Int) < ((x10_1.length : Int) : Int) := of_decide_eq_true (by first | (with_reducible assumption) | assumption); first | exact h_ | (have e_ := (Kd.R_reads' HO_10.out).1; omega) | simpa using h_) (seg := [.int .i64 t156, .int .i64 t157]) (j := 0) hcl29 hcc29 (show 2 ≤ 2 from by decide) (x' := (⟨t156, t157⟩ : S65)) (k65_mkM _ _ _ (⟨t156, t157⟩ : S65) ) (fun _ hk => hk); have hx29_0 := hcc29 0 _ rfl; (try simp only [show (k65).sz = 2 from rfl, Nat.mul_one, Nat.add_zero] at hx29_0); have hf29_0 := hfr29 0; (try simp only [show (k65).sz = 2 from rfl, Nat.mul_one, Nat.add_zero] at hf29_0); have hx29_1 := hcc29 1 _ rfl; (try simp only [show (k65).sz = 2 from rfl, Nat.mul_one, Nat.add_zero] at hx29_1); have hf29_1 := hfr29 1; (try simp only [show (k65).sz = 2 from rfl, Nat.mul_one, Nat.add_zero] at hf29_1); clear hcl29 hcc29 hfr29 hM29) | ((with_reducible refine gate_store (t := 65) (p := 58) rfl ?_); refine store_event (t := 65) (p := 58) (v := ?vo_w30) (w1 := ((w28.setCell ⟨go19, ((ji16) : Int).toNat * 2, none⟩ (.int .i64 t156)).setCell ⟨go19, ((ji16) : Int).toNat * 2 + 1, none⟩ (.int .i64 t157))) ?hg ?ho ?hn ?hr ?_; (case ho => rfl); (case hg => rfl); (case hn => rfl); (case hr => first | (go_simp; done) | (go_simp; rfl)); intro w30 hw; have hg : w28.grownBy w30 (some go19) := (by rw [hw]; exact HP29.2); have hp_ : Kd.R k65 65 w30 w.heap.size (fun _ => True) (.slice (some ⟨go19, 0, none⟩) x10_1.length co19) y158 := (by rw [hw, Ny158.out]; exact HP29.1); clear HP29; have n0_ := zB.mk (hp_); have n1_ := zB.mk (blk_grown (g := gb150) (o := .cells #[.slice A0_0 l0_0.length c0_0, .slice A0_1 l0_1.length c0_1] 31 (0, 0)) (by (with_reducible repeat (first | refine zC ?_ _ | refine zD ?_ | refine zA ?_ _)); exact BK150.out) hg (Kd.R_ne HO_10.out BK150.out (by decide))); have n2_ := zB.mk (blk_grown (g := gb151) (o := .cells #[.int .i64 a3_0, .int .i64 a3_1, .int .u8 a3_2, .int .i64 a3_3, .int .i64 a3_4, .float .f64 a3_5] 35 (0, 0)) (by (with_reducible repeat (first | refine zC ?_ _ | refine zD ?_ | refine zA ?_ _)); exact BK151.out) hg (Kd.R_ne HO_10.out BK151.out (by decide))); have n3_ := zB.mk ((by rw [hw]; exact zE (zE (HB.out) GB19.out) GB19.out : Below w.heap.size w w30)); clear HO_10; clear BK150; clear BK151; clear HB; have HO_10 := n0_; have BK150 := n1_; have BK151 := n2_; have HB := n3_; clear n0_ n1_ n2_ n3_; clear hg hw hp_))
      go_roundg k1
      case measure => have := HK1.out; omega
      case rel => exact ⟨(y158), (wrap64 (x11_1 - 1)), (by first | rfl | (simp; done) | (simp [*]; done)), H', ⟨by have := HK1.out; omega⟩, ⟨by (with_reducible repeat (first | apply Kd.R_alloc | apply Kd.R_drewN | apply Kd.R_drew)); exact HO_10.out⟩, ⟨by (with_reducible repeat (first | refine zC ?_ _ | refine zD ?_ | refine zA ?_ _)); exact BK150.out⟩, ⟨by (with_reducible repeat (first | refine zC ?_ _ | refine zD ?_ | refine zA ?_ _)); exact BK151.out⟩, ⟨by repeat (first | (with_reducible first | exact HB.out | apply zJ | apply zF | apply zH | refine zE ?_ GE150.out | refine zE ?_ GE151.out) | exact HB.out)⟩⟩
    rw [if_neg c20] at H; have c20b0 : (x11_1 == a1) = false := beq_eq_false_iff_ne.mpr c20
    have c20b1 : (x11_1 != a1) = true := bne_iff_ne.mpr c20
    by_cases c31 : 0 ≤ x11_1
    rotate_left
    · rw [if_neg c31] at H
      exact absurd H (by simp)
    rw [if_pos c31] at H; have c31b0 : decide (0 ≤ x11_1) = true := decide_eq_true c31
    clear c31; by_cases c32 : x11_1 < (l0_1.length : Int)
    rotate_left
    · rw [if_neg c32] at H
      exact absurd H (by simp)
    rw [if_pos c32] at H; have c32b0 : decide (x11_1 < (l0_1.length : Int)) = true := decide_eq_true c32
    clear c32; by_cases c33 : (rd l0_1 x11_1) = 0
    · rw [if_pos c33] at H
      have c33b0 : ((rd l0_1 x11_1) == 0) = true := beq_iff_eq.mpr c33
      have c33b1 : ((rd l0_1 x11_1) != 0) = false := bne_eq_false_iff_eq.mpr c33
      clear c33; have H' := zB.mk H
      clear H; have p19 : 0 ≤ ((ji16) : Int) := of_decide_eq_true (by first | (with_reducible assumption) | assumption)
      have q19 : ((ji16) : Int) < ((x10_1.length : Int) : Int) := of_decide_eq_true (by first | (with_reducible assumption) | assumption)
      obtain ⟨go19, co19, eo19, gb19, gl19, cl19, HG19⟩ := Kd.R_form HO_10.out (by omega)
      (first | cases eo19 | (injection eo19 with ea_ en_ ec_; (first | subst ea_ | (injection ea_ with ea_; subst ea_)); subst ec_; clear en_))
      have GB19 := zB.mk gb19; have GG19 := zB.mk HG19; clear gb19 gl19 HG19; obtain ⟨ce19, hcl19, hM19, hcc19, hfr19⟩ := Kd.R_elem HO_10.out z65 ((ji16) : Int) p19 q19; obtain rfl := k65_openM hM19
      have hx19_0 : wr.cell? ⟨go19, ((ji16) : Int).toNat * 2, none⟩ = some (.int .i64 ((rd_T65 x10_1 (ji16)).f0)) := hcc19 0 _ rfl
      have hx19_1 : wr.cell? ⟨go19, ((ji16) : Int).toNat * 2 + 1, none⟩ = some (.int .i64 ((rd_T65 x10_1 (ji16)).f1)) := hcc19 1 _ rfl
      have hf19_0 : wr.frozen? ⟨go19, ((ji16) : Int).toNat * 2, none⟩ = false := hfr19 0
      have hf19_1 : wr.frozen? ⟨go19, ((ji16) : Int).toNat * 2 + 1, none⟩ = false := hfr19 1
      clear hcl19 hcc19 hfr19 hM19; replace p19 := eq_true p19; replace q19 := eq_true q19; have HX34 := zB.mk (show Kd.R k65 65 wr w.heap.size (fun _ => True) (.slice (some ⟨go19, 0, none⟩) x10_1.length co19) x10_1 from (by (with_reducible repeat (first | apply Kd.R_alloc | apply Kd.R_drewN | apply Kd.R_drew)); exact HO_10.out))
      obtain ⟨ce34, hcl34, hM34, hcc34, hfr34⟩ := Kd.R_elem HX34.out z65 ((ji16) : Int) (of_decide_eq_true (by first | (with_reducible assumption) | assumption)) (by have h_ : ((ji16) : Int) < ((x10_1.length : Int) : Int) := of_decide_eq_true (by first | (with_reducible assumption) | assumption); first | exact h_ | (have e_ := (Kd.R_reads' HO_10.out).1; omega) | simpa using h_)
      obtain rfl := k65_openM hM34
      have HP34 := Kd.R_seg HX34.out ((ji16) : Int) (of_decide_eq_true (by first | (with_reducible assumption) | assumption)) (by have h_ : ((ji16) : Int) < ((x10_1.length : Int) : Int) := of_decide_eq_true (by first | (with_reducible assumption) | assumption); first | exact h_ | (have e_ := (Kd.R_reads' HO_10.out).1; omega) | simpa using h_) (seg := [.int .i64 0, .int .i64 (-1)]) (j := 0) hcl34 hcc34 (show 2 ≤ 2 from by decide) (x' := (⟨0, (-1)⟩ : S65)) (k65_mkM _ _ _ (⟨0, (-1)⟩ : S65) ) (fun _ hk => hk)
      have hx34_0 := hcc34 0 _ rfl; (try simp only [show (k65).sz = 2 from rfl, Nat.mul_one, Nat.add_zero] at hx34_0)
      have hf34_0 := hfr34 0; (try simp only [show (k65).sz = 2 from rfl, Nat.mul_one, Nat.add_zero] at hf34_0)
      have hx34_1 := hcc34 1 _ rfl; (try simp only [show (k65).sz = 2 from rfl, Nat.mul_one, Nat.add_zero] at hx34_1)
      have hf34_1 := hfr34 1; (try simp only [show (k65).sz = 2 from rfl, Nat.mul_one, Nat.add_zero] at hf34_1)
      clear hcl34 hcc34 hfr34 hM34; go_wp2_with (first | ((with_reducible refine gate_store (t := 65) (p := 35) rfl ?_); refine store_event (t := 65) (p := 35) (v := ?vo_w35) (w1 := ((wr.setCell ⟨go19, ((ji16) : Int).toNat * 2, none⟩ (.int .i64 0)).setCell ⟨go19, ((ji16) : Int).toNat * 2 + 1, none⟩ (.int .i64 (-1)))) ?hg ?ho ?hn ?hr ?_; (case ho => rfl); (case hg => rfl); (case hn => rfl); (case hr => first | (go_simp; done) | (go_simp; rfl)); intro w35 hw; have hg : wr.grownBy w35 (some go19) := (by rw [hw]; exact HP34.2); have hp_ : Kd.R k65 65 w35 w.heap.size (fun _ => True) (.slice (some ⟨go19, 0, none⟩) x10_1.length co19) y155 := (by rw [hw, Ny155.out]; exact HP34.1); clear HP34; have n0_ := zB.mk (hp_); have n1_ := zB.mk (blk_grown (g := gb150) (o := .cells #[.slice A0_0 l0_0.length c0_0, .slice A0_1 l0_1.length c0_1] 31 (0, 0)) (by (with_reducible repeat (first | refine zC ?_ _ | refine zD ?_ | refine zA ?_ _)); exact BK150.out) hg (Kd.R_ne HO_10.out BK150.out (by decide))); have n2_ := zB.mk (blk_grown (g := gb151) (o := .cells #[.int .i64 a3_0, .int .i64 a3_1, .int .u8 a3_2, .int .i64 a3_3, .int .i64 a3_4, .float .f64 a3_5] 35 (0, 0)) (by (with_reducible repeat (first | refine zC ?_ _ | refine zD ?_ | refine zA ?_ _)); exact BK151.out) hg (Kd.R_ne HO_10.out BK151.out (by decide))); have n3_ := zB.mk ((by rw [hw]; exact zE (zE (HB.out) GB19.out) GB19.out : Below w.heap.size w w35)); clear HO_10; clear BK150; clear BK151; clear HB; have HO_10 := n0_; have BK150 := n1_; have BK151 := n2_; have HB := n3_; clear n0_ n1_ n2_ n3_; clear hg hw hp_; have hnb36 := NB150_151.out; have hnc36 := NB151_150.out; have hcz37_0 : w35.cell? ⟨gb150, 0, none⟩ = some (.slice A0_0 l0_0.length c0_0) := (zG BK150.out 0).trans rfl; have hcz37_1 : w35.cell? ⟨gb150, 1, none⟩ = some (.slice A0_1 l0_1.length c0_1) := (zG BK150.out 1).trans rfl; have hfz37_0 := zI BK150.out 0; have hfz37_1 := zI BK150.out 1; have p159 : 0 ≤ (x11_1 : Int) := of_decide_eq_true (by first | (with_reducible assumption) | assumption); have q159 : x11_1 < (l0_1.length : Int) := of_decide_eq_true (by first | (with_reducible assumption) | assumption); obtain ⟨ad159, e159, hx159_0⟩ := Kd.at_int HR0_1.out x11_1 p159 q159; cases e159; replace hx159_0 := (HB.out.cell (World.block_lt_of_cell? w _ hx159_0)).trans hx159_0; replace p159 := eq_true p159; replace q159 := eq_true q159))
      go_roundg k1
      case measure => have := HK1.out; omega
      case rel => exact ⟨(y155), (wrap64 (x11_1 - 1)), (by first | rfl | (simp; done) | (simp [*]; done)), H', ⟨by have := HK1.out; omega⟩, ⟨by (with_reducible repeat (first | apply Kd.R_alloc | apply Kd.R_drewN | apply Kd.R_drew)); exact HO_10.out⟩, ⟨by (with_reducible repeat (first | refine zC ?_ _ | refine zD ?_ | refine zA ?_ _)); exact BK150.out⟩, ⟨by (with_reducible repeat (first | refine zC ?_ _ | refine zD ?_ | refine zA ?_ _)); exact BK151.out⟩, ⟨by repeat (first | (with_reducible first | exact HB.out | apply zJ | apply zF | apply zH | refine zE ?_ GE150.out | refine zE ?_ GE151.out) | exact HB.out)⟩⟩
    rw [if_neg c33] at H; have c33b0 : ((rd l0_1 x11_1) == 0) = false := beq_eq_false_iff_ne.mpr c33
    have c33b1 : ((rd l0_1 x11_1) != 0) = true := bne_iff_ne.mpr c33
    replace H := Option.bind_eq_some_iff.mp H; obtain ⟨⟨t160, t161⟩, A380, H⟩ := H; replace H : (best_Break.l0 k1 a1 a2 (y155.set ((ji16) : Int).toNat (⟨t160, t161⟩ : S65)) (wrap64 (x11_1 - 1)) l0_0 l0_1 a3_0 a3_1 a3_2 a3_3 a3_4 a3_5) = some (r1, r2) := H; have A38 := zB.mk A380; clear A380; obtain ⟨y162, hy162⟩ : ∃ y_ : List (S65), y_ = (y155.set ((ji16) : Int).toNat (⟨t160, t161⟩ : S65)) := ⟨_, rfl⟩; replace H : (best_Break.l0 k1 a1 a2 y162 (wrap64 (x11_1 - 1)) l0_0 l0_1 a3_0 a3_1 a3_2 a3_3 a3_4 a3_5) = some (r1, r2) := by first | (rw [hy162]; with_reducible exact H) | (have H2_ := (Option.bind_some _ _).symm.trans H; rw [hy162]; with_reducible exact H2_) | (have H2_ := (Option.bind_some _ _).symm.trans H; with_reducible exact H2_) | with_reducible exact H | (rw [hy162]; exact H) | exact H
    have Ny162 := zB.mk hy162; clear hy162; have H' := zB.mk H
    clear H; have p19 : 0 ≤ ((ji16) : Int) := of_decide_eq_true (by first | (with_reducible assumption) | assumption)
    have q19 : ((ji16) : Int) < ((x10_1.length : Int) : Int) := of_decide_eq_true (by first | (with_reducible assumption) | assumption)
    obtain ⟨go19, co19, eo19, gb19, gl19, cl19, HG19⟩ := Kd.R_form HO_10.out (by omega)
    (first | cases eo19 | (injection eo19 with ea_ en_ ec_; (first | subst ea_ | (injection ea_ with ea_; subst ea_)); subst ec_; clear en_))
    have GB19 := zB.mk gb19; have GG19 := zB.mk HG19; clear gb19 gl19 HG19; obtain ⟨ce19, hcl19, hM19, hcc19, hfr19⟩ := Kd.R_elem HO_10.out z65 ((ji16) : Int) p19 q19; obtain rfl := k65_openM hM19
    have hx19_0 : wr.cell? ⟨go19, ((ji16) : Int).toNat * 2, none⟩ = some (.int .i64 ((rd_T65 x10_1 (ji16)).f0)) := hcc19 0 _ rfl
    have hx19_1 : wr.cell? ⟨go19, ((ji16) : Int).toNat * 2 + 1, none⟩ = some (.int .i64 ((rd_T65 x10_1 (ji16)).f1)) := hcc19 1 _ rfl
    have hf19_0 : wr.frozen? ⟨go19, ((ji16) : Int).toNat * 2, none⟩ = false := hfr19 0
    have hf19_1 : wr.frozen? ⟨go19, ((ji16) : Int).toNat * 2 + 1, none⟩ = false := hfr19 1
    clear hcl19 hcc19 hfr19 hM19; replace p19 := eq_true p19; replace q19 := eq_true q19; have HX40 := zB.mk (show Kd.R k65 65 wr w.heap.size (fun _ => True) (.slice (some ⟨go19, 0, none⟩) x10_1.length co19) x10_1 from (by (with_reducible repeat (first | apply Kd.R_alloc | apply Kd.R_drewN | apply Kd.R_drew)); exact HO_10.out))
    obtain ⟨ce40, hcl40, hM40, hcc40, hfr40⟩ := Kd.R_elem HX40.out z65 ((ji16) : Int) (of_decide_eq_true (by first | (with_reducible assumption) | assumption)) (by have h_ : ((ji16) : Int) < ((x10_1.length : Int) : Int) := of_decide_eq_true (by first | (with_reducible assumption) | assumption); first | exact h_ | (have e_ := (Kd.R_reads' HO_10.out).1; omega) | simpa using h_)
    obtain rfl := k65_openM hM40
    have HP40 := Kd.R_seg HX40.out ((ji16) : Int) (of_decide_eq_true (by first | (with_reducible assumption) | assumption)) (by have h_ : ((ji16) : Int) < ((x10_1.length : Int) : Int) := of_decide_eq_true (by first | (with_reducible assumption) | assumption); first | exact h_ | (have e_ := (Kd.R_reads' HO_10.out).1; omega) | simpa using h_) (seg := [.int .i64 0, .int .i64 (-1)]) (j := 0) hcl40 hcc40 (show 2 ≤ 2 from by decide) (x' := (⟨0, (-1)⟩ : S65)) (k65_mkM _ _ _ (⟨0, (-1)⟩ : S65) ) (fun _ hk => hk)
    have hx40_0 := hcc40 0 _ rfl; (try simp only [show (k65).sz = 2 from rfl, Nat.mul_one, Nat.add_zero] at hx40_0)
    have hf40_0 := hfr40 0; (try simp only [show (k65).sz = 2 from rfl, Nat.mul_one, Nat.add_zero] at hf40_0)
    have hx40_1 := hcc40 1 _ rfl; (try simp only [show (k65).sz = 2 from rfl, Nat.mul_one, Nat.add_zero] at hx40_1)
    have hf40_1 := hfr40 1; (try simp only [show (k65).sz = 2 from rfl, Nat.mul_one, Nat.add_zero] at hf40_1)
    clear hcl40 hcc40 hfr40 hM40; go_wp2_with (first | ((with_reducible refine gate_store (t := 65) (p := 35) rfl ?_); refine store_event (t := 65) (p := 35) (v := ?vo_w41) (w1 := ((wr.setCell ⟨go19, ((ji16) : Int).toNat * 2, none⟩ (.int .i64 0)).setCell ⟨go19, ((ji16) : Int).toNat * 2 + 1, none⟩ (.int .i64 (-1)))) ?hg ?ho ?hn ?hr ?_; (case ho => rfl); (case hg => rfl); (case hn => rfl); (case hr => first | (go_simp; done) | (go_simp; rfl)); intro w41 hw; have hg : wr.grownBy w41 (some go19) := (by rw [hw]; exact HP40.2); have hp_ : Kd.R k65 65 w41 w.heap.size (fun _ => True) (.slice (some ⟨go19, 0, none⟩) x10_1.length co19) y155 := (by rw [hw, Ny155.out]; exact HP40.1); clear HP40; have n0_ := zB.mk (hp_); have n1_ := zB.mk (blk_grown (g := gb150) (o := .cells #[.slice A0_0 l0_0.length c0_0, .slice A0_1 l0_1.length c0_1] 31 (0, 0)) (by (with_reducible repeat (first | refine zC ?_ _ | refine zD ?_ | refine zA ?_ _)); exact BK150.out) hg (Kd.R_ne HO_10.out BK150.out (by decide))); have n2_ := zB.mk (blk_grown (g := gb151) (o := .cells #[.int .i64 a3_0, .int .i64 a3_1, .int .u8 a3_2, .int .i64 a3_3, .int .i64 a3_4, .float .f64 a3_5] 35 (0, 0)) (by (with_reducible repeat (first | refine zC ?_ _ | refine zD ?_ | refine zA ?_ _)); exact BK151.out) hg (Kd.R_ne HO_10.out BK151.out (by decide))); have n3_ := zB.mk ((by rw [hw]; exact zE (zE (HB.out) GB19.out) GB19.out : Below w.heap.size w w41)); clear HO_10; clear BK150; clear BK151; clear HB; have HO_10 := n0_; have BK150 := n1_; have BK151 := n2_; have HB := n3_; clear n0_ n1_ n2_ n3_; clear hg hw hp_; have hnb42 := NB150_151.out; have hnc42 := NB151_150.out; have hcz43_0 : w41.cell? ⟨gb150, 0, none⟩ = some (.slice A0_0 l0_0.length c0_0) := (zG BK150.out 0).trans rfl; have hcz43_1 : w41.cell? ⟨gb150, 1, none⟩ = some (.slice A0_1 l0_1.length c0_1) := (zG BK150.out 1).trans rfl; have hfz43_0 := zI BK150.out 0; have hfz43_1 := zI BK150.out 1; have p159 : 0 ≤ (x11_1 : Int) := of_decide_eq_true (by first | (with_reducible assumption) | assumption); have q159 : x11_1 < (l0_1.length : Int) := of_decide_eq_true (by first | (with_reducible assumption) | assumption); obtain ⟨ad159, e159, hx159_0⟩ := Kd.at_int HR0_1.out x11_1 p159 q159; cases e159; replace hx159_0 := (HB.out.cell (World.block_lt_of_cell? w _ hx159_0)).trans hx159_0; replace p159 := eq_true p159; replace q159 := eq_true q159; have hcz44_0 : w41.cell? ⟨gb151, 0, none⟩ = some (.int .i64 a3_0) := (zG BK151.out 0).trans rfl; have hcz44_1 : w41.cell? ⟨gb151, 1, none⟩ = some (.int .i64 a3_1) := (zG BK151.out 1).trans rfl; have hcz44_2 : w41.cell? ⟨gb151, 2, none⟩ = some (.int .u8 a3_2) := (zG BK151.out 2).trans rfl; have hcz44_3 : w41.cell? ⟨gb151, 3, none⟩ = some (.int .i64 a3_3) := (zG BK151.out 3).trans rfl; have hcz44_4 : w41.cell? ⟨gb151, 4, none⟩ = some (.int .i64 a3_4) := (zG BK151.out 4).trans rfl; have hcz44_5 : w41.cell? ⟨gb151, 5, none⟩ = some (.float .f64 a3_5) := (zG BK151.out 5).trans rfl; have hfz44_0 := zI BK151.out 0; have hfz44_1 := zI BK151.out 1; have hfz44_2 := zI BK151.out 2; have hfz44_3 := zI BK151.out 3; have hfz44_4 := zI BK151.out 4; have hfz44_5 := zI BK151.out 5) | ((with_reducible refine gate_callee (f := 24) rfl ?_); refine goesL_ (some 57) rfl rfl Try.func24 (by kernel_rfl) rfl #[.agg #[.slice A0_0 l0_0.length c0_0, .slice (some ad159) l0_1.length c0_1], .int .i64 x11_1, .int .i64 a1, .int .i64 a2, .slice (some ⟨go19, 0, none⟩) y155.length co19, .agg #[.int .i64 a3_0, .int .i64 a3_1, .int .u8 a3_2, .int .i64 a3_3, .int .i64 a3_4, .float .f64 a3_5]] rfl (by (try simp only [List.map_toArray, List.map_cons, List.map_nil]); first | done | (rw [show y155.length = x10_1.length from (Kd.R_reads' HO_10.out).1.symm] <;> rfl) | rfl | (simp only [List.length_drop, List.length_take]; rfl)) ?_; (with_reducible refine (best_next.calls k1 _ _ l0_0 _ _ l0_1 x11_1 a1 a2 _ _ y155 a3_0 a3_1 a3_2 a3_3 a3_4 a3_5 t160 t161 _ ?side1 ?side2 ?side3 ?side4 ?side5 ?side6 A38.out).mono ?_); (case side1 => repeat (first | exact (Kd.C_below HR0_0.out HB.out) | (with_reducible refine Kd.C_alloc ?_ _) | (with_reducible refine Kd.C_drewN ?_ _) | (with_reducible refine Kd.C_drew ?_))); (case side2 => exact HC0_0.out); (case side3 => repeat (first | exact (Kd.C_below HR0_1.out HB.out) | (with_reducible refine Kd.C_alloc ?_ _) | (with_reducible refine Kd.C_drewN ?_ _) | (with_reducible refine Kd.C_drew ?_))); (case side4 => exact HC0_1.out); (case side5 => repeat (first | exact (Kd.R_reads' HO_10.out).2.2 | (with_reducible refine Kd.C_alloc ?_ _) | (with_reducible refine Kd.C_drewN ?_ _) | (with_reducible refine Kd.C_drew ?_))); (case side6 => rw [show y155.length = x10_1.length from (Kd.R_reads' HO_10.out).1.symm]; exact (Kd.R_reads' HO_10.out).2.1); rintro e w45 ⟨rfl, hb⟩; refine ⟨_, rfl, ?_⟩; have n0_ := zB.mk (Kd.R_below (by (with_reducible repeat (first | apply Kd.R_alloc | apply Kd.R_drewN | apply Kd.R_drew)); exact HO_10.out) hb); have n1_ := zB.mk (zK (g := gb150) (o := .cells #[.slice A0_0 l0_0.length c0_0, .slice (some ad159) l0_1.length c0_1] 31 (0, 0)) (by (with_reducible repeat (first | refine zC ?_ _ | refine zD ?_ | refine zA ?_ _)); exact BK150.out) hb); have n2_ := zB.mk (zK (g := gb151) (o := .cells #[.int .i64 a3_0, .int .i64 a3_1, .int .u8 a3_2, .int .i64 a3_3, .int .i64 a3_4, .float .f64 a3_5] 35 (0, 0)) (by (with_reducible repeat (first | refine zC ?_ _ | refine zD ?_ | refine zA ?_ _)); exact BK151.out) hb); have n3_ := zB.mk (zO (by repeat (first | (with_reducible first | exact HB.out | apply zJ | apply zF | apply zH | refine zE ?_ GE150.out | refine zE ?_ GE151.out) | exact HB.out)) hb); clear HO_10; clear BK150; clear BK151; clear HB; have HO_10 := n0_; have BK150 := n1_; have BK151 := n2_; have HB := n3_; clear n0_ n1_ n2_ n3_; (try clear hb); (try clear hb2); (try clear hk); (try clear hi); have p39 : 0 ≤ ((ji16) : Int) := of_decide_eq_true (by first | (with_reducible assumption) | assumption); have q39 : ((ji16) : Int) < ((x10_1.length : Int) : Int) := of_decide_eq_true (by first | (with_reducible assumption) | assumption); obtain ⟨ce39, hcl39, hM39, hcc39, hfr39⟩ := Kd.R_elem HO_10.out z65 ((ji16) : Int) p39 q39; obtain rfl := k65_openM hM39; have hx39_0 : w45.cell? ⟨go19, ((ji16) : Int).toNat * 2, none⟩ = some (.int .i64 ((rd_T65 y155 (ji16)).f0)) := hcc39 0 _ rfl; have hx39_1 : w45.cell? ⟨go19, ((ji16) : Int).toNat * 2 + 1, none⟩ = some (.int .i64 ((rd_T65 y155 (ji16)).f1)) := hcc39 1 _ rfl; have hf39_0 : w45.frozen? ⟨go19, ((ji16) : Int).toNat * 2, none⟩ = false := hfr39 0; have hf39_1 : w45.frozen? ⟨go19, ((ji16) : Int).toNat * 2 + 1, none⟩ = false := hfr39 1; clear hcl39 hcc39 hfr39 hM39; replace p39 := eq_true p39; replace q39 := eq_true q39; have HX46 := zB.mk (show Kd.R k65 65 w45 w.heap.size (fun _ => True) (.slice (some ⟨go19, 0, none⟩) x10_1.length co19) y155 from (by (with_reducible repeat (first | apply Kd.R_alloc | apply Kd.R_drewN | apply Kd.R_drew)); exact HO_10.out)); obtain ⟨ce46, hcl46, hM46, hcc46, hfr46⟩ := Kd.R_elem HX46.out z65 ((ji16) : Int) (of_decide_eq_true (by first | (with_reducible assumption) | assumption)) (by have h_ : ((ji16) : Int) < ((x10_1.length : Int) : Int) := of_decide_eq_true (by first | (with_reducible assumption) | assumption); first | exact h_ | (have e_ := (Kd.R_reads' HO_10.out).1; omega) | simpa using h_); obtain rfl := k65_openM hM46; have HP46 := Kd.R_seg HX46.out ((ji16) : Int) (of_decide_eq_true (by first | (with_reducible assumption) | assumption)) (by have h_ : ((ji16) : Int) < ((x10_1.length : Int) : Int) := of_decide_eq_true (by first | (with_reducible assumption) | assumption); first | exact h_ | (have e_ := (Kd.R_reads' HO_10.out).1; omega) | simpa using h_) (seg := [.int .i64 t160, .int .i64 t161]) (j := 0) hcl46 hcc46 (show 2 ≤ 2 from by decide) (x' := (⟨t160, t161⟩ : S65)) (k65_mkM _ _ _ (⟨t160, t161⟩ : S65) ) (fun _ hk => hk); have hx46_0 := hcc46 0 _ rfl; (try simp only [show (k65).sz = 2 from rfl, Nat.mul_one, Nat.add_zero] at hx46_0); have hf46_0 := hfr46 0; (try simp only [show (k65).sz = 2 from rfl, Nat.mul_one, Nat.add_zero] at hf46_0); have hx46_1 := hcc46 1 _ rfl; (try simp only [show (k65).sz = 2 from rfl, Nat.mul_one, Nat.add_zero] at hx46_1); have hf46_1 := hfr46 1; (try simp only [show (k65).sz = 2 from rfl, Nat.mul_one, Nat.add_zero] at hf46_1); clear hcl46 hcc46 hfr46 hM46) | ((with_reducible refine gate_store (t := 65) (p := 58) rfl ?_); refine store_event (t := 65) (p := 58) (v := ?vo_w47) (w1 := ((w45.setCell ⟨go19, ((ji16) : Int).toNat * 2, none⟩ (.int .i64 t160)).setCell ⟨go19, ((ji16) : Int).toNat * 2 + 1, none⟩ (.int .i64 t161))) ?hg ?ho ?hn ?hr ?_; (case ho => rfl); (case hg => rfl); (case hn => rfl); (case hr => first | (go_simp; done) | (go_simp; rfl)); intro w47 hw; have hg : w45.grownBy w47 (some go19) := (by rw [hw]; exact HP46.2); have hp_ : Kd.R k65 65 w47 w.heap.size (fun _ => True) (.slice (some ⟨go19, 0, none⟩) x10_1.length co19) y162 := (by rw [hw, Ny162.out]; exact HP46.1); clear HP46; have n0_ := zB.mk (hp_); have n1_ := zB.mk (blk_grown (g := gb150) (o := .cells #[.slice A0_0 l0_0.length c0_0, .slice (some ad159) l0_1.length c0_1] 31 (0, 0)) (by (with_reducible repeat (first | refine zC ?_ _ | refine zD ?_ | refine zA ?_ _)); exact BK150.out) hg (Kd.R_ne HO_10.out BK150.out (by decide))); have n2_ := zB.mk (blk_grown (g := gb151) (o := .cells #[.int .i64 a3_0, .int .i64 a3_1, .int .u8 a3_2, .int .i64 a3_3, .int .i64 a3_4, .float .f64 a3_5] 35 (0, 0)) (by (with_reducible repeat (first | refine zC ?_ _ | refine zD ?_ | refine zA ?_ _)); exact BK151.out) hg (Kd.R_ne HO_10.out BK151.out (by decide))); have n3_ := zB.mk ((by rw [hw]; exact zE (zE (HB.out) GB19.out) GB19.out : Below w.heap.size w w47)); clear HO_10; clear BK150; clear BK151; clear HB; have HO_10 := n0_; have BK150 := n1_; have BK151 := n2_; have HB := n3_; clear n0_ n1_ n2_ n3_; clear hg hw hp_))
    go_roundg k1
    case measure => have := HK1.out; omega
    case rel => exact ⟨(y162), (wrap64 (x11_1 - 1)), (by first | rfl | (simp; done) | (simp [*]; done)), H', ⟨by have := HK1.out; omega⟩, ⟨by (with_reducible repeat (first | apply Kd.R_alloc | apply Kd.R_drewN | apply Kd.R_drew)); exact HO_10.out⟩, ⟨by (with_reducible repeat (first | refine zC ?_ _ | refine zD ?_ | refine zA ?_ _)); exact BK150.out⟩, ⟨by (with_reducible repeat (first | refine zC ?_ _ | refine zD ?_ | refine zA ?_ _)); exact BK151.out⟩, ⟨by repeat (first | (with_reducible first | exact HB.out | apply zJ | apply zF | apply zH | refine zE ?_ GE150.out | refine zE ?_ GE151.out) | exact HB.out)⟩⟩
end Go.Proofs.Ytlgclhhkgohanaa.F
end
section
namespace Go.Proofs.Ytlgclhhkgohanaa.F
open Go.RowKit Go.Proofs.YtlgclhhkgohanaaW.PrintWords Go.Proofs.YtlgclhhkgohanaaW.PrintLast Go.Proofs.YtlgclhhkgohanaaW.PrintMore
attribute [local go_sem] max2_int min2_int max_two min_two max_three min_three max_four min_four   -- for this text's walks alone
set_option linter.unusedVariables false
set_option linter.unusedSimpArgs false
mutual
def stanzahand03_Para.j1 : Nat → List (S45) → List (S62) → Option ((List (S62)) × List Int)
  | 0, _, _ => none
  | k + 1, x0, x175000 => stanzahand03_Para.l1 k x0 0 x175000 ([] : List Int)
def stanzahand03_Para.l1 : Nat → List (S45) → Int → List (S62) → List Int → Option ((List (S62)) × List Int)
  | 0, _, _, _, _ => none
  | k + 1, x0, x8, x175000, x175001 => if x8 < (x175000.length : Int) then (if x8 > 0 then (if 0 ≤ (wrap64 (x8 - 1)) then (if (wrap64 (x8 - 1)) < (x0.length : Int) then (if x175001.length < 140737488355328 then (stanzahand03_Para.l1 k x0 (wrap64 (x8 + 1)) x175000 (x175001 ++ [Int.tmod ((rd_T45 x0 (wrap64 (x8 - 1))).f3) 4])) else (none)) else (none)) else (none)) else (if x175001.length < 140737488355328 then (stanzahand03_Para.l1 k x0 (wrap64 (x8 + 1)) x175000 (x175001 ++ [0])) else (none))) else (if x175001.length < 140737488355328 then (some (x175000, (x175001 ++ [2]))) else (none))
def stanzahand03_Para.l0 : Nat → List (S45) → Int → Int → List (S62) → Option ((List (S62)) × List Int)
  | 0, _, _, _, _ => none
  | k + 1, x0, x4, x5, x175000 => if x5 < (x0.length : Int) then (if x4 < 4000 then (if 0 ≤ x5 then (if x175000.length < 4398046511104 then (stanzahand03_Para.l0 k x0 (wrap64 (x4 + (wrap64 (1 + (wrap64 (Int.tmod ((rd_T45 x0 x5).f2) 4)))))) (wrap64 (x5 + 1)) (x175000 ++ [(⟨x4, wrap64 (1 + (wrap64 (Int.tmod ((rd_T45 x0 x5).f2) 4))), wrap64 (Int.tmod ((rd_T45 x0 x5).f0) 3), Int.tmod ((rd_T45 x0 x5).f1) 3⟩ : S62)])) else (none)) else (none)) else (stanzahand03_Para.j1 k x0 x175000)) else (stanzahand03_Para.j1 k x0 x175000)
end
def stanzahand03_Para.f (k : Nat) (l0 : List (S45)) : Option ((List (S62)) × List Int) := stanzahand03_Para.l0 k l0 0 0 ([] : List (S62))
theorem stanzahand03_Para.mono_l : ∀ k, (∀ y0 y1, LeO (stanzahand03_Para.j1 k y0 y1) (stanzahand03_Para.j1 (k + 1) y0 y1)) ∧ (∀ y0 y1 y2 y3, LeO (stanzahand03_Para.l1 k y0 y1 y2 y3) (stanzahand03_Para.l1 (k + 1) y0 y1 y2 y3)) ∧ (∀ y0 y1 y2 y3, LeO (stanzahand03_Para.l0 k y0 y1 y2 y3) (stanzahand03_Para.l0 (k + 1) y0 y1 y2 y3))
  | 0 => ⟨fun _ _ r h => by simp [stanzahand03_Para.j1] at h, fun _ _ _ _ r h => by simp [stanzahand03_Para.l1] at h, fun _ _ _ _ r h => by simp [stanzahand03_Para.l0] at h⟩
  | k + 1 => by
    obtain ⟨ih0, ih1, ih2⟩ := stanzahand03_Para.mono_l k; refine ⟨?_, ?_, ?_⟩
    · intro y0 y1
      unfold stanzahand03_Para.j1
      repeat' first
      | (with_reducible exact ih0 _ _)
      | (with_reducible exact ih1 _ _ _ _)
      | (with_reducible exact ih2 _ _ _ _)
      | (with_reducible exact LeO.refl _)
      | (with_reducible exact LeO.none _)
      | (with_reducible refine LeO.ite ?_ ?_)
      | (with_reducible refine LeO.bind ?_ (fun _ => ?_))
      | exact ih0 _ _
      | exact ih1 _ _ _ _
      | exact ih2 _ _ _ _
      | exact LeO.none _
      | refine LeO.ite ?_ ?_
      | refine LeO.bind ?_ (fun _ => ?_)
    · intro y0 y1 y2 y3
      unfold stanzahand03_Para.l1
      repeat' first
      | (with_reducible exact ih0 _ _)
      | (with_reducible exact ih1 _ _ _ _)
      | (with_reducible exact ih2 _ _ _ _)
      | (with_reducible exact LeO.refl _)
      | (with_reducible exact LeO.none _)
      | (with_reducible refine LeO.ite ?_ ?_)
      | (with_reducible refine LeO.bind ?_ (fun _ => ?_))
      | exact ih0 _ _
      | exact ih1 _ _ _ _
      | exact ih2 _ _ _ _
      | exact LeO.none _
      | refine LeO.ite ?_ ?_
      | refine LeO.bind ?_ (fun _ => ?_)
    · intro y0 y1 y2 y3
      unfold stanzahand03_Para.l0
      repeat' first
      | (with_reducible exact ih0 _ _)
      | (with_reducible exact ih1 _ _ _ _)
      | (with_reducible exact ih2 _ _ _ _)
      | (with_reducible exact LeO.refl _)
      | (with_reducible exact LeO.none _)
      | (with_reducible refine LeO.ite ?_ ?_)
      | (with_reducible refine LeO.bind ?_ (fun _ => ?_))
      | exact ih0 _ _
      | exact ih1 _ _ _ _
      | exact ih2 _ _ _ _
      | exact LeO.none _
      | refine LeO.ite ?_ ?_
      | refine LeO.bind ?_ (fun _ => ?_)
theorem stanzahand03_Para.mono : ∀ a0 k, LeO (stanzahand03_Para.f k a0) (stanzahand03_Para.f (k + 1) a0) := by
  intro a0 k
  obtain ⟨ih0, ih1, ih2⟩ := stanzahand03_Para.mono_l k; unfold stanzahand03_Para.f
  repeat' first
      | (with_reducible exact ih0 _ _)
      | (with_reducible exact ih1 _ _ _ _)
      | (with_reducible exact ih2 _ _ _ _)
      | (with_reducible exact LeO.refl _)
      | (with_reducible exact LeO.none _)
      | (with_reducible refine LeO.ite ?_ ?_)
      | (with_reducible refine LeO.bind ?_ (fun _ => ?_))
      | exact ih0 _ _
      | exact ih1 _ _ _ _
      | exact ih2 _ _ _ _
      | exact LeO.none _
      | refine LeO.ite ?_ ?_
      | refine LeO.bind ?_ (fun _ => ?_)
set_option maxHeartbeats 8000000 in
set_option maxRecDepth 100000 in
theorem stanzahand03_Para.calls (k : Nat) (A0 : Option Addr) (c0 : Nat) (l0 : List (S45)) (r1 : List (S62)) (r2 : List Int) (w : World) (hr0 : Kd.C k45 w A0 l0.length l0) (hc0 : l0.length ≤ c0) (h : stanzahand03_Para.f k l0 = some (r1, r2)) :
    Calls Try.prog 11 #[.slice A0 l0.length c0] w fun e w' => ∃ v0_ v1_ : Value, e = .returned (.agg #[v0_, v1_]) ∧ Kd.R k62 62 w' w.heap.size (fun _ => True) v0_ r1 ∧ Kd.R (Kd.int .u8) 46 w' w.heap.size (fun _ => True) v1_ r2 ∧ Below w.heap.size w w' := by
  have hu31 := Try.underlying31; have hu45 := Try.underlying45; have hu62 := Try.underlying62; have HR0 := zB.mk hr0; have HC0 := zB.mk hc0; clear hr0 hc0; have HB := zB.mk (Below.refl w.heap.size w); have H : (stanzahand03_Para.l0 k l0 0 0 ([] : List (S62))) = some (r1, r2) := h
  clear h; have HC2 := zB.mk H; clear H; go_enter Try.func11, Try.ntmps11
  go_upto_block 0 with (first | ((with_reducible refine gate_dst (N := 2) rfl ?_); refine box_event ?hg (N := 2) ?hd (cs := #[.slice none 0 0, .slice none 0 0]) (t := 31) ?hr ?_; (case hd => rfl); (case hg => rfl); (case hr => first | (go_simp; done) | (go_simp; rfl)); intro gb173 hg w3 hbox hb; have n0_ := zB.mk (zO (by repeat (first | (with_reducible first | exact HB.out | apply zJ | apply zF | apply zH) | exact HB.out)) hb); have n1_ := zB.mk (hbox); have n2_ := zB.mk ((by rw [hg]; exact (zM (by repeat (first | (with_reducible first | exact HB.out | apply zJ | apply zF | apply zH) | exact HB.out))) : w.heap.size ≤ gb173)); have n3_ := zB.mk ((by rw [hg]; exact (zM (by repeat (first | (with_reducible first | exact HB.out | apply zJ | apply zF | apply zH) | exact HB.out))) : w.heap.size ≤ gb173)); clear HB; have HB := n0_; have BK173 := n1_; have GW173 := n2_; have GE173 := n3_; clear n0_ n1_ n2_ n3_; clear hb hbox hg) | ((with_reducible refine gate_dst (N := 3) rfl ?_); refine box_event ?hg (N := 3) ?hd (cs := #[.slice none 0 0, .slice none 0 0]) (t := 31) ?hr ?_; (case hd => rfl); (case hg => rfl); (case hr => first | (go_simp; done) | (go_simp; rfl)); intro gb174 hg w4 hbox hb; have n0_ := zB.mk (zK (g := gb173) (o := .cells #[.slice none 0 0, .slice none 0 0] 31 (0, 0)) (by (with_reducible repeat (first | refine zC ?_ _ | refine zD ?_ | refine zA ?_ _)); exact BK173.out) hb); have n1_ := zB.mk (zO (by repeat (first | (with_reducible first | exact HB.out | apply zJ | apply zF | apply zH | refine zE ?_ GE173.out) | exact HB.out)) hb); have n2_ := zB.mk (hbox); have n3_ := zB.mk ((by rw [hg]; exact (zM (by repeat (first | (with_reducible first | exact HB.out | apply zJ | apply zF | apply zH | refine zE ?_ GE173.out) | exact HB.out))) : w.heap.size ≤ gb174)); have n4_ := zB.mk ((by rw [hg]; exact (zM (by repeat (first | (with_reducible first | exact HB.out | apply zJ | apply zF | apply zH | refine zE ?_ GE173.out) | exact HB.out))) : w.heap.size ≤ gb174)); have n5_ := zB.mk ((by rw [hg]; exact Nat.ne_of_lt (blk_lt (g := gb173) (o := .cells #[.slice none 0 0, .slice none 0 0] 31 (0, 0)) (by (with_reducible repeat (first | refine zC ?_ _ | refine zD ?_ | refine zA ?_ _)); exact BK173.out)) : gb173 ≠ gb174)); have n6_ := zB.mk ((by rw [hg]; exact Nat.ne_of_gt (blk_lt (g := gb173) (o := .cells #[.slice none 0 0, .slice none 0 0] 31 (0, 0)) (by (with_reducible repeat (first | refine zC ?_ _ | refine zD ?_ | refine zA ?_ _)); exact BK173.out)) : gb174 ≠ gb173)); clear BK173; clear HB; have BK173 := n0_; have HB := n1_; have BK174 := n2_; have GW174 := n3_; have GE174 := n4_; have NB173_174 := n5_; have NB174_173 := n6_; clear n0_ n1_ n2_ n3_ n4_ n5_ n6_; clear hb hbox hg; have hnb5 := NB174_173.out; have hnc5 := NB173_174.out; have hcz6_0 : w4.cell? ⟨gb174, 0, none⟩ = some (.slice none 0 0) := (zG BK174.out 0).trans rfl; have hcz6_1 : w4.cell? ⟨gb174, 1, none⟩ = some (.slice none 0 0) := (zG BK174.out 1).trans rfl; have hfz6_0 := zI BK174.out 0; have hfz6_1 := zI BK174.out 1) | ((with_reducible refine gate_store (t := 31) (p := 3) rfl ?_); refine store_event (t := 31) (p := 3) (v := ?vo_w7) (w1 := ((w4.setCell ⟨gb174, 0, none⟩ (.slice none 0 0)).setCell ⟨gb174, 1, none⟩ (.slice none 0 0))) ?hg ?ho ?hn ?hr ?_; (case ho => rfl); (case hg => rfl); (case hn => rfl); (case hr => first | (go_simp; done) | (go_simp; rfl)); intro w7 hw; have n0_ : zB (w7.heap[gb173]? = some (.cells #[.slice none 0 0, .slice none 0 0] 31 (0, 0))) := ⟨(by rw [hw]; exact (by (with_reducible repeat (first | refine zC ?_ _ | refine zD ?_ | refine zA ?_ _)); refine zN ?_ NB173_174.out _; (with_reducible repeat (first | refine zC ?_ _ | refine zD ?_ | refine zA ?_ _)); refine zN ?_ NB173_174.out _; (with_reducible repeat (first | refine zC ?_ _ | refine zD ?_ | refine zA ?_ _)); exact BK173.out))⟩; have n1_ : zB (w7.heap[gb174]? = some (.cells #[.slice none 0 0, .slice none 0 0] 31 (0, 0))) := ⟨(by rw [hw]; exact (by (with_reducible repeat (first | refine zC ?_ _ | refine zD ?_ | refine zA ?_ _)); refine blk_put (cs := #[.slice none 0 0, .slice none 0 0]) ?_ 1 _ rfl; (with_reducible repeat (first | refine zC ?_ _ | refine zD ?_ | refine zA ?_ _)); refine blk_put (cs := #[.slice none 0 0, .slice none 0 0]) ?_ 0 _ rfl; (with_reducible repeat (first | refine zC ?_ _ | refine zD ?_ | refine zA ?_ _)); exact BK174.out))⟩; have n2_ : zB (Below w.heap.size w w7) := ⟨(by rw [hw]; exact (by repeat (first | (with_reducible first | exact HB.out | apply zJ | apply zF | apply zH | refine zE ?_ GE173.out | refine zE ?_ GE174.out) | exact HB.out)))⟩; clear hw; clear BK173; clear BK174; clear HB; have BK173 := n0_; have BK174 := n1_; have HB := n2_; clear n0_ n1_ n2_))
  (try simp only [Act.put, sA_, sB_, sC_])
  go_cut [] (fun wc => ∃ (kq : Nat) (x175000_1 : List (S62)) (u175000 : Value), zB (stanzahand03_Para.j1 kq l0 x175000_1 = some (r1, r2)) ∧ zB (kq ≤ k) ∧ zB (Kd.R k62 62 wc w.heap.size (fun _ => True) u175000 x175000_1) ∧ zB (wc.heap[gb173]? = some (.cells #[(.slice none 0 0), (.slice none 0 0)] 31 (0, 0))) ∧ zB (wc.heap[gb174]? = some (.cells #[u175000, (.slice none 0 0)] 31 (0, 0))) ∧ zB (Below w.heap.size w wc))
  case first =>
    have H := HC2.out; clear HC2; have H' := zB.mk H
    clear H; go_wp2
    go_loopg [4, 5] k (fun kq v4 v5 w' => ∃ (x4_1 : Int) (x5_1 : Int) (x175000_1 : List (S62)) (u175000 : Value), v4 = .int .i64 x4_1 ∧ v5 = .int .i64 x5_1 ∧ zB (stanzahand03_Para.l0 kq l0 x4_1 x5_1 x175000_1 = some (r1, r2)) ∧ zB (kq ≤ k) ∧ zB (Kd.R k62 62 w' w.heap.size (fun _ => True) u175000 x175000_1) ∧ zB (w'.heap[gb173]? = some (.cells #[(.slice none 0 0), (.slice none 0 0)] 31 (0, 0))) ∧ zB (w'.heap[gb174]? = some (.cells #[u175000, (.slice none 0 0)] 31 (0, 0))) ∧ zB (Below w.heap.size w w'))
    case atStart => exact ⟨(0), (0), (([] : List (S62))), (.slice none 0 0), (by first | rfl | (simp; done) | (simp [*]; done)), (by first | rfl | (simp; done) | (simp [*]; done)), H', ⟨Nat.le_refl _⟩, ⟨by first | exact Kd.R_nil _ _ _ _ _ | exact Kd.N_nil _ _ _ _ _ | exact Kd.V_nil _ _ _ _ _ | exact Kd.Q_nil _ _ _ _ _ | exact Kd.S_nil _ _ _ _ _⟩, ⟨by (with_reducible repeat (first | refine zC ?_ _ | refine zD ?_ | refine zA ?_ _)); exact BK173.out⟩, ⟨by (with_reducible repeat (first | refine zC ?_ _ | refine zD ?_ | refine zA ?_ _)); exact BK174.out⟩, ⟨by repeat (first | (with_reducible first | exact HB.out | apply zJ | apply zF | apply zH | refine zE ?_ GE173.out | refine zE ?_ GE174.out) | exact HB.out)⟩⟩
    clear H'; try clear c1
    try clear p2
    try clear c5
    try clear hcz6_0
    try clear hcz6_1
    try clear hfz6_0
    try clear hfz6_1
    obtain ⟨x4_1, x5_1, x175000_1, u175000, rfl, rfl, HA, HK1, HO_175000, BK173, BK174, HB⟩ := hrel; cases gk with
    | zero => exact absurd HA.out (by simp [stanzahand03_Para.l0])
    | succ k1 =>
      have H := HA.out; clear HA; simp only [stanzahand03_Para.l0] at H; by_cases c8 : x5_1 < (l0.length : Int)
      rotate_left
      · rw [if_neg c8] at H
        have c8b0 : decide (x5_1 < (l0.length : Int)) = false := decide_eq_false c8
        clear c8; (first | rw [c8b0] | (simp only [i64_w, i32_w]; rw [c8b0]) | skip)
        have H' := zB.mk H
        clear H; go_wp2
        go_meet
        case rel => exact ⟨_, (x175000_1), (u175000), H', ⟨by have := HK1.out; first | omega | exact Nat.le_refl _⟩, ⟨by (with_reducible repeat (first | apply Kd.R_alloc | apply Kd.R_drewN | apply Kd.R_drew)); exact HO_175000.out⟩, ⟨by (with_reducible repeat (first | refine zC ?_ _ | refine zD ?_ | refine zA ?_ _)); exact BK173.out⟩, ⟨by (with_reducible repeat (first | refine zC ?_ _ | refine zD ?_ | refine zA ?_ _)); exact BK174.out⟩, ⟨by repeat (first | (with_reducible first | exact HB.out | apply zJ | apply zF | apply zH | refine zE ?_ GE173.out | refine zE ?_ GE174.out) | exact HB.out)⟩⟩
      rw [if_pos c8] at H; have c8b0 : decide (x5_1 < (l0.length : Int)) = true := decide_eq_true c8
      clear c8; (first | rw [c8b0] | (simp only [i64_w, i32_w]; rw [c8b0]) | skip)
      by_cases c9 : x4_1 < 4000
      rotate_left
      · rw [if_neg c9] at H
        have c9b0 : decide (x4_1 < 4000) = false := decide_eq_false c9
        clear c9; have H' := zB.mk H
        clear H; go_wp2
        go_meet
        case rel => exact ⟨_, (x175000_1), (u175000), H', ⟨by have := HK1.out; first | omega | exact Nat.le_refl _⟩, ⟨by (with_reducible repeat (first | apply Kd.R_alloc | apply Kd.R_drewN | apply Kd.R_drew)); exact HO_175000.out⟩, ⟨by (with_reducible repeat (first | refine zC ?_ _ | refine zD ?_ | refine zA ?_ _)); exact BK173.out⟩, ⟨by (with_reducible repeat (first | refine zC ?_ _ | refine zD ?_ | refine zA ?_ _)); exact BK174.out⟩, ⟨by repeat (first | (with_reducible first | exact HB.out | apply zJ | apply zF | apply zH | refine zE ?_ GE173.out | refine zE ?_ GE174.out) | exact HB.out)⟩⟩
      rw [if_pos c9] at H; have c9b0 : decide (x4_1 < 4000) = true := decide_eq_true c9
      clear c9; by_cases c10 : 0 ≤ x5_1
      rotate_left
      · rw [if_neg c10] at H
        exact absurd H (by simp)
      rw [if_pos c10] at H; have c10b0 : decide (0 ≤ x5_1) = true := decide_eq_true c10
      clear c10; by_cases c11 : x175000_1.length < 4398046511104
      rotate_left
      · rw [if_neg c11] at H
        exact absurd H (by simp)
      rw [if_pos c11] at H; have LMc11 := zB.mk c11; clear c11; obtain ⟨y178, hy178⟩ : ∃ y_ : List (S62), y_ = (x175000_1 ++ [(⟨x4_1, wrap64 (1 + (wrap64 (Int.tmod ((rd_T45 l0 x5_1).f2) 4))), wrap64 (Int.tmod ((rd_T45 l0 x5_1).f0) 3), Int.tmod ((rd_T45 l0 x5_1).f1) 3⟩ : S62)]) := ⟨_, rfl⟩; replace H : (stanzahand03_Para.l0 k1 l0 (wrap64 (x4_1 + (wrap64 (1 + (wrap64 (Int.tmod ((rd_T45 l0 x5_1).f2) 4)))))) (wrap64 (x5_1 + 1)) y178) = some (r1, r2) := by first | (rw [hy178]; with_reducible exact H) | (have H2_ := (Option.bind_some _ _).symm.trans H; rw [hy178]; with_reducible exact H2_) | (have H2_ := (Option.bind_some _ _).symm.trans H; with_reducible exact H2_) | with_reducible exact H | (rw [hy178]; exact H) | exact H
      have Ny178 := zB.mk hy178; clear hy178; have H' := zB.mk H
      clear H; have p175 : 0 ≤ (x5_1 : Int) := of_decide_eq_true (by first | (with_reducible assumption) | assumption)
      have q175 : x5_1 < (l0.length : Int) := of_decide_eq_true (by first | (with_reducible assumption) | assumption)
      obtain ⟨ad175, e175, hx175_0, hx175_1, hx175_2, hx175_3⟩ := at_T45 HR0.out x5_1 p175 q175; cases e175
      replace hx175_0 := (HB.out.cell (World.block_lt_of_cell? w _ hx175_0)).trans hx175_0; replace hx175_1 := (HB.out.cell (World.block_lt_of_cell? w _ hx175_1)).trans hx175_1; replace hx175_2 := (HB.out.cell (World.block_lt_of_cell? w _ hx175_2)).trans hx175_2; replace hx175_3 := (HB.out.cell (World.block_lt_of_cell? w _ hx175_3)).trans hx175_3; replace p175 := eq_true p175; replace q175 := eq_true q175; go_wp2_with (first | ((with_reducible refine gate_dst (N := 6) rfl ?_); refine box_event ?hg (N := 6) ?hd (cs := #[.int .u8 0, .int .u8 0, .int .u8 0, .int .u8 0]) (t := 45) ?hr ?_; (case hd => rfl); (case hg => rfl); (case hr => first | (go_simp; done) | (go_simp; rfl)); intro gb176 hg w12 hbox hb; have n0_ := zB.mk (Kd.R_below (by (with_reducible repeat (first | apply Kd.R_alloc | apply Kd.R_drewN | apply Kd.R_drew)); exact HO_175000.out) hb); have n1_ := zB.mk (zK (g := gb173) (o := .cells #[.slice none 0 0, .slice none 0 0] 31 (0, 0)) (by (with_reducible repeat (first | refine zC ?_ _ | refine zD ?_ | refine zA ?_ _)); exact BK173.out) hb); have n2_ := zB.mk (zK (g := gb174) (o := .cells #[u175000, .slice none 0 0] 31 (0, 0)) (by (with_reducible repeat (first | refine zC ?_ _ | refine zD ?_ | refine zA ?_ _)); exact BK174.out) hb); have n3_ := zB.mk (zO (by repeat (first | (with_reducible first | exact HB.out | apply zJ | apply zF | apply zH | refine zE ?_ GE173.out | refine zE ?_ GE174.out) | exact HB.out)) hb); have n4_ := zB.mk (hbox); have n5_ := zB.mk ((by rw [hg]; exact (zM (by repeat (first | (with_reducible first | exact HB.out | apply zJ | apply zF | apply zH | refine zE ?_ GE173.out | refine zE ?_ GE174.out) | exact HB.out))) : w.heap.size ≤ gb176)); have n6_ := zB.mk ((by rw [hg]; exact (zM (by repeat (first | (with_reducible first | exact HB.out | apply zJ | apply zF | apply zH | refine zE ?_ GE173.out | refine zE ?_ GE174.out) | exact HB.out))) : w.heap.size ≤ gb176)); have n7_ := zB.mk ((by rw [hg]; exact Nat.ne_of_lt (blk_lt (g := gb173) (o := .cells #[.slice none 0 0, .slice none 0 0] 31 (0, 0)) (by (with_reducible repeat (first | refine zC ?_ _ | refine zD ?_ | refine zA ?_ _)); exact BK173.out)) : gb173 ≠ gb176)); have n8_ := zB.mk ((by rw [hg]; exact Nat.ne_of_gt (blk_lt (g := gb173) (o := .cells #[.slice none 0 0, .slice none 0 0] 31 (0, 0)) (by (with_reducible repeat (first | refine zC ?_ _ | refine zD ?_ | refine zA ?_ _)); exact BK173.out)) : gb176 ≠ gb173)); have n9_ := zB.mk ((by rw [hg]; exact Nat.ne_of_lt (blk_lt (g := gb174) (o := .cells #[u175000, .slice none 0 0] 31 (0, 0)) (by (with_reducible repeat (first | refine zC ?_ _ | refine zD ?_ | refine zA ?_ _)); exact BK174.out)) : gb174 ≠ gb176)); have n10_ := zB.mk ((by rw [hg]; exact Nat.ne_of_gt (blk_lt (g := gb174) (o := .cells #[u175000, .slice none 0 0] 31 (0, 0)) (by (with_reducible repeat (first | refine zC ?_ _ | refine zD ?_ | refine zA ?_ _)); exact BK174.out)) : gb176 ≠ gb174)); clear HO_175000; clear BK173; clear BK174; clear HB; have HO_175000 := n0_; have BK173 := n1_; have BK174 := n2_; have HB := n3_; have BK176 := n4_; have GW176 := n5_; have GE176 := n6_; have NB173_176 := n7_; have NB176_173 := n8_; have NB174_176 := n9_; have NB176_174 := n10_; clear n0_ n1_ n2_ n3_ n4_ n5_ n6_ n7_ n8_ n9_ n10_; clear hb hbox hg; have hnb13 := NB176_173.out; have hnc13 := NB173_176.out; have hnb14 := NB176_174.out; have hnc14 := NB174_176.out; have hcz15_0 : w12.cell? ⟨gb176, 0, none⟩ = some (.int .u8 0) := (zG BK176.out 0).trans rfl; have hcz15_1 : w12.cell? ⟨gb176, 1, none⟩ = some (.int .u8 0) := (zG BK176.out 1).trans rfl; have hcz15_2 : w12.cell? ⟨gb176, 2, none⟩ = some (.int .u8 0) := (zG BK176.out 2).trans rfl; have hcz15_3 : w12.cell? ⟨gb176, 3, none⟩ = some (.int .u8 0) := (zG BK176.out 3).trans rfl; have hfz15_0 := zI BK176.out 0; have hfz15_1 := zI BK176.out 1; have hfz15_2 := zI BK176.out 2; have hfz15_3 := zI BK176.out 3) | ((with_reducible refine gate_store (t := 45) (p := 6) rfl ?_); refine store_event (t := 45) (p := 6) (v := ?vo_w16) (w1 := ((((w12.setCell ⟨gb176, 0, none⟩ (.int .u8 ((rd_T45 l0 x5_1).f0))).setCell ⟨gb176, 1, none⟩ (.int .u8 ((rd_T45 l0 x5_1).f1))).setCell ⟨gb176, 2, none⟩ (.int .u8 ((rd_T45 l0 x5_1).f2))).setCell ⟨gb176, 3, none⟩ (.int .u8 ((rd_T45 l0 x5_1).f3)))) ?hg ?ho ?hn ?hr ?_; (case ho => rfl); (case hg => rfl); (case hn => rfl); (case hr => first | (go_simp; done) | (go_simp; rfl)); intro w16 hw; have n0_ : zB (Kd.R k62 62 w16 w.heap.size (fun _ => True) u175000 x175000_1) := ⟨(by rw [hw]; exact (by (with_reducible repeat (first | apply Kd.R_alloc | apply Kd.R_drewN | apply Kd.R_drew)); exact Kd.R_mono (Kd.R_far (p := ⟨gb176, 3, none⟩) (Kd.R_far (p := ⟨gb176, 2, none⟩) (Kd.R_far (p := ⟨gb176, 1, none⟩) (Kd.R_far (p := ⟨gb176, 0, none⟩) (Kd.R_types HO_175000.out BK176.out (by decide)) (fun _ hk => hk.2) (.int .u8 ((rd_T45 l0 x5_1).f0))) (fun _ hk => hk.2) (.int .u8 ((rd_T45 l0 x5_1).f1))) (fun _ hk => hk.2) (.int .u8 ((rd_T45 l0 x5_1).f2))) (fun _ hk => hk.2) (.int .u8 ((rd_T45 l0 x5_1).f3))) (fun _ hk => trivial)))⟩; have n1_ : zB (w16.heap[gb173]? = some (.cells #[.slice none 0 0, .slice none 0 0] 31 (0, 0))) := ⟨(by rw [hw]; exact (by (with_reducible repeat (first | refine zC ?_ _ | refine zD ?_ | refine zA ?_ _)); refine zN ?_ NB173_176.out _; (with_reducible repeat (first | refine zC ?_ _ | refine zD ?_ | refine zA ?_ _)); refine zN ?_ NB173_176.out _; (with_reducible repeat (first | refine zC ?_ _ | refine zD ?_ | refine zA ?_ _)); refine zN ?_ NB173_176.out _; (with_reducible repeat (first | refine zC ?_ _ | refine zD ?_ | refine zA ?_ _)); refine zN ?_ NB173_176.out _; (with_reducible repeat (first | refine zC ?_ _ | refine zD ?_ | refine zA ?_ _)); exact BK173.out))⟩; have n2_ : zB (w16.heap[gb174]? = some (.cells #[u175000, .slice none 0 0] 31 (0, 0))) := ⟨(by rw [hw]; exact (by (with_reducible repeat (first | refine zC ?_ _ | refine zD ?_ | refine zA ?_ _)); refine zN ?_ NB174_176.out _; (with_reducible repeat (first | refine zC ?_ _ | refine zD ?_ | refine zA ?_ _)); refine zN ?_ NB174_176.out _; (with_reducible repeat (first | refine zC ?_ _ | refine zD ?_ | refine zA ?_ _)); refine zN ?_ NB174_176.out _; (with_reducible repeat (first | refine zC ?_ _ | refine zD ?_ | refine zA ?_ _)); refine zN ?_ NB174_176.out _; (with_reducible repeat (first | refine zC ?_ _ | refine zD ?_ | refine zA ?_ _)); exact BK174.out))⟩; have n3_ : zB (w16.heap[gb176]? = some (.cells #[.int .u8 ((rd_T45 l0 x5_1).f0), .int .u8 ((rd_T45 l0 x5_1).f1), .int .u8 ((rd_T45 l0 x5_1).f2), .int .u8 ((rd_T45 l0 x5_1).f3)] 45 (0, 0))) := ⟨(by rw [hw]; exact (by (with_reducible repeat (first | refine zC ?_ _ | refine zD ?_ | refine zA ?_ _)); refine blk_put (cs := #[.int .u8 ((rd_T45 l0 x5_1).f0), .int .u8 ((rd_T45 l0 x5_1).f1), .int .u8 ((rd_T45 l0 x5_1).f2), .int .u8 0]) ?_ 3 _ rfl; (with_reducible repeat (first | refine zC ?_ _ | refine zD ?_ | refine zA ?_ _)); refine blk_put (cs := #[.int .u8 ((rd_T45 l0 x5_1).f0), .int .u8 ((rd_T45 l0 x5_1).f1), .int .u8 0, .int .u8 0]) ?_ 2 _ rfl; (with_reducible repeat (first | refine zC ?_ _ | refine zD ?_ | refine zA ?_ _)); refine blk_put (cs := #[.int .u8 ((rd_T45 l0 x5_1).f0), .int .u8 0, .int .u8 0, .int .u8 0]) ?_ 1 _ rfl; (with_reducible repeat (first | refine zC ?_ _ | refine zD ?_ | refine zA ?_ _)); refine blk_put (cs := #[.int .u8 0, .int .u8 0, .int .u8 0, .int .u8 0]) ?_ 0 _ rfl; (with_reducible repeat (first | refine zC ?_ _ | refine zD ?_ | refine zA ?_ _)); exact BK176.out))⟩; have n4_ : zB (Below w.heap.size w w16) := ⟨(by rw [hw]; exact (by repeat (first | (with_reducible first | exact HB.out | apply zJ | apply zF | apply zH | refine zE ?_ GE173.out | refine zE ?_ GE174.out | refine zE ?_ GE176.out) | exact HB.out)))⟩; clear hw; clear HO_175000; clear BK173; clear BK174; clear BK176; clear HB; have HO_175000 := n0_; have BK173 := n1_; have BK174 := n2_; have BK176 := n3_; have HB := n4_; clear n0_ n1_ n2_ n3_ n4_; have hcz17_0 : w16.cell? ⟨gb176, 0, none⟩ = some (.int .u8 ((rd_T45 l0 x5_1).f0)) := (zG BK176.out 0).trans rfl; have hcz17_1 : w16.cell? ⟨gb176, 1, none⟩ = some (.int .u8 ((rd_T45 l0 x5_1).f1)) := (zG BK176.out 1).trans rfl; have hcz17_2 : w16.cell? ⟨gb176, 2, none⟩ = some (.int .u8 ((rd_T45 l0 x5_1).f2)) := (zG BK176.out 2).trans rfl; have hcz17_3 : w16.cell? ⟨gb176, 3, none⟩ = some (.int .u8 ((rd_T45 l0 x5_1).f3)) := (zG BK176.out 3).trans rfl; have hfz17_0 := zI BK176.out 0; have hfz17_1 := zI BK176.out 1; have hfz17_2 := zI BK176.out 2; have hfz17_3 := zI BK176.out 3) | ((with_reducible refine gate_dst (N := 7) rfl ?_); refine box_event ?hg (N := 7) ?hd (cs := #[.int .i64 0, .int .i64 0, .int .i64 0, .int .u8 0]) (t := 62) ?hr ?_; (case hd => rfl); (case hg => rfl); (case hr => first | (go_simp; done) | (go_simp; rfl)); intro gb177 hg w18 hbox hb; have n0_ := zB.mk (Kd.R_below (Kd.R_elderB (by (with_reducible repeat (first | apply Kd.R_alloc | apply Kd.R_drewN | apply Kd.R_drew)); exact HO_175000.out) gb177 (Nat.le_of_eq hg.symm)) hb); have n1_ := zB.mk (zK (g := gb173) (o := .cells #[.slice none 0 0, .slice none 0 0] 31 (0, 0)) (by (with_reducible repeat (first | refine zC ?_ _ | refine zD ?_ | refine zA ?_ _)); exact BK173.out) hb); have n2_ := zB.mk (zK (g := gb174) (o := .cells #[u175000, .slice none 0 0] 31 (0, 0)) (by (with_reducible repeat (first | refine zC ?_ _ | refine zD ?_ | refine zA ?_ _)); exact BK174.out) hb); have n3_ := zB.mk (zK (g := gb176) (o := .cells #[.int .u8 ((rd_T45 l0 x5_1).f0), .int .u8 ((rd_T45 l0 x5_1).f1), .int .u8 ((rd_T45 l0 x5_1).f2), .int .u8 ((rd_T45 l0 x5_1).f3)] 45 (0, 0)) (by (with_reducible repeat (first | refine zC ?_ _ | refine zD ?_ | refine zA ?_ _)); exact BK176.out) hb); have n4_ := zB.mk (zO (by repeat (first | (with_reducible first | exact HB.out | apply zJ | apply zF | apply zH | refine zE ?_ GE173.out | refine zE ?_ GE174.out | refine zE ?_ GE176.out) | exact HB.out)) hb); have n5_ := zB.mk (hbox); have n6_ := zB.mk ((by rw [hg]; exact (zM (by repeat (first | (with_reducible first | exact HB.out | apply zJ | apply zF | apply zH | refine zE ?_ GE173.out | refine zE ?_ GE174.out | refine zE ?_ GE176.out) | exact HB.out))) : w.heap.size ≤ gb177)); have n7_ := zB.mk ((by rw [hg]; exact (zM (by repeat (first | (with_reducible first | exact HB.out | apply zJ | apply zF | apply zH | refine zE ?_ GE173.out | refine zE ?_ GE174.out | refine zE ?_ GE176.out) | exact HB.out))) : w.heap.size ≤ gb177)); have n8_ := zB.mk ((by rw [hg]; exact Nat.ne_of_lt (blk_lt (g := gb173) (o := .cells #[.slice none 0 0, .slice none 0 0] 31 (0, 0)) (by (with_reducible repeat (first | refine zC ?_ _ | refine zD ?_ | refine zA ?_ _)); exact BK173.out)) : gb173 ≠ gb177)); have n9_ := zB.mk ((by rw [hg]; exact Nat.ne_of_gt (blk_lt (g := gb173) (o := .cells #[.slice none 0 0, .slice none 0 0] 31 (0, 0)) (by (with_reducible repeat (first | refine zC ?_ _ | refine zD ?_ | refine zA ?_ _)); exact BK173.out)) : gb177 ≠ gb173)); have n10_ := zB.mk ((by rw [hg]; exact Nat.ne_of_lt (blk_lt (g := gb174) (o := .cells #[u175000, .slice none 0 0] 31 (0, 0)) (by (with_reducible repeat (first | refine zC ?_ _ | refine zD ?_ | refine zA ?_ _)); exact BK174.out)) : gb174 ≠ gb177)); have n11_ := zB.mk ((by rw [hg]; exact Nat.ne_of_gt (blk_lt (g := gb174) (o := .cells #[u175000, .slice none 0 0] 31 (0, 0)) (by (with_reducible repeat (first | refine zC ?_ _ | refine zD ?_ | refine zA ?_ _)); exact BK174.out)) : gb177 ≠ gb174)); have n12_ := zB.mk ((by rw [hg]; exact Nat.ne_of_lt (blk_lt (g := gb176) (o := .cells #[.int .u8 ((rd_T45 l0 x5_1).f0), .int .u8 ((rd_T45 l0 x5_1).f1), .int .u8 ((rd_T45 l0 x5_1).f2), .int .u8 ((rd_T45 l0 x5_1).f3)] 45 (0, 0)) (by (with_reducible repeat (first | refine zC ?_ _ | refine zD ?_ | refine zA ?_ _)); exact BK176.out)) : gb176 ≠ gb177)); have n13_ := zB.mk ((by rw [hg]; exact Nat.ne_of_gt (blk_lt (g := gb176) (o := .cells #[.int .u8 ((rd_T45 l0 x5_1).f0), .int .u8 ((rd_T45 l0 x5_1).f1), .int .u8 ((rd_T45 l0 x5_1).f2), .int .u8 ((rd_T45 l0 x5_1).f3)] 45 (0, 0)) (by (with_reducible repeat (first | refine zC ?_ _ | refine zD ?_ | refine zA ?_ _)); exact BK176.out)) : gb177 ≠ gb176)); clear HO_175000; clear BK173; clear BK174; clear BK176; clear HB; have HO_175000 := n0_; have BK173 := n1_; have BK174 := n2_; have BK176 := n3_; have HB := n4_; have BK177 := n5_; have GW177 := n6_; have GE177 := n7_; have NB173_177 := n8_; have NB177_173 := n9_; have NB174_177 := n10_; have NB177_174 := n11_; have NB176_177 := n12_; have NB177_176 := n13_; clear n0_ n1_ n2_ n3_ n4_ n5_ n6_ n7_ n8_ n9_ n10_ n11_ n12_ n13_; clear hb hbox hg; have hnb19 := NB177_173.out; have hnc19 := NB173_177.out; have hnb20 := NB177_174.out; have hnc20 := NB174_177.out; have hnb21 := NB177_176.out; have hnc21 := NB176_177.out; have hcz22_0 : w18.cell? ⟨gb177, 0, none⟩ = some (.int .i64 0) := (zG BK177.out 0).trans rfl; have hcz22_1 : w18.cell? ⟨gb177, 1, none⟩ = some (.int .i64 0) := (zG BK177.out 1).trans rfl; have hcz22_2 : w18.cell? ⟨gb177, 2, none⟩ = some (.int .i64 0) := (zG BK177.out 2).trans rfl; have hcz22_3 : w18.cell? ⟨gb177, 3, none⟩ = some (.int .u8 0) := (zG BK177.out 3).trans rfl; have hfz22_0 := zI BK177.out 0; have hfz22_1 := zI BK177.out 1; have hfz22_2 := zI BK177.out 2; have hfz22_3 := zI BK177.out 3) | ((with_reducible refine gate_store (t := 62) (p := 7) rfl ?_); refine store_event (t := 62) (p := 7) (v := ?vo_w23) (w1 := ((((w18.setCell ⟨gb177, 0, none⟩ (.int .i64 x4_1)).setCell ⟨gb177, 1, none⟩ (.int .i64 (wrap64 (1 + (wrap64 (Int.tmod ((rd_T45 l0 x5_1).f2) 4)))))).setCell ⟨gb177, 2, none⟩ (.int .i64 (wrap64 (Int.tmod ((rd_T45 l0 x5_1).f0) 3)))).setCell ⟨gb177, 3, none⟩ (.int .u8 (Int.tmod ((rd_T45 l0 x5_1).f1) 3)))) ?hg ?ho ?hn ?hr ?_; (case ho => rfl); (case hg => rfl); (case hn => rfl); (case hr => first | (go_simp; done) | (go_simp; rfl)); intro w23 hw; have n0_ : zB (Kd.R k62 62 w23 w.heap.size (fun k_ => k_ ≠ gb177) u175000 x175000_1) := ⟨(by rw [hw]; exact (by (with_reducible repeat (first | apply Kd.R_alloc | apply Kd.R_drewN | apply Kd.R_drew)); exact Kd.R_mono (Kd.R_far (p := ⟨gb177, 3, none⟩) (Kd.R_far (p := ⟨gb177, 2, none⟩) (Kd.R_far (p := ⟨gb177, 1, none⟩) (Kd.R_far (p := ⟨gb177, 0, none⟩) (Kd.R_mono HO_175000.out (fun k_ hk => (⟨hk, hk.2⟩ : _ ∧ k_ ≠ gb177))) (fun _ hk => hk.2) (.int .i64 x4_1)) (fun _ hk => hk.2) (.int .i64 (wrap64 (1 + (wrap64 (Int.tmod ((rd_T45 l0 x5_1).f2) 4)))))) (fun _ hk => hk.2) (.int .i64 (wrap64 (Int.tmod ((rd_T45 l0 x5_1).f0) 3)))) (fun _ hk => hk.2) (.int .u8 (Int.tmod ((rd_T45 l0 x5_1).f1) 3))) (fun _ hk => hk.1.2)))⟩; have n1_ : zB (w23.heap[gb173]? = some (.cells #[.slice none 0 0, .slice none 0 0] 31 (0, 0))) := ⟨(by rw [hw]; exact (by (with_reducible repeat (first | refine zC ?_ _ | refine zD ?_ | refine zA ?_ _)); refine zN ?_ NB173_177.out _; (with_reducible repeat (first | refine zC ?_ _ | refine zD ?_ | refine zA ?_ _)); refine zN ?_ NB173_177.out _; (with_reducible repeat (first | refine zC ?_ _ | refine zD ?_ | refine zA ?_ _)); refine zN ?_ NB173_177.out _; (with_reducible repeat (first | refine zC ?_ _ | refine zD ?_ | refine zA ?_ _)); refine zN ?_ NB173_177.out _; (with_reducible repeat (first | refine zC ?_ _ | refine zD ?_ | refine zA ?_ _)); exact BK173.out))⟩; have n2_ : zB (w23.heap[gb174]? = some (.cells #[u175000, .slice none 0 0] 31 (0, 0))) := ⟨(by rw [hw]; exact (by (with_reducible repeat (first | refine zC ?_ _ | refine zD ?_ | refine zA ?_ _)); refine zN ?_ NB174_177.out _; (with_reducible repeat (first | refine zC ?_ _ | refine zD ?_ | refine zA ?_ _)); refine zN ?_ NB174_177.out _; (with_reducible repeat (first | refine zC ?_ _ | refine zD ?_ | refine zA ?_ _)); refine zN ?_ NB174_177.out _; (with_reducible repeat (first | refine zC ?_ _ | refine zD ?_ | refine zA ?_ _)); refine zN ?_ NB174_177.out _; (with_reducible repeat (first | refine zC ?_ _ | refine zD ?_ | refine zA ?_ _)); exact BK174.out))⟩; have n3_ : zB (w23.heap[gb176]? = some (.cells #[.int .u8 ((rd_T45 l0 x5_1).f0), .int .u8 ((rd_T45 l0 x5_1).f1), .int .u8 ((rd_T45 l0 x5_1).f2), .int .u8 ((rd_T45 l0 x5_1).f3)] 45 (0, 0))) := ⟨(by rw [hw]; exact (by (with_reducible repeat (first | refine zC ?_ _ | refine zD ?_ | refine zA ?_ _)); refine zN ?_ NB176_177.out _; (with_reducible repeat (first | refine zC ?_ _ | refine zD ?_ | refine zA ?_ _)); refine zN ?_ NB176_177.out _; (with_reducible repeat (first | refine zC ?_ _ | refine zD ?_ | refine zA ?_ _)); refine zN ?_ NB176_177.out _; (with_reducible repeat (first | refine zC ?_ _ | refine zD ?_ | refine zA ?_ _)); refine zN ?_ NB176_177.out _; (with_reducible repeat (first | refine zC ?_ _ | refine zD ?_ | refine zA ?_ _)); exact BK176.out))⟩; have n4_ : zB (w23.heap[gb177]? = some (.cells #[.int .i64 x4_1, .int .i64 (wrap64 (1 + (wrap64 (Int.tmod ((rd_T45 l0 x5_1).f2) 4)))), .int .i64 (wrap64 (Int.tmod ((rd_T45 l0 x5_1).f0) 3)), .int .u8 (Int.tmod ((rd_T45 l0 x5_1).f1) 3)] 62 (0, 0))) := ⟨(by rw [hw]; exact (by (with_reducible repeat (first | refine zC ?_ _ | refine zD ?_ | refine zA ?_ _)); refine blk_put (cs := #[.int .i64 x4_1, .int .i64 (wrap64 (1 + (wrap64 (Int.tmod ((rd_T45 l0 x5_1).f2) 4)))), .int .i64 (wrap64 (Int.tmod ((rd_T45 l0 x5_1).f0) 3)), .int .u8 0]) ?_ 3 _ rfl; (with_reducible repeat (first | refine zC ?_ _ | refine zD ?_ | refine zA ?_ _)); refine blk_put (cs := #[.int .i64 x4_1, .int .i64 (wrap64 (1 + (wrap64 (Int.tmod ((rd_T45 l0 x5_1).f2) 4)))), .int .i64 0, .int .u8 0]) ?_ 2 _ rfl; (with_reducible repeat (first | refine zC ?_ _ | refine zD ?_ | refine zA ?_ _)); refine blk_put (cs := #[.int .i64 x4_1, .int .i64 0, .int .i64 0, .int .u8 0]) ?_ 1 _ rfl; (with_reducible repeat (first | refine zC ?_ _ | refine zD ?_ | refine zA ?_ _)); refine blk_put (cs := #[.int .i64 0, .int .i64 0, .int .i64 0, .int .u8 0]) ?_ 0 _ rfl; (with_reducible repeat (first | refine zC ?_ _ | refine zD ?_ | refine zA ?_ _)); exact BK177.out))⟩; have n5_ : zB (Below w.heap.size w w23) := ⟨(by rw [hw]; exact (by repeat (first | (with_reducible first | exact HB.out | apply zJ | apply zF | apply zH | refine zE ?_ GE173.out | refine zE ?_ GE174.out | refine zE ?_ GE176.out | refine zE ?_ GE177.out) | exact HB.out)))⟩; clear hw; clear HO_175000; clear BK173; clear BK174; clear BK176; clear BK177; clear HB; have HO_175000 := n0_; have BK173 := n1_; have BK174 := n2_; have BK176 := n3_; have BK177 := n4_; have HB := n5_; clear n0_ n1_ n2_ n3_ n4_ n5_; have hcz24_0 : w23.cell? ⟨gb177, 0, none⟩ = some (.int .i64 x4_1) := (zG BK177.out 0).trans rfl; have hcz24_1 : w23.cell? ⟨gb177, 1, none⟩ = some (.int .i64 (wrap64 (1 + (wrap64 (Int.tmod ((rd_T45 l0 x5_1).f2) 4))))) := (zG BK177.out 1).trans rfl; have hcz24_2 : w23.cell? ⟨gb177, 2, none⟩ = some (.int .i64 (wrap64 (Int.tmod ((rd_T45 l0 x5_1).f0) 3))) := (zG BK177.out 2).trans rfl; have hcz24_3 : w23.cell? ⟨gb177, 3, none⟩ = some (.int .u8 (Int.tmod ((rd_T45 l0 x5_1).f1) 3)) := (zG BK177.out 3).trans rfl; have hfz24_0 := zI BK177.out 0; have hfz24_1 := zI BK177.out 1; have hfz24_2 := zI BK177.out 2; have hfz24_3 := zI BK177.out 3; have hnb25 := NB174_173.out; have hnc25 := NB173_174.out; have hcz26_0 : w23.cell? ⟨gb174, 0, none⟩ = some (u175000) := (zG BK174.out 0).trans rfl; have hcz26_1 : w23.cell? ⟨gb174, 1, none⟩ = some (.slice none 0 0) := (zG BK174.out 1).trans rfl; have hfz26_0 := zI BK174.out 0; have hfz26_1 := zI BK174.out 1) | ((with_reducible refine gate_builtin (b := .append) (xs := #[.tmp 44, .tmp 46]) rfl ?_); at_builtin; refine Kd.R_append k62 (w0 := w) w.heap.size rfl (.tmp 44) (.tmp 46) 28 62 (.agg #[(.int .i64 0), (.int .i64 0), (.int .i64 0), (.int .u8 0)]) 32 rfl Try.underlying28 info62 rfl (by decide) (by omega) u175000 x175000_1 (⟨x4_1, wrap64 (1 + (wrap64 (Int.tmod ((rd_T45 l0 x5_1).f2) 4))), wrap64 (Int.tmod ((rd_T45 l0 x5_1).f0) 3), Int.tmod ((rd_T45 l0 x5_1).f1) 3⟩ : S62) [.int .i64 x4_1, .int .i64 (wrap64 (1 + (wrap64 (Int.tmod ((rd_T45 l0 x5_1).f2) 4)))), .int .i64 (wrap64 (Int.tmod ((rd_T45 l0 x5_1).f0) 3)), .int .u8 (Int.tmod ((rd_T45 l0 x5_1).f1) 3)] (fun k_ => k_ ≠ gb177) (fun _ => False) rfl rfl ?aP (fun _ hk => hk.elim) ?aF ?aO ?aB ?aS ?aL ?_; (case aP => exact k62_mkM _ _ _ (⟨x4_1, wrap64 (1 + (wrap64 (Int.tmod ((rd_T45 l0 x5_1).f2) 4))), wrap64 (Int.tmod ((rd_T45 l0 x5_1).f0) 3), Int.tmod ((rd_T45 l0 x5_1).f1) 3⟩ : S62)); (case aB => exact (by repeat (first | (with_reducible first | exact HB.out | apply zJ | apply zF | apply zH | refine zE ?_ GE173.out | refine zE ?_ GE174.out | refine zE ?_ GE176.out | refine zE ?_ GE177.out) | exact HB.out))); (case aF => exact (fun k_ hk => Kd.freshB (g := gb177) (o := .cells #[.int .i64 x4_1, .int .i64 (wrap64 (1 + (wrap64 (Int.tmod ((rd_T45 l0 x5_1).f2) 4)))), .int .i64 (wrap64 (Int.tmod ((rd_T45 l0 x5_1).f0) 3)), .int .u8 (Int.tmod ((rd_T45 l0 x5_1).f1) 3)] 62 (0, 0)) (by (with_reducible repeat (first | refine zC ?_ _ | refine zD ?_ | refine zA ?_ _)); exact BK177.out) k_ hk)); (case aO => exact (by (with_reducible repeat (first | apply Kd.R_alloc | apply Kd.R_drewN | apply Kd.R_drew)); exact HO_175000.out)); (case aS => exact (zM (by repeat (first | (with_reducible first | exact HB.out | apply zJ | apply zF | apply zH | refine zE ?_ GE173.out | refine zE ?_ GE174.out | refine zE ?_ GE176.out | refine zE ?_ GE177.out) | exact HB.out)))); (case aL => have := LMc11.out; omega); intro v179 w27 ho hb hg hat; rw [← Ny178.out] at ho; have n0_ := zB.mk (blk_grown (g := gb173) (o := .cells #[.slice none 0 0, .slice none 0 0] 31 (0, 0)) (by (with_reducible repeat (first | refine zC ?_ _ | refine zD ?_ | refine zA ?_ _)); exact BK173.out) hg (Kd.R_ne HO_175000.out BK173.out (by decide))); have n1_ := zB.mk (blk_grown (g := gb174) (o := .cells #[u175000, .slice none 0 0] 31 (0, 0)) (by (with_reducible repeat (first | refine zC ?_ _ | refine zD ?_ | refine zA ?_ _)); exact BK174.out) hg (Kd.R_ne HO_175000.out BK174.out (by decide))); have n2_ := zB.mk (blk_grown (g := gb176) (o := .cells #[.int .u8 ((rd_T45 l0 x5_1).f0), .int .u8 ((rd_T45 l0 x5_1).f1), .int .u8 ((rd_T45 l0 x5_1).f2), .int .u8 ((rd_T45 l0 x5_1).f3)] 45 (0, 0)) (by (with_reducible repeat (first | refine zC ?_ _ | refine zD ?_ | refine zA ?_ _)); exact BK176.out) hg (Kd.R_ne HO_175000.out BK176.out (by decide))); have n3_ := zB.mk (blk_grown (g := gb177) (o := .cells #[.int .i64 x4_1, .int .i64 (wrap64 (1 + (wrap64 (Int.tmod ((rd_T45 l0 x5_1).f2) 4)))), .int .i64 (wrap64 (Int.tmod ((rd_T45 l0 x5_1).f0) 3)), .int .u8 (Int.tmod ((rd_T45 l0 x5_1).f1) 3)] 62 (0, 0)) (by (with_reducible repeat (first | refine zC ?_ _ | refine zD ?_ | refine zA ?_ _)); exact BK177.out) hg (Kd.R_away HO_175000.out (fun _ hk => hk))); have n4_ := zB.mk (hb); have n5_ := zB.mk (ho); clear BK173; clear BK174; clear BK176; clear BK177; clear HB; clear HO_175000; have BK173 := n0_; have BK174 := n1_; have BK176 := n2_; have BK177 := n3_; have HB := n4_; have HO180 := n5_; clear n0_ n1_ n2_ n3_ n4_ n5_; clear ho hb hg hat; obtain ⟨Ao28, co28, eo28⟩ := Kd.R_slice HO180.out; subst eo28; have hcz29_0 : w27.cell? ⟨gb174, 0, none⟩ = some (u175000) := (zG BK174.out 0).trans rfl; have hcz29_1 : w27.cell? ⟨gb174, 1, none⟩ = some (.slice none 0 0) := (zG BK174.out 1).trans rfl; have hfz29_0 := zI BK174.out 0; have hfz29_1 := zI BK174.out 1))
      go_roundg k1
      case measure => have := HK1.out; omega
      case rel => exact ⟨(wrap64 (x4_1 + (wrap64 (1 + (wrap64 (Int.tmod ((rd_T45 l0 x5_1).f2) 4)))))), (wrap64 (x5_1 + 1)), (y178), (.slice Ao28 y178.length co28), (by first | rfl | (simp; done) | (simp [*]; done)), (by first | rfl | (simp; done) | (simp [*]; done)), H', ⟨by have := HK1.out; omega⟩, ⟨by (with_reducible repeat (first | apply Kd.R_alloc | apply Kd.R_drewN | apply Kd.R_drew)); exact Kd.R_mono (Kd.R_far (p := ⟨gb174, 0, none⟩) (Kd.R_types HO180.out BK174.out (by decide)) (fun _ hk => hk.2) (.slice Ao28 y178.length co28)) (fun _ hk => trivial)⟩, ⟨by (with_reducible repeat (first | refine zC ?_ _ | refine zD ?_ | refine zA ?_ _)); refine zN ?_ NB173_174.out _; (with_reducible repeat (first | refine zC ?_ _ | refine zD ?_ | refine zA ?_ _)); exact BK173.out⟩, ⟨by (with_reducible repeat (first | refine zC ?_ _ | refine zD ?_ | refine zA ?_ _)); refine blk_put (cs := #[u175000, .slice none 0 0]) ?_ 0 _ rfl; (with_reducible repeat (first | refine zC ?_ _ | refine zD ?_ | refine zA ?_ _)); exact BK174.out⟩, ⟨by repeat (first | (with_reducible first | exact HB.out | apply zJ | apply zF | apply zH | refine zE ?_ GE173.out | refine zE ?_ GE174.out | refine zE ?_ GE176.out | refine zE ?_ GE177.out) | exact HB.out)⟩⟩
  clear HC2; try clear c1
  try clear p1
  try clear q1
  try clear hx1
  try clear c2
  try clear p2
  try clear c5
  try clear p6
  try clear c8
  try clear c8b0
  try clear c9
  try clear c9b0
  try clear c10
  try clear c10b0
  try clear c11
  try clear c13
  try clear c14
  try clear p17
  try clear q17
  try clear hx17
  try clear c19
  try clear c20
  try clear c21
  try clear c25
  try clear hcz15_0
  try clear hcz15_1
  try clear hcz15_2
  try clear hcz15_3
  try clear hcz17_0
  try clear hcz17_1
  try clear hcz17_2
  try clear hcz17_3
  try clear hcz22_0
  try clear hcz22_1
  try clear hcz22_2
  try clear hcz22_3
  try clear hcz24_0
  try clear hcz24_1
  try clear hcz24_2
  try clear hcz24_3
  try clear hcz26_0
  try clear hcz26_1
  try clear hcz29_0
  try clear hcz29_1
  try clear hcz6_0
  try clear hcz6_1
  try clear hfz15_0
  try clear hfz15_1
  try clear hfz15_2
  try clear hfz15_3
  try clear hfz17_0
  try clear hfz17_1
  try clear hfz17_2
  try clear hfz17_3
  try clear hfz22_0
  try clear hfz22_1
  try clear hfz22_2
  try clear hfz22_3
  try clear hfz24_0
  try clear hfz24_1
  try clear hfz24_2
  try clear hfz24_3
  try clear hfz26_0
  try clear hfz26_1
  try clear hfz29_0
  try clear hfz29_1
  try clear hfz6_0
  try clear hfz6_1
  try clear hx175_0
  try clear hx175_1
  try clear hx175_2
  try clear hx175_3
  try clear p175
  try clear p2
  try clear q175
  obtain ⟨kq, x175000_1, u175000, HA, HJ1, HO_175000, BK173, BK174, HB⟩ := hcut; cases kq with
  | zero => exact absurd HA.out (by simp [stanzahand03_Para.j1])
  | succ kj1 =>
    have H := HA.out; clear HA; simp only [stanzahand03_Para.j1] at H; have H' := zB.mk H
    clear H; go_wp2
    go_loopg [8] kj1 (fun kq v8 w' => ∃ (x8_2 : Int) (x175001_2 : List Int) (u175001 : Value), v8 = .int .i64 x8_2 ∧ zB (stanzahand03_Para.l1 kq l0 x8_2 x175000_1 x175001_2 = some (r1, r2)) ∧ zB (kq ≤ kj1) ∧ zB (Kd.R k62 62 w' w.heap.size (fun _ => True) u175000 x175000_1) ∧ zB (Kd.R (Kd.int .u8) 46 w' w.heap.size (fun _ => True) u175001 x175001_2) ∧ zB (w'.heap[gb173]? = some (.cells #[(.slice none 0 0), (.slice none 0 0)] 31 (0, 0))) ∧ zB (w'.heap[gb174]? = some (.cells #[u175000, u175001] 31 (0, 0))) ∧ zB (Below w.heap.size w w'))
    case atStart => exact ⟨(0), (([] : List Int)), (.slice none 0 0), (by first | rfl | (simp; done) | (simp [*]; done)), H', ⟨Nat.le_refl _⟩, ⟨by (with_reducible repeat (first | apply Kd.R_alloc | apply Kd.R_drewN | apply Kd.R_drew)); exact HO_175000.out⟩, ⟨by first | exact Kd.R_nil _ _ _ _ _ | exact Kd.N_nil _ _ _ _ _ | exact Kd.V_nil _ _ _ _ _ | exact Kd.Q_nil _ _ _ _ _ | exact Kd.S_nil _ _ _ _ _⟩, ⟨by (with_reducible repeat (first | refine zC ?_ _ | refine zD ?_ | refine zA ?_ _)); exact BK173.out⟩, ⟨by (with_reducible repeat (first | refine zC ?_ _ | refine zD ?_ | refine zA ?_ _)); exact BK174.out⟩, ⟨by repeat (first | (with_reducible first | exact HB.out | apply zJ | apply zF | apply zH | refine zE ?_ GE173.out | refine zE ?_ GE174.out) | exact HB.out)⟩⟩
    clear H'; try clear c1
    try clear p1
    try clear q1
    try clear hx1
    try clear c2
    try clear p2
    try clear c5
    try clear p6
    try clear c8
    try clear c8b0
    try clear c9
    try clear c9b0
    try clear c10
    try clear c10b0
    try clear c11
    try clear c13
    try clear c14
    try clear p17
    try clear q17
    try clear hx17
    try clear c19
    try clear c20
    try clear c21
    try clear c25
    try clear hcz15_0
    try clear hcz15_1
    try clear hcz15_2
    try clear hcz15_3
    try clear hcz17_0
    try clear hcz17_1
    try clear hcz17_2
    try clear hcz17_3
    try clear hcz22_0
    try clear hcz22_1
    try clear hcz22_2
    try clear hcz22_3
    try clear hcz24_0
    try clear hcz24_1
    try clear hcz24_2
    try clear hcz24_3
    try clear hcz26_0
    try clear hcz26_1
    try clear hcz29_0
    try clear hcz29_1
    try clear hcz6_0
    try clear hcz6_1
    try clear hfz15_0
    try clear hfz15_1
    try clear hfz15_2
    try clear hfz15_3
    try clear hfz17_0
    try clear hfz17_1
    try clear hfz17_2
    try clear hfz17_3
    try clear hfz22_0
    try clear hfz22_1
    try clear hfz22_2
    try clear hfz22_3
    try clear hfz24_0
    try clear hfz24_1
    try clear hfz24_2
    try clear hfz24_3
    try clear hfz26_0
    try clear hfz26_1
    try clear hfz29_0
    try clear hfz29_1
    try clear hfz6_0
    try clear hfz6_1
    try clear hx175_0
    try clear hx175_1
    try clear hx175_2
    try clear hx175_3
    try clear p1
    try clear p17
    try clear p175
    try clear p2
    try clear p6
    try clear q1
    try clear q17
    try clear q175
    obtain ⟨x8_2, x175001_2, u175001, rfl, HA, HK2, HO_175000, HO_175001, BK173, BK174, HB⟩ := hrel; cases gk with
    | zero => exact absurd HA.out (by simp [stanzahand03_Para.l1])
    | succ k2 =>
      have H := HA.out; clear HA; simp only [stanzahand03_Para.l1] at H; by_cases c30 : x8_2 < (x175000_1.length : Int)
      rotate_left
      · rw [if_neg c30] at H
        have c30b0 : decide (x8_2 < (x175000_1.length : Int)) = false := decide_eq_false c30
        clear c30; by_cases c49 : x175001_2.length < 140737488355328
        rotate_left
        · rw [if_neg c49] at H
          exact absurd H (by simp)
        rw [if_pos c49] at H; have LMc49 := zB.mk c49; clear c49; obtain ⟨y188, hy188⟩ : ∃ y_ : List Int, y_ = (x175001_2 ++ [2]) := ⟨_, rfl⟩; replace H : (some (x175000_1, y188)) = some (r1, r2) := by first | (rw [hy188]; with_reducible exact H) | (have H2_ := (Option.bind_some _ _).symm.trans H; rw [hy188]; with_reducible exact H2_) | (have H2_ := (Option.bind_some _ _).symm.trans H; with_reducible exact H2_) | with_reducible exact H | (rw [hy188]; exact H) | exact H
        have Ny188 := zB.mk hy188; clear hy188; simp only [Option.some.injEq, Prod.mk.injEq] at H; obtain ⟨rfl, rfl⟩ := H; have hnb50 := NB174_173.out; have hnc50 := NB173_174.out; have hcz51_0 : wr.cell? ⟨gb174, 0, none⟩ = some (u175000) := (zG BK174.out 0).trans rfl
        have hcz51_1 : wr.cell? ⟨gb174, 1, none⟩ = some (u175001) := (zG BK174.out 1).trans rfl
        have hfz51_0 := zI BK174.out 0; have hfz51_1 := zI BK174.out 1; obtain ⟨Ao52, co52, eo52⟩ := Kd.R_slice HO_175000.out; subst eo52; go_wp2_with (first | ((with_reducible refine gate_builtin (b := .append) (xs := #[.tmp 72, .tmp 73]) rfl ?_); at_builtin; refine Kd.R_append (Kd.int .u8) (w0 := w) w.heap.size rfl (.tmp 72) (.tmp 73) 29 46 (.int .u8 0) 1 rfl Try.underlying29 info46 rfl (by decide) (by omega) u175001 x175001_2 2 [.int .u8 2] (fun _ => True) (fun _ => False) rfl rfl ?aP (fun _ hk => hk.elim) ?aF ?aO ?aB ?aS ?aL ?_; (case aP => exact rfl); (case aB => exact (by repeat (first | (with_reducible first | exact HB.out | apply zJ | apply zF | apply zH | refine zE ?_ GE173.out | refine zE ?_ GE174.out) | exact HB.out))); (case aF => exact (fun _ _ => trivial)); (case aO => exact (by (with_reducible repeat (first | apply Kd.R_alloc | apply Kd.R_drewN | apply Kd.R_drew)); exact HO_175001.out)); (case aS => exact (zM (by repeat (first | (with_reducible first | exact HB.out | apply zJ | apply zF | apply zH | refine zE ?_ GE173.out | refine zE ?_ GE174.out) | exact HB.out)))); (case aL => have := LMc49.out; omega); intro v189 w53 ho hb hg hat; rw [← Ny188.out] at ho; have n0_ := zB.mk (Kd.R_over' (by (with_reducible repeat (first | apply Kd.R_alloc | apply Kd.R_drewN | apply Kd.R_drew)); exact HO_175000.out) (Kd.R_typed (by (with_reducible repeat (first | apply Kd.R_alloc | apply Kd.R_drewN | apply Kd.R_drew)); exact HO_175001.out)) (by decide) hg); have n1_ := zB.mk (blk_grown (g := gb173) (o := .cells #[.slice none 0 0, .slice none 0 0] 31 (0, 0)) (by (with_reducible repeat (first | refine zC ?_ _ | refine zD ?_ | refine zA ?_ _)); exact BK173.out) hg (Kd.R_ne HO_175001.out BK173.out (by decide))); have n2_ := zB.mk (blk_grown (g := gb174) (o := .cells #[.slice Ao52 x175000_1.length co52, u175001] 31 (0, 0)) (by (with_reducible repeat (first | refine zC ?_ _ | refine zD ?_ | refine zA ?_ _)); exact BK174.out) hg (Kd.R_ne HO_175001.out BK174.out (by decide))); have n3_ := zB.mk (hb); have n4_ := zB.mk (ho); clear HO_175000; clear BK173; clear BK174; clear HB; clear HO_175001; have HO_175000 := n0_; have BK173 := n1_; have BK174 := n2_; have HB := n3_; have HO190 := n4_; clear n0_ n1_ n2_ n3_ n4_; clear ho hb hg hat; obtain ⟨Ao54, co54, eo54⟩ := Kd.R_slice HO190.out; subst eo54; have hcz55_0 : w53.cell? ⟨gb174, 0, none⟩ = some (.slice Ao52 x175000_1.length co52) := (zG BK174.out 0).trans rfl; have hcz55_1 : w53.cell? ⟨gb174, 1, none⟩ = some (u175001) := (zG BK174.out 1).trans rfl; have hfz55_0 := zI BK174.out 0; have hfz55_1 := zI BK174.out 1; have hcz56_0 : w53.cell? ⟨gb173, 0, none⟩ = some (.slice none 0 0) := (zG BK173.out 0).trans rfl; have hcz56_1 : w53.cell? ⟨gb173, 1, none⟩ = some (.slice none 0 0) := (zG BK173.out 1).trans rfl; have hfz56_0 := zI BK173.out 0; have hfz56_1 := zI BK173.out 1) | ((with_reducible refine gate_store (t := 31) (p := 2) rfl ?_); refine store_event (t := 31) (p := 2) (v := ?vo_w57) (w1 := (((w53.setCell ⟨gb174, 1, none⟩ (.slice Ao54 y188.length co54)).setCell ⟨gb173, 0, none⟩ (.slice Ao52 x175000_1.length co52)).setCell ⟨gb173, 1, none⟩ (.slice Ao54 y188.length co54))) ?hg ?ho ?hn ?hr ?_; (case ho => rfl); (case hg => rfl); (case hn => rfl); (case hr => first | (go_simp; done) | (go_simp; rfl)); intro w57 hw; have n0_ : zB (Kd.R k62 62 w57 w.heap.size (fun _ => True) (.slice Ao52 x175000_1.length co52) x175000_1) := ⟨(by rw [hw]; exact (by (with_reducible repeat (first | apply Kd.R_alloc | apply Kd.R_drewN | apply Kd.R_drew)); exact Kd.R_mono (Kd.R_far (p := ⟨gb173, 1, none⟩) (Kd.R_far (p := ⟨gb173, 0, none⟩) (Kd.R_far (p := ⟨gb174, 1, none⟩) (Kd.R_types (Kd.R_types HO_175000.out BK174.out (by decide)) BK173.out (by decide)) (fun _ hk => hk.1.2) (.slice Ao54 y188.length co54)) (fun _ hk => hk.2) (.slice Ao52 x175000_1.length co52)) (fun _ hk => hk.2) (.slice Ao54 y188.length co54)) (fun _ hk => trivial)))⟩; have n1_ : zB (Kd.R (Kd.int .u8) 46 w57 w.heap.size (fun _ => True) (.slice Ao54 y188.length co54) y188) := ⟨(by rw [hw]; exact (by (with_reducible repeat (first | apply Kd.R_alloc | apply Kd.R_drewN | apply Kd.R_drew)); exact Kd.R_mono (Kd.R_far (p := ⟨gb173, 1, none⟩) (Kd.R_far (p := ⟨gb173, 0, none⟩) (Kd.R_far (p := ⟨gb174, 1, none⟩) (Kd.R_types (Kd.R_types HO190.out BK174.out (by decide)) BK173.out (by decide)) (fun _ hk => hk.1.2) (.slice Ao54 y188.length co54)) (fun _ hk => hk.2) (.slice Ao52 x175000_1.length co52)) (fun _ hk => hk.2) (.slice Ao54 y188.length co54)) (fun _ hk => trivial)))⟩; have n2_ : zB (w57.heap[gb173]? = some (.cells #[.slice Ao52 x175000_1.length co52, .slice Ao54 y188.length co54] 31 (0, 0))) := ⟨(by rw [hw]; exact (by (with_reducible repeat (first | refine zC ?_ _ | refine zD ?_ | refine zA ?_ _)); refine blk_put (cs := #[.slice Ao52 x175000_1.length co52, .slice none 0 0]) ?_ 1 _ rfl; (with_reducible repeat (first | refine zC ?_ _ | refine zD ?_ | refine zA ?_ _)); refine blk_put (cs := #[.slice none 0 0, .slice none 0 0]) ?_ 0 _ rfl; (with_reducible repeat (first | refine zC ?_ _ | refine zD ?_ | refine zA ?_ _)); refine zN ?_ NB173_174.out _; (with_reducible repeat (first | refine zC ?_ _ | refine zD ?_ | refine zA ?_ _)); exact BK173.out))⟩; have n3_ : zB (w57.heap[gb174]? = some (.cells #[.slice Ao52 x175000_1.length co52, .slice Ao54 y188.length co54] 31 (0, 0))) := ⟨(by rw [hw]; exact (by (with_reducible repeat (first | refine zC ?_ _ | refine zD ?_ | refine zA ?_ _)); refine zN ?_ NB174_173.out _; (with_reducible repeat (first | refine zC ?_ _ | refine zD ?_ | refine zA ?_ _)); refine zN ?_ NB174_173.out _; (with_reducible repeat (first | refine zC ?_ _ | refine zD ?_ | refine zA ?_ _)); refine blk_put (cs := #[.slice Ao52 x175000_1.length co52, u175001]) ?_ 1 _ rfl; (with_reducible repeat (first | refine zC ?_ _ | refine zD ?_ | refine zA ?_ _)); exact BK174.out))⟩; have n4_ : zB (Below w.heap.size w w57) := ⟨(by rw [hw]; exact (by repeat (first | (with_reducible first | exact HB.out | apply zJ | apply zF | apply zH | refine zE ?_ GE173.out | refine zE ?_ GE174.out) | exact HB.out)))⟩; clear hw; clear HO_175000; clear HO190; clear BK173; clear BK174; clear HB; have HO_175000 := n0_; have HO190 := n1_; have BK173 := n2_; have BK174 := n3_; have HB := n4_; clear n0_ n1_ n2_ n3_ n4_))
        refine bodyPost_ret (results_cell_row rfl _ _ gb173 31 #[.slice Ao52 x175000_1.length co52, .slice Ao54 y188.length co54] (0, 0) _ rfl (by (with_reducible repeat (first | refine zC ?_ _ | refine zD ?_ | refine zA ?_ _)); exact BK173.out) Try.underlying31 rfl (by kernel_rfl)) rfl ?_
        exact ⟨_, _, by first | rfl | (simp [errW_none, errW_some] <;> rfl) | (simp [*, errW_none, errW_some] <;> rfl), by (with_reducible repeat (first | apply Kd.R_alloc | apply Kd.R_drewN | apply Kd.R_drew)); exact HO_175000.out, by (with_reducible repeat (first | apply Kd.R_alloc | apply Kd.R_drewN | apply Kd.R_drew)); exact HO190.out, by repeat (first | (with_reducible first | exact HB.out | apply zJ | apply zF | apply zH | refine zE ?_ GE173.out | refine zE ?_ GE174.out) | exact HB.out)⟩
      rw [if_pos c30] at H; have c30b0 : decide (x8_2 < (x175000_1.length : Int)) = true := decide_eq_true c30
      clear c30; by_cases c31 : x8_2 > 0
      rotate_left
      · rw [if_neg c31] at H
        have c31b0 : decide (0 < x8_2) = false := decide_eq_false c31
        clear c31; by_cases c42 : x175001_2.length < 140737488355328
        rotate_left
        · rw [if_neg c42] at H
          exact absurd H (by simp)
        rw [if_pos c42] at H; have LMc42 := zB.mk c42; clear c42; obtain ⟨y185, hy185⟩ : ∃ y_ : List Int, y_ = (x175001_2 ++ [0]) := ⟨_, rfl⟩; replace H : (stanzahand03_Para.l1 k2 l0 (wrap64 (x8_2 + 1)) x175000_1 y185) = some (r1, r2) := by first | (rw [hy185]; with_reducible exact H) | (have H2_ := (Option.bind_some _ _).symm.trans H; rw [hy185]; with_reducible exact H2_) | (have H2_ := (Option.bind_some _ _).symm.trans H; with_reducible exact H2_) | with_reducible exact H | (rw [hy185]; exact H) | exact H
        have Ny185 := zB.mk hy185; clear hy185; have H' := zB.mk H
        clear H; have hnb43 := NB174_173.out; have hnc43 := NB173_174.out; have hcz44_0 : wr.cell? ⟨gb174, 0, none⟩ = some (u175000) := (zG BK174.out 0).trans rfl
        have hcz44_1 : wr.cell? ⟨gb174, 1, none⟩ = some (u175001) := (zG BK174.out 1).trans rfl
        have hfz44_0 := zI BK174.out 0; have hfz44_1 := zI BK174.out 1; obtain ⟨Ao45, co45, eo45⟩ := Kd.R_slice HO_175000.out; subst eo45; go_wp2_with (first | ((with_reducible refine gate_builtin (b := .append) (xs := #[.tmp 66, .tmp 68]) rfl ?_); at_builtin; refine Kd.R_append (Kd.int .u8) (w0 := w) w.heap.size rfl (.tmp 66) (.tmp 68) 29 46 (.int .u8 0) 1 rfl Try.underlying29 info46 rfl (by decide) (by omega) u175001 x175001_2 0 [.int .u8 0] (fun _ => True) (fun _ => False) rfl rfl ?aP (fun _ hk => hk.elim) ?aF ?aO ?aB ?aS ?aL ?_; (case aP => exact rfl); (case aB => exact (by repeat (first | (with_reducible first | exact HB.out | apply zJ | apply zF | apply zH | refine zE ?_ GE173.out | refine zE ?_ GE174.out) | exact HB.out))); (case aF => exact (fun _ _ => trivial)); (case aO => exact (by (with_reducible repeat (first | apply Kd.R_alloc | apply Kd.R_drewN | apply Kd.R_drew)); exact HO_175001.out)); (case aS => exact (zM (by repeat (first | (with_reducible first | exact HB.out | apply zJ | apply zF | apply zH | refine zE ?_ GE173.out | refine zE ?_ GE174.out) | exact HB.out)))); (case aL => have := LMc42.out; omega); intro v186 w46 ho hb hg hat; rw [← Ny185.out] at ho; have n0_ := zB.mk (Kd.R_over' (by (with_reducible repeat (first | apply Kd.R_alloc | apply Kd.R_drewN | apply Kd.R_drew)); exact HO_175000.out) (Kd.R_typed (by (with_reducible repeat (first | apply Kd.R_alloc | apply Kd.R_drewN | apply Kd.R_drew)); exact HO_175001.out)) (by decide) hg); have n1_ := zB.mk (blk_grown (g := gb173) (o := .cells #[.slice none 0 0, .slice none 0 0] 31 (0, 0)) (by (with_reducible repeat (first | refine zC ?_ _ | refine zD ?_ | refine zA ?_ _)); exact BK173.out) hg (Kd.R_ne HO_175001.out BK173.out (by decide))); have n2_ := zB.mk (blk_grown (g := gb174) (o := .cells #[.slice Ao45 x175000_1.length co45, u175001] 31 (0, 0)) (by (with_reducible repeat (first | refine zC ?_ _ | refine zD ?_ | refine zA ?_ _)); exact BK174.out) hg (Kd.R_ne HO_175001.out BK174.out (by decide))); have n3_ := zB.mk (hb); have n4_ := zB.mk (ho); clear HO_175000; clear BK173; clear BK174; clear HB; clear HO_175001; have HO_175000 := n0_; have BK173 := n1_; have BK174 := n2_; have HB := n3_; have HO187 := n4_; clear n0_ n1_ n2_ n3_ n4_; clear ho hb hg hat; obtain ⟨Ao47, co47, eo47⟩ := Kd.R_slice HO187.out; subst eo47; have hcz48_0 : w46.cell? ⟨gb174, 0, none⟩ = some (.slice Ao45 x175000_1.length co45) := (zG BK174.out 0).trans rfl; have hcz48_1 : w46.cell? ⟨gb174, 1, none⟩ = some (u175001) := (zG BK174.out 1).trans rfl; have hfz48_0 := zI BK174.out 0; have hfz48_1 := zI BK174.out 1))
        go_roundg k2
        case measure => have := HJ1.out; have := HK2.out; omega
        case rel => exact ⟨(wrap64 (x8_2 + 1)), (y185), (.slice Ao47 y185.length co47), (by first | rfl | (simp; done) | (simp [*]; done)), H', ⟨by have := HJ1.out; have := HK2.out; omega⟩, ⟨by (with_reducible repeat (first | apply Kd.R_alloc | apply Kd.R_drewN | apply Kd.R_drew)); exact Kd.R_mono (Kd.R_far (p := ⟨gb174, 1, none⟩) (Kd.R_types HO_175000.out BK174.out (by decide)) (fun _ hk => hk.2) (.slice Ao47 y185.length co47)) (fun _ hk => trivial)⟩, ⟨by (with_reducible repeat (first | apply Kd.R_alloc | apply Kd.R_drewN | apply Kd.R_drew)); exact Kd.R_mono (Kd.R_far (p := ⟨gb174, 1, none⟩) (Kd.R_types HO187.out BK174.out (by decide)) (fun _ hk => hk.2) (.slice Ao47 y185.length co47)) (fun _ hk => trivial)⟩, ⟨by (with_reducible repeat (first | refine zC ?_ _ | refine zD ?_ | refine zA ?_ _)); refine zN ?_ NB173_174.out _; (with_reducible repeat (first | refine zC ?_ _ | refine zD ?_ | refine zA ?_ _)); exact BK173.out⟩, ⟨by (with_reducible repeat (first | refine zC ?_ _ | refine zD ?_ | refine zA ?_ _)); refine blk_put (cs := #[.slice Ao45 x175000_1.length co45, u175001]) ?_ 1 _ rfl; (with_reducible repeat (first | refine zC ?_ _ | refine zD ?_ | refine zA ?_ _)); exact BK174.out⟩, ⟨by repeat (first | (with_reducible first | exact HB.out | apply zJ | apply zF | apply zH | refine zE ?_ GE173.out | refine zE ?_ GE174.out) | exact HB.out)⟩⟩
      rw [if_pos c31] at H; have c31b0 : decide (0 < x8_2) = true := decide_eq_true c31
      clear c31; obtain ⟨ji32, hji32⟩ : ∃ j_ : Int, (wrap64 (x8_2 - 1)) = j_ := ⟨_, rfl⟩; replace H : (if 0 ≤ (ji32) then (if (ji32) < (l0.length : Int) then (if x175001_2.length < 140737488355328 then (stanzahand03_Para.l1 k2 l0 (wrap64 (x8_2 + 1)) x175000_1 (x175001_2 ++ [Int.tmod ((rd_T45 l0 (ji32)).f3) 4])) else (none)) else (none)) else (none)) = some (r1, r2) := by first | (rw [hji32] at H; exact H) | (simp only [hji32] at H ⊢; exact H)
      have hji32w : (IntKind.i64.wrap (x8_2 - 1)) = ji32 := (i64_w _).trans hji32
      by_cases c33 : 0 ≤ (ji32)
      rotate_left
      · rw [if_neg c33] at H
        exact absurd H (by simp)
      rw [if_pos c33] at H; have c33b0 : decide (0 ≤ (ji32)) = true := decide_eq_true c33
      clear c33; by_cases c34 : (ji32) < (l0.length : Int)
      rotate_left
      · rw [if_neg c34] at H
        exact absurd H (by simp)
      rw [if_pos c34] at H; have c34b0 : decide ((ji32) < (l0.length : Int)) = true := decide_eq_true c34
      clear c34; by_cases c35 : x175001_2.length < 140737488355328
      rotate_left
      · rw [if_neg c35] at H
        exact absurd H (by simp)
      rw [if_pos c35] at H; have LMc35 := zB.mk c35; clear c35; obtain ⟨y182, hy182⟩ : ∃ y_ : List Int, y_ = (x175001_2 ++ [Int.tmod ((rd_T45 l0 (ji32)).f3) 4]) := ⟨_, rfl⟩; replace H : (stanzahand03_Para.l1 k2 l0 (wrap64 (x8_2 + 1)) x175000_1 y182) = some (r1, r2) := by first | (rw [hy182]; with_reducible exact H) | (have H2_ := (Option.bind_some _ _).symm.trans H; rw [hy182]; with_reducible exact H2_) | (have H2_ := (Option.bind_some _ _).symm.trans H; with_reducible exact H2_) | with_reducible exact H | (rw [hy182]; exact H) | exact H
      have Ny182 := zB.mk hy182; clear hy182; have H' := zB.mk H
      clear H; have hnb36 := NB174_173.out; have hnc36 := NB173_174.out; have hcz37_0 : wr.cell? ⟨gb174, 0, none⟩ = some (u175000) := (zG BK174.out 0).trans rfl
      have hcz37_1 : wr.cell? ⟨gb174, 1, none⟩ = some (u175001) := (zG BK174.out 1).trans rfl
      have hfz37_0 := zI BK174.out 0; have hfz37_1 := zI BK174.out 1; obtain ⟨Ao38, co38, eo38⟩ := Kd.R_slice HO_175000.out; subst eo38; have p181 : 0 ≤ ((ji32) : Int) := of_decide_eq_true (by first | (with_reducible assumption) | assumption)
      have q181 : (ji32) < (l0.length : Int) := of_decide_eq_true (by first | (with_reducible assumption) | assumption)
      obtain ⟨ad181, e181, hx181_0, hx181_1, hx181_2, hx181_3⟩ := at_T45 HR0.out (ji32) p181 q181; cases e181
      replace hx181_0 := (HB.out.cell (World.block_lt_of_cell? w _ hx181_0)).trans hx181_0; replace hx181_1 := (HB.out.cell (World.block_lt_of_cell? w _ hx181_1)).trans hx181_1; replace hx181_2 := (HB.out.cell (World.block_lt_of_cell? w _ hx181_2)).trans hx181_2; replace hx181_3 := (HB.out.cell (World.block_lt_of_cell? w _ hx181_3)).trans hx181_3; replace p181 := eq_true p181; replace q181 := eq_true q181; go_wp2_with (first | ((with_reducible refine gate_builtin (b := .append) (xs := #[.tmp 66, .tmp 68]) rfl ?_); at_builtin; refine Kd.R_append (Kd.int .u8) (w0 := w) w.heap.size rfl (.tmp 66) (.tmp 68) 29 46 (.int .u8 0) 1 rfl Try.underlying29 info46 rfl (by decide) (by omega) u175001 x175001_2 (Int.tmod ((rd_T45 l0 (ji32)).f3) 4) [.int .u8 (Int.tmod ((rd_T45 l0 (ji32)).f3) 4)] (fun _ => True) (fun _ => False) rfl rfl ?aP (fun _ hk => hk.elim) ?aF ?aO ?aB ?aS ?aL ?_; (case aP => exact rfl); (case aB => exact (by repeat (first | (with_reducible first | exact HB.out | apply zJ | apply zF | apply zH | refine zE ?_ GE173.out | refine zE ?_ GE174.out) | exact HB.out))); (case aF => exact (fun _ _ => trivial)); (case aO => exact (by (with_reducible repeat (first | apply Kd.R_alloc | apply Kd.R_drewN | apply Kd.R_drew)); exact HO_175001.out)); (case aS => exact (zM (by repeat (first | (with_reducible first | exact HB.out | apply zJ | apply zF | apply zH | refine zE ?_ GE173.out | refine zE ?_ GE174.out) | exact HB.out)))); (case aL => have := LMc35.out; omega); intro v183 w39 ho hb hg hat; rw [← Ny182.out] at ho; have n0_ := zB.mk (Kd.R_over' (by (with_reducible repeat (first | apply Kd.R_alloc | apply Kd.R_drewN | apply Kd.R_drew)); exact HO_175000.out) (Kd.R_typed (by (with_reducible repeat (first | apply Kd.R_alloc | apply Kd.R_drewN | apply Kd.R_drew)); exact HO_175001.out)) (by decide) hg); have n1_ := zB.mk (blk_grown (g := gb173) (o := .cells #[.slice none 0 0, .slice none 0 0] 31 (0, 0)) (by (with_reducible repeat (first | refine zC ?_ _ | refine zD ?_ | refine zA ?_ _)); exact BK173.out) hg (Kd.R_ne HO_175001.out BK173.out (by decide))); have n2_ := zB.mk (blk_grown (g := gb174) (o := .cells #[.slice Ao38 x175000_1.length co38, u175001] 31 (0, 0)) (by (with_reducible repeat (first | refine zC ?_ _ | refine zD ?_ | refine zA ?_ _)); exact BK174.out) hg (Kd.R_ne HO_175001.out BK174.out (by decide))); have n3_ := zB.mk (hb); have n4_ := zB.mk (ho); clear HO_175000; clear BK173; clear BK174; clear HB; clear HO_175001; have HO_175000 := n0_; have BK173 := n1_; have BK174 := n2_; have HB := n3_; have HO184 := n4_; clear n0_ n1_ n2_ n3_ n4_; clear ho hb hg hat; obtain ⟨Ao40, co40, eo40⟩ := Kd.R_slice HO184.out; subst eo40; have hcz41_0 : w39.cell? ⟨gb174, 0, none⟩ = some (.slice Ao38 x175000_1.length co38) := (zG BK174.out 0).trans rfl; have hcz41_1 : w39.cell? ⟨gb174, 1, none⟩ = some (u175001) := (zG BK174.out 1).trans rfl; have hfz41_0 := zI BK174.out 0; have hfz41_1 := zI BK174.out 1))
      go_roundg k2
      case measure => have := HJ1.out; have := HK2.out; omega
      case rel => exact ⟨(wrap64 (x8_2 + 1)), (y182), (.slice Ao40 y182.length co40), (by first | rfl | (simp; done) | (simp [*]; done)), H', ⟨by have := HJ1.out; have := HK2.out; omega⟩, ⟨by (with_reducible repeat (first | apply Kd.R_alloc | apply Kd.R_drewN | apply Kd.R_drew)); exact Kd.R_mono (Kd.R_far (p := ⟨gb174, 1, none⟩) (Kd.R_types HO_175000.out BK174.out (by decide)) (fun _ hk => hk.2) (.slice Ao40 y182.length co40)) (fun _ hk => trivial)⟩, ⟨by (with_reducible repeat (first | apply Kd.R_alloc | apply Kd.R_drewN | apply Kd.R_drew)); exact Kd.R_mono (Kd.R_far (p := ⟨gb174, 1, none⟩) (Kd.R_types HO184.out BK174.out (by decide)) (fun _ hk => hk.2) (.slice Ao40 y182.length co40)) (fun _ hk => trivial)⟩, ⟨by (with_reducible repeat (first | refine zC ?_ _ | refine zD ?_ | refine zA ?_ _)); refine zN ?_ NB173_174.out _; (with_reducible repeat (first | refine zC ?_ _ | refine zD ?_ | refine zA ?_ _)); exact BK173.out⟩, ⟨by (with_reducible repeat (first | refine zC ?_ _ | refine zD ?_ | refine zA ?_ _)); refine blk_put (cs := #[.slice Ao38 x175000_1.length co38, u175001]) ?_ 1 _ rfl; (with_reducible repeat (first | refine zC ?_ _ | refine zD ?_ | refine zA ?_ _)); exact BK174.out⟩, ⟨by repeat (first | (with_reducible first | exact HB.out | apply zJ | apply zF | apply zH | refine zE ?_ GE173.out | refine zE ?_ GE174.out) | exact HB.out)⟩⟩
end Go.Proofs.Ytlgclhhkgohanaa.F
end
section
namespace Go.Proofs.Ytlgclhhkgohanaa.F
open Go.RowKit Go.Proofs.YtlgclhhkgohanaaW.PrintWords Go.Proofs.YtlgclhhkgohanaaW.PrintLast Go.Proofs.YtlgclhhkgohanaaW.PrintMore
attribute [local go_sem] max2_int min2_int max_two min_two max_three min_three max_four min_four   -- for this text's walks alone
set_option linter.unusedVariables false
set_option linter.unusedSimpArgs false
def stanzalaw14_Text.l0 : Nat → List (S45) → List Int → Int → Int → Option ((List (S62)) × List Int)
  | 0, _, _, _, _ => none
  | k + 1, x3, x8, x9, x10 => if x10 < x9 then (if 0 ≤ x10 then (if x10 < (x8.length : Int) then (if (rd x8 x10) = 32 then (if x3.length < 35184372088832 then (stanzalaw14_Text.l0 k (x3 ++ [(⟨1, 1, 0, 1⟩ : S45)]) x8 x9 (wrap64 (x10 + 1))) else (none)) else (if x3.length < 35184372088832 then (stanzalaw14_Text.l0 k (x3 ++ [(⟨1, 0, 0, 0⟩ : S45)]) x8 x9 (wrap64 (x10 + 1))) else (none))) else (none)) else (none)) else ((stanzahand03_Para.f k x3).bind fun bt205 => (some (bt205.1, bt205.2)))
def stanzalaw14_Text.f (k : Nat) (a0 : ByteArray) : Option ((List (S62)) × List Int) := if (a0.size : Int) ≤ 140737488355327 then ((some (bytesOf a0 : List Int)).bind fun y193 => (stanzalaw14_Text.l0 k ([] : List (S45)) y193 (y193.length : Int) 0)) else (none)
theorem stanzalaw14_Text.mono_l : ∀ k, (∀ y0 y1 y2 y3, LeO (stanzalaw14_Text.l0 k y0 y1 y2 y3) (stanzalaw14_Text.l0 (k + 1) y0 y1 y2 y3))
  | 0 => fun _ _ _ _ r h => by simp [stanzalaw14_Text.l0] at h
  | k + 1 => by
    have ih0 := stanzalaw14_Text.mono_l k
    · intro y0 y1 y2 y3
      unfold stanzalaw14_Text.l0
      repeat' first
      | (with_reducible exact ih0 _ _ _ _)
      | (with_reducible exact stanzahand03_Para.mono _ _)
      | (with_reducible exact LeO.refl _)
      | (with_reducible exact LeO.none _)
      | (with_reducible refine LeO.ite ?_ ?_)
      | (with_reducible refine LeO.bind ?_ (fun _ => ?_))
      | exact ih0 _ _ _ _
      | exact stanzahand03_Para.mono _ _
      | exact LeO.none _
      | refine LeO.ite ?_ ?_
      | refine LeO.bind ?_ (fun _ => ?_)
theorem stanzalaw14_Text.mono : ∀ a0 k, LeO (stanzalaw14_Text.f k a0) (stanzalaw14_Text.f (k + 1) a0) := by
  intro a0 k
  have ih0 := stanzalaw14_Text.mono_l k; unfold stanzalaw14_Text.f
  repeat' first
      | (with_reducible exact ih0 _ _ _ _)
      | (with_reducible exact stanzahand03_Para.mono _ _)
      | (with_reducible exact LeO.refl _)
      | (with_reducible exact LeO.none _)
      | (with_reducible refine LeO.ite ?_ ?_)
      | (with_reducible refine LeO.bind ?_ (fun _ => ?_))
      | exact ih0 _ _ _ _
      | exact stanzahand03_Para.mono _ _
      | exact LeO.none _
      | refine LeO.ite ?_ ?_
      | refine LeO.bind ?_ (fun _ => ?_)
set_option maxHeartbeats 8000000 in
set_option maxRecDepth 100000 in
theorem stanzalaw14_Text.calls (k : Nat) (a0 : ByteArray) (r1 : List (S62)) (r2 : List Int) (w : World) (h : stanzalaw14_Text.f k a0 = some (r1, r2)) :
    Calls Try.prog 23 #[.string a0] w fun e w' => ∃ v0_ v1_ : Value, e = .returned (.agg #[v0_, v1_]) ∧ Kd.R k62 62 w' w.heap.size (fun _ => True) v0_ r1 ∧ Kd.R (Kd.int .u8) 46 w' w.heap.size (fun _ => True) v1_ r2 ∧ Below w.heap.size w w' := by
  have hu31 := Try.underlying31; have hu45 := Try.underlying45; have HB := zB.mk (Below.refl w.heap.size w); have H : (if (a0.size : Int) ≤ 140737488355327 then ((some (bytesOf a0 : List Int)).bind fun y193 => (stanzalaw14_Text.l0 k ([] : List (S45)) y193 (y193.length : Int) 0)) else (none)) = some (r1, r2) := h
  clear h; by_cases c2 : (a0.size : Int) ≤ 140737488355327
  rotate_left
  · rw [if_neg c2] at H
    exact absurd H (by simp)
  rw [if_pos c2] at H; have c2b0 := eq_true c2; have c2b1 : decide ((a0.size : Int) ≤ 140737488355327) = true := decide_eq_true c2
  clear c2; obtain ⟨y193, hy193⟩ : ∃ y_ : List Int, y_ = (bytesOf a0) := ⟨_, rfl⟩; replace H : (stanzalaw14_Text.l0 k ([] : List (S45)) y193 (y193.length : Int) 0) = some (r1, r2) := by first | (rw [hy193]; with_reducible exact H) | (have H2_ := (Option.bind_some _ _).symm.trans H; rw [hy193]; with_reducible exact H2_) | (have H2_ := (Option.bind_some _ _).symm.trans H; with_reducible exact H2_) | with_reducible exact H | (rw [hy193]; exact H) | exact H
  have Ny193 := zB.mk hy193; clear hy193; have H' := zB.mk H
  clear H; go_enter Try.func23, Try.ntmps23
  go_wp2_with (first | ((with_reducible refine gate_dst (N := 2) rfl ?_); refine box_event ?hg (N := 2) ?hd (cs := #[.slice none 0 0, .slice none 0 0]) (t := 31) ?hr ?_; (case hd => rfl); (case hg => rfl); (case hr => first | (go_simp; done) | (go_simp; rfl)); intro gb191 hg w3 hbox hb; have n0_ := zB.mk (zO (by repeat (first | (with_reducible first | exact HB.out | apply zJ | apply zF | apply zH) | exact HB.out)) hb); have n1_ := zB.mk (hbox); have n2_ := zB.mk ((by rw [hg]; exact (zM (by repeat (first | (with_reducible first | exact HB.out | apply zJ | apply zF | apply zH) | exact HB.out))) : w.heap.size ≤ gb191)); have n3_ := zB.mk ((by rw [hg]; exact (zM (by repeat (first | (with_reducible first | exact HB.out | apply zJ | apply zF | apply zH) | exact HB.out))) : w.heap.size ≤ gb191)); clear HB; have HB := n0_; have BK191 := n1_; have GW191 := n2_; have GE191 := n3_; clear n0_ n1_ n2_ n3_; clear hb hbox hg) | ((with_reducible refine gate_dst (N := 8) rfl ?_); refine conv_event ?hg (N := 8) ?hd (src := 9) (dst := 76) (e := 5) (s := a0) (x := ?cx) ?ho ?hx Try.underlying9 Try.underlying76 Try.underlying5 (of_decide_eq_true (by first | (with_reducible assumption) | assumption)) y193 Ny193.out ?_; (case hd => rfl); (case hg => rfl); (case ho => rfl); (case hx => first | rfl | (go_simp; done)); intro gb192 hg cv192 ob192 w4 hcap hcv hbox hb; have HV192 := zB.mk hcv; have HC196 := zB.mk hcap; clear hcv hcap; have n0_ := zB.mk (zK (g := gb191) (o := .cells #[.slice none 0 0, .slice none 0 0] 31 (0, 0)) (by (with_reducible repeat (first | refine zC ?_ _ | refine zD ?_ | refine zA ?_ _)); exact BK191.out) hb); have n1_ := zB.mk (zO (by repeat (first | (with_reducible first | exact HB.out | apply zJ | apply zF | apply zH | refine zE ?_ GE191.out) | exact HB.out)) hb); have n2_ := zB.mk (hbox); have n3_ := zB.mk ((by rw [hg]; exact (zM (by repeat (first | (with_reducible first | exact HB.out | apply zJ | apply zF | apply zH | refine zE ?_ GE191.out) | exact HB.out))) : w.heap.size ≤ gb192)); have n4_ := zB.mk ((by rw [hg]; exact (zM (by repeat (first | (with_reducible first | exact HB.out | apply zJ | apply zF | apply zH | refine zE ?_ GE191.out) | exact HB.out))) : w.heap.size ≤ gb192)); have n5_ := zB.mk ((by rw [hg]; exact Nat.ne_of_lt (blk_lt (g := gb191) (o := .cells #[.slice none 0 0, .slice none 0 0] 31 (0, 0)) (by (with_reducible repeat (first | refine zC ?_ _ | refine zD ?_ | refine zA ?_ _)); exact BK191.out)) : gb191 ≠ gb192)); have n6_ := zB.mk ((by rw [hg]; exact Nat.ne_of_gt (blk_lt (g := gb191) (o := .cells #[.slice none 0 0, .slice none 0 0] 31 (0, 0)) (by (with_reducible repeat (first | refine zC ?_ _ | refine zD ?_ | refine zA ?_ _)); exact BK191.out)) : gb192 ≠ gb191)); clear BK191; clear HB; have BK191 := n0_; have HB := n1_; have BK192 := n2_; have GW192 := n3_; have GE192 := n4_; have NB191_192 := n5_; have NB192_191 := n6_; clear n0_ n1_ n2_ n3_ n4_ n5_ n6_; clear hb hbox hg))
  go_loopg [3, 10] k (fun kq v3 v10 w' => ∃ (x3_1 : List (S45)) (x10_1 : Int), v10 = .int .i64 x10_1 ∧ zB (stanzalaw14_Text.l0 kq x3_1 y193 (y193.length : Int) x10_1 = some (r1, r2)) ∧ zB (kq ≤ k) ∧ zB (Kd.R k45 45 w' w.heap.size (fun k_ => k_ ≠ gb192) v3 x3_1) ∧ zB (w'.heap[gb191]? = some (.cells #[(.slice none 0 0), (.slice none 0 0)] 31 (0, 0))) ∧ zB (w'.heap[gb192]? = some ob192) ∧ zB (Below w.heap.size w w'))
  case atStart => exact ⟨(([] : List (S45))), (0), (by first | rfl | (simp; done) | (simp [*]; done)), H', ⟨Nat.le_refl _⟩, ⟨by first | exact Kd.R_nil _ _ _ _ _ | exact Kd.N_nil _ _ _ _ _ | exact Kd.V_nil _ _ _ _ _ | exact Kd.Q_nil _ _ _ _ _ | exact Kd.S_nil _ _ _ _ _⟩, ⟨by (with_reducible repeat (first | refine zC ?_ _ | refine zD ?_ | refine zA ?_ _)); exact BK191.out⟩, ⟨by (with_reducible repeat (first | refine zC ?_ _ | refine zD ?_ | refine zA ?_ _)); exact BK192.out⟩, ⟨by repeat (first | (with_reducible first | exact HB.out | apply zJ | apply zF | apply zH | refine zE ?_ GE191.out | refine zE ?_ GE192.out) | exact HB.out)⟩⟩
  clear H'; try clear c2
  try clear c2b0
  try clear c2b1
  try clear p2
  obtain ⟨x3_1, x10_1, rfl, HA, HK1, HO_3, BK191, BK192, HB⟩ := hrel; cases gk with
  | zero => exact absurd HA.out (by simp [stanzalaw14_Text.l0])
  | succ k1 =>
    have H := HA.out; clear HA; simp only [stanzalaw14_Text.l0] at H; by_cases c5 : x10_1 < (y193.length : Int)
    rotate_left
    · rw [if_neg c5] at H
      have c5b0 : decide (x10_1 < (y193.length : Int)) = false := decide_eq_false c5
      clear c5; replace H := Option.bind_eq_some_iff.mp H; obtain ⟨⟨t205, t208⟩, A270, H⟩ := H; replace H : (some (t205, t208)) = some (r1, r2) := H; have A27 := zB.mk A270; clear A270; simp only [Option.some.injEq, Prod.mk.injEq] at H; obtain ⟨rfl, rfl⟩ := H; obtain ⟨Ao28, co28, eo28⟩ := Kd.R_slice HO_3.out; subst eo28; go_wp2_with (first | ((with_reducible refine gate_callee (f := 11) rfl ?_); refine goesL_ (some 25) rfl rfl Try.func11 (by kernel_rfl) rfl #[.slice Ao28 x3_1.length co28] rfl (by (try simp only [List.map_toArray, List.map_cons, List.map_nil]); first | done | rfl | (simp only [List.length_drop, List.length_take]; rfl)) ?_; (with_reducible refine (stanzahand03_Para.calls k1 _ _ x3_1 t205 t208 _ ?side1 ?side2 A27.out).mono ?_); (case side1 => repeat (first | exact (Kd.R_reads' HO_3.out).2.2 | (with_reducible refine Kd.C_alloc ?_ _) | (with_reducible refine Kd.C_drewN ?_ _) | (with_reducible refine Kd.C_drew ?_))); (case side2 => exact (Kd.R_reads' HO_3.out).2.1); rintro e w29 ⟨v206, v209, rfl, ho0, ho1, hb⟩; refine ⟨_, rfl, ?_⟩; have n0_ := zB.mk (Kd.R_below (by (with_reducible repeat (first | apply Kd.R_alloc | apply Kd.R_drewN | apply Kd.R_drew)); exact HO_3.out) hb); have n1_ := zB.mk (Kd.R_lower (Kd.R_newB ho0 (g := gb192) (o := ob192) (by (with_reducible repeat (first | refine zC ?_ _ | refine zD ?_ | refine zA ?_ _)); exact BK192.out)) (zM (by repeat (first | (with_reducible first | exact HB.out | apply zJ | apply zF | apply zH | refine zE ?_ GE191.out | refine zE ?_ GE192.out) | exact HB.out)))); have n2_ := zB.mk (Kd.R_lower (Kd.R_newB ho1 (g := gb192) (o := ob192) (by (with_reducible repeat (first | refine zC ?_ _ | refine zD ?_ | refine zA ?_ _)); exact BK192.out)) (zM (by repeat (first | (with_reducible first | exact HB.out | apply zJ | apply zF | apply zH | refine zE ?_ GE191.out | refine zE ?_ GE192.out) | exact HB.out)))); have n3_ := zB.mk (zK (g := gb191) (o := .cells #[.slice none 0 0, .slice none 0 0] 31 (0, 0)) (by (with_reducible repeat (first | refine zC ?_ _ | refine zD ?_ | refine zA ?_ _)); exact BK191.out) hb); have n4_ := zB.mk (zK (g := gb192) (o := ob192) (by (with_reducible repeat (first | refine zC ?_ _ | refine zD ?_ | refine zA ?_ _)); exact BK192.out) hb); have n5_ := zB.mk (zO (by repeat (first | (with_reducible first | exact HB.out | apply zJ | apply zF | apply zH | refine zE ?_ GE191.out | refine zE ?_ GE192.out) | exact HB.out)) hb); clear HO_3; clear BK191; clear BK192; clear HB; have HO_3 := n0_; have HO207 := n1_; have HO210 := n2_; have BK191 := n3_; have BK192 := n4_; have HB := n5_; clear n0_ n1_ n2_ n3_ n4_ n5_; (try clear hb); (try clear hb2); (try clear hk); (try clear hi); (try clear ho0); (try clear ho1); obtain ⟨Ao30, co30, eo30⟩ := Kd.R_slice HO207.out; subst eo30; have hnb31 := NB191_192.out; have hnc31 := NB192_191.out; have hcz32_0 : w29.cell? ⟨gb191, 0, none⟩ = some (.slice none 0 0) := (zG BK191.out 0).trans rfl; have hcz32_1 : w29.cell? ⟨gb191, 1, none⟩ = some (.slice none 0 0) := (zG BK191.out 1).trans rfl; have hfz32_0 := zI BK191.out 0; have hfz32_1 := zI BK191.out 1; obtain ⟨Ao33, co33, eo33⟩ := Kd.R_slice HO210.out; subst eo33) | ((with_reducible refine gate_store (t := 31) (p := 2) rfl ?_); refine store_event (t := 31) (p := 2) (v := ?vo_w34) (w1 := ((w29.setCell ⟨gb191, 0, none⟩ (.slice Ao30 t205.length co30)).setCell ⟨gb191, 1, none⟩ (.slice Ao33 t208.length co33))) ?hg ?ho ?hn ?hr ?_; (case ho => rfl); (case hg => rfl); (case hn => rfl); (case hr => first | (go_simp; done) | (go_simp; rfl)); intro w34 hw; have n0_ : zB (Kd.R k45 45 w34 w.heap.size (fun k_ => k_ ≠ gb192) (.slice Ao28 x3_1.length co28) x3_1) := ⟨(by rw [hw]; exact (by (with_reducible repeat (first | apply Kd.R_alloc | apply Kd.R_drewN | apply Kd.R_drew)); exact Kd.R_mono (Kd.R_far (p := ⟨gb191, 1, none⟩) (Kd.R_far (p := ⟨gb191, 0, none⟩) (Kd.R_types HO_3.out BK191.out (by decide)) (fun _ hk => hk.2) (.slice Ao30 t205.length co30)) (fun _ hk => hk.2) (.slice Ao33 t208.length co33)) (fun _ hk => hk.1)))⟩; have n1_ : zB (Kd.R k62 62 w34 w.heap.size (fun k_ => k_ ≠ gb192) (.slice Ao30 t205.length co30) t205) := ⟨(by rw [hw]; exact (by (with_reducible repeat (first | apply Kd.R_alloc | apply Kd.R_drewN | apply Kd.R_drew)); exact Kd.R_mono (Kd.R_far (p := ⟨gb191, 1, none⟩) (Kd.R_far (p := ⟨gb191, 0, none⟩) (Kd.R_types HO207.out BK191.out (by decide)) (fun _ hk => hk.2) (.slice Ao30 t205.length co30)) (fun _ hk => hk.2) (.slice Ao33 t208.length co33)) (fun _ hk => hk.1.2)))⟩; have n2_ : zB (Kd.R (Kd.int .u8) 46 w34 w.heap.size (fun k_ => k_ ≠ gb192) (.slice Ao33 t208.length co33) t208) := ⟨(by rw [hw]; exact (by (with_reducible repeat (first | apply Kd.R_alloc | apply Kd.R_drewN | apply Kd.R_drew)); exact Kd.R_mono (Kd.R_far (p := ⟨gb191, 1, none⟩) (Kd.R_far (p := ⟨gb191, 0, none⟩) (Kd.R_types HO210.out BK191.out (by decide)) (fun _ hk => hk.2) (.slice Ao30 t205.length co30)) (fun _ hk => hk.2) (.slice Ao33 t208.length co33)) (fun _ hk => hk.1.2)))⟩; have n3_ : zB (w34.heap[gb191]? = some (.cells #[.slice Ao30 t205.length co30, .slice Ao33 t208.length co33] 31 (0, 0))) := ⟨(by rw [hw]; exact (by (with_reducible repeat (first | refine zC ?_ _ | refine zD ?_ | refine zA ?_ _)); refine blk_put (cs := #[.slice Ao30 t205.length co30, .slice none 0 0]) ?_ 1 _ rfl; (with_reducible repeat (first | refine zC ?_ _ | refine zD ?_ | refine zA ?_ _)); refine blk_put (cs := #[.slice none 0 0, .slice none 0 0]) ?_ 0 _ rfl; (with_reducible repeat (first | refine zC ?_ _ | refine zD ?_ | refine zA ?_ _)); exact BK191.out))⟩; have n4_ : zB (w34.heap[gb192]? = some (ob192)) := ⟨(by rw [hw]; exact (by (with_reducible repeat (first | refine zC ?_ _ | refine zD ?_ | refine zA ?_ _)); refine blk_farO ?_ NB192_191.out _; (with_reducible repeat (first | refine zC ?_ _ | refine zD ?_ | refine zA ?_ _)); refine blk_farO ?_ NB192_191.out _; (with_reducible repeat (first | refine zC ?_ _ | refine zD ?_ | refine zA ?_ _)); exact BK192.out))⟩; have n5_ : zB (Below w.heap.size w w34) := ⟨(by rw [hw]; exact (by repeat (first | (with_reducible first | exact HB.out | apply zJ | apply zF | apply zH | refine zE ?_ GE191.out | refine zE ?_ GE192.out) | exact HB.out)))⟩; clear hw; clear HO_3; clear HO207; clear HO210; clear BK191; clear BK192; clear HB; have HO_3 := n0_; have HO207 := n1_; have HO210 := n2_; have BK191 := n3_; have BK192 := n4_; have HB := n5_; clear n0_ n1_ n2_ n3_ n4_ n5_))
      refine bodyPost_ret (results_cell_row rfl _ _ gb191 31 #[.slice Ao30 t205.length co30, .slice Ao33 t208.length co33] (0, 0) _ rfl (by (with_reducible repeat (first | refine zC ?_ _ | refine zD ?_ | refine zA ?_ _)); exact BK191.out) Try.underlying31 rfl (by kernel_rfl)) rfl ?_
      exact ⟨_, _, by first | rfl | (simp [errW_none, errW_some] <;> rfl) | (simp [*, errW_none, errW_some] <;> rfl), by (with_reducible repeat (first | apply Kd.R_alloc | apply Kd.R_drewN | apply Kd.R_drew)); exact Kd.R_mono HO207.out (fun _ hk => trivial), by (with_reducible repeat (first | apply Kd.R_alloc | apply Kd.R_drewN | apply Kd.R_drew)); exact Kd.R_mono HO210.out (fun _ hk => trivial), by repeat (first | (with_reducible first | exact HB.out | apply zJ | apply zF | apply zH | refine zE ?_ GE191.out | refine zE ?_ GE192.out) | exact HB.out)⟩
    rw [if_pos c5] at H; have c5b0 : decide (x10_1 < (y193.length : Int)) = true := decide_eq_true c5
    clear c5; by_cases c6 : 0 ≤ x10_1
    rotate_left
    · rw [if_neg c6] at H
      exact absurd H (by simp)
    rw [if_pos c6] at H; have c6b0 : decide (0 ≤ x10_1) = true := decide_eq_true c6
    clear c6; by_cases c7 : x10_1 < (y193.length : Int)
    rotate_left
    · rw [if_neg c7] at H
      exact absurd H (by simp)
    rw [if_pos c7] at H; have c7b0 : decide (x10_1 < (y193.length : Int)) = true := decide_eq_true c7
    clear c7; by_cases c8 : (rd y193 x10_1) = 32
    rotate_left
    · rw [if_neg c8] at H
      have c8b0 : ((rd y193 x10_1) == 32) = false := beq_eq_false_iff_ne.mpr c8
      have c8b1 : ((rd y193 x10_1) != 32) = true := bne_iff_ne.mpr c8
      by_cases c19 : x3_1.length < 35184372088832
      rotate_left
      · rw [if_neg c19] at H
        exact absurd H (by simp)
      rw [if_pos c19] at H; have LMc19 := zB.mk c19; clear c19; obtain ⟨y202, hy202⟩ : ∃ y_ : List (S45), y_ = (x3_1 ++ [(⟨1, 0, 0, 0⟩ : S45)]) := ⟨_, rfl⟩; replace H : (stanzalaw14_Text.l0 k1 y202 y193 (y193.length : Int) (wrap64 (x10_1 + 1))) = some (r1, r2) := by first | (rw [hy202]; with_reducible exact H) | (have H2_ := (Option.bind_some _ _).symm.trans H; rw [hy202]; with_reducible exact H2_) | (have H2_ := (Option.bind_some _ _).symm.trans H; with_reducible exact H2_) | with_reducible exact H | (rw [hy202]; exact H) | exact H
      have Ny202 := zB.mk hy202; clear hy202; have H' := zB.mk H
      clear H; have p197 : 0 ≤ (x10_1 : Int) := of_decide_eq_true (by first | (with_reducible assumption) | assumption)
      have q197 : x10_1 < (y193.length : Int) := of_decide_eq_true (by first | (with_reducible assumption) | assumption)
      obtain ⟨ad197, e197, hx197_0⟩ := Kd.at_int (HV192.out _ BK192.out) x10_1 p197 q197; obtain rfl : (⟨gb192, 0, none⟩ : Addr) = ad197 := (by injection e197)
      (first | simp only [add_plain] at hx197_0 | simp only [add_at] at hx197_0 | simp only [Addr.add, Nat.zero_add] at hx197_0 | skip)
      replace p197 := eq_true p197; replace q197 := eq_true q197; go_wp2_with (first | ((with_reducible refine gate_dst (N := 6) rfl ?_); refine box_event ?hg (N := 6) ?hd (cs := #[.int .u8 0, .int .u8 0, .int .u8 0, .int .u8 0]) (t := 45) ?hr ?_; (case hd => rfl); (case hg => rfl); (case hr => first | (go_simp; done) | (go_simp; rfl)); intro gb198 hg w20 hbox hb; have n0_ := zB.mk (Kd.R_below (Kd.R_elderB (by (with_reducible repeat (first | apply Kd.R_alloc | apply Kd.R_drewN | apply Kd.R_drew)); exact HO_3.out) gb198 (Nat.le_of_eq hg.symm)) hb); have n1_ := zB.mk (zK (g := gb191) (o := .cells #[.slice none 0 0, .slice none 0 0] 31 (0, 0)) (by (with_reducible repeat (first | refine zC ?_ _ | refine zD ?_ | refine zA ?_ _)); exact BK191.out) hb); have n2_ := zB.mk (zK (g := gb192) (o := ob192) (by (with_reducible repeat (first | refine zC ?_ _ | refine zD ?_ | refine zA ?_ _)); exact BK192.out) hb); have n3_ := zB.mk (zO (by repeat (first | (with_reducible first | exact HB.out | apply zJ | apply zF | apply zH | refine zE ?_ GE191.out | refine zE ?_ GE192.out) | exact HB.out)) hb); have n4_ := zB.mk (hbox); have n5_ := zB.mk ((by rw [hg]; exact (zM (by repeat (first | (with_reducible first | exact HB.out | apply zJ | apply zF | apply zH | refine zE ?_ GE191.out | refine zE ?_ GE192.out) | exact HB.out))) : w.heap.size ≤ gb198)); have n6_ := zB.mk ((by rw [hg]; exact (zM (by repeat (first | (with_reducible first | exact HB.out | apply zJ | apply zF | apply zH | refine zE ?_ GE191.out | refine zE ?_ GE192.out) | exact HB.out))) : w.heap.size ≤ gb198)); have n7_ := zB.mk ((by rw [hg]; exact Nat.ne_of_lt (blk_lt (g := gb191) (o := .cells #[.slice none 0 0, .slice none 0 0] 31 (0, 0)) (by (with_reducible repeat (first | refine zC ?_ _ | refine zD ?_ | refine zA ?_ _)); exact BK191.out)) : gb191 ≠ gb198)); have n8_ := zB.mk ((by rw [hg]; exact Nat.ne_of_gt (blk_lt (g := gb191) (o := .cells #[.slice none 0 0, .slice none 0 0] 31 (0, 0)) (by (with_reducible repeat (first | refine zC ?_ _ | refine zD ?_ | refine zA ?_ _)); exact BK191.out)) : gb198 ≠ gb191)); have n9_ := zB.mk ((by rw [hg]; exact Nat.ne_of_lt (blk_lt (g := gb192) (o := ob192) (by (with_reducible repeat (first | refine zC ?_ _ | refine zD ?_ | refine zA ?_ _)); exact BK192.out)) : gb192 ≠ gb198)); have n10_ := zB.mk ((by rw [hg]; exact Nat.ne_of_gt (blk_lt (g := gb192) (o := ob192) (by (with_reducible repeat (first | refine zC ?_ _ | refine zD ?_ | refine zA ?_ _)); exact BK192.out)) : gb198 ≠ gb192)); clear HO_3; clear BK191; clear BK192; clear HB; have HO_3 := n0_; have BK191 := n1_; have BK192 := n2_; have HB := n3_; have BK198 := n4_; have GW198 := n5_; have GE198 := n6_; have NB191_198 := n7_; have NB198_191 := n8_; have NB192_198 := n9_; have NB198_192 := n10_; clear n0_ n1_ n2_ n3_ n4_ n5_ n6_ n7_ n8_ n9_ n10_; clear hb hbox hg; have hnb21 := NB198_191.out; have hnc21 := NB191_198.out; have hnb22 := NB198_192.out; have hnc22 := NB192_198.out; have hcz23_0 : w20.cell? ⟨gb198, 0, none⟩ = some (.int .u8 0) := (zG BK198.out 0).trans rfl; have hcz23_1 : w20.cell? ⟨gb198, 1, none⟩ = some (.int .u8 0) := (zG BK198.out 1).trans rfl; have hcz23_2 : w20.cell? ⟨gb198, 2, none⟩ = some (.int .u8 0) := (zG BK198.out 2).trans rfl; have hcz23_3 : w20.cell? ⟨gb198, 3, none⟩ = some (.int .u8 0) := (zG BK198.out 3).trans rfl; have hfz23_0 := zI BK198.out 0; have hfz23_1 := zI BK198.out 1; have hfz23_2 := zI BK198.out 2; have hfz23_3 := zI BK198.out 3) | ((with_reducible refine gate_store (t := 45) (p := 6) rfl ?_); refine store_event (t := 45) (p := 6) (v := ?vo_w24) (w1 := ((((w20.setCell ⟨gb198, 0, none⟩ (.int .u8 1)).setCell ⟨gb198, 1, none⟩ (.int .u8 0)).setCell ⟨gb198, 2, none⟩ (.int .u8 0)).setCell ⟨gb198, 3, none⟩ (.int .u8 0))) ?hg ?ho ?hn ?hr ?_; (case ho => rfl); (case hg => rfl); (case hn => rfl); (case hr => first | (go_simp; done) | (go_simp; rfl)); intro w24 hw; have n0_ : zB (Kd.R k45 45 w24 w.heap.size (fun k_ => k_ ≠ gb192 ∧ k_ ≠ gb198) u3 x3_1) := ⟨(by rw [hw]; exact (by (with_reducible repeat (first | apply Kd.R_alloc | apply Kd.R_drewN | apply Kd.R_drew)); exact Kd.R_mono (Kd.R_far (p := ⟨gb198, 3, none⟩) (Kd.R_far (p := ⟨gb198, 2, none⟩) (Kd.R_far (p := ⟨gb198, 1, none⟩) (Kd.R_far (p := ⟨gb198, 0, none⟩) (Kd.R_mono HO_3.out (fun k_ hk => (⟨hk, hk.2⟩ : _ ∧ k_ ≠ gb198))) (fun _ hk => hk.2) (.int .u8 1)) (fun _ hk => hk.2) (.int .u8 0)) (fun _ hk => hk.2) (.int .u8 0)) (fun _ hk => hk.2) (.int .u8 0)) (fun _ hk => ⟨hk.1.1, hk.1.2⟩)))⟩; have n1_ : zB (w24.heap[gb191]? = some (.cells #[.slice none 0 0, .slice none 0 0] 31 (0, 0))) := ⟨(by rw [hw]; exact (by (with_reducible repeat (first | refine zC ?_ _ | refine zD ?_ | refine zA ?_ _)); refine zN ?_ NB191_198.out _; (with_reducible repeat (first | refine zC ?_ _ | refine zD ?_ | refine zA ?_ _)); refine zN ?_ NB191_198.out _; (with_reducible repeat (first | refine zC ?_ _ | refine zD ?_ | refine zA ?_ _)); refine zN ?_ NB191_198.out _; (with_reducible repeat (first | refine zC ?_ _ | refine zD ?_ | refine zA ?_ _)); refine zN ?_ NB191_198.out _; (with_reducible repeat (first | refine zC ?_ _ | refine zD ?_ | refine zA ?_ _)); exact BK191.out))⟩; have n2_ : zB (w24.heap[gb192]? = some (ob192)) := ⟨(by rw [hw]; exact (by (with_reducible repeat (first | refine zC ?_ _ | refine zD ?_ | refine zA ?_ _)); refine blk_farO ?_ NB192_198.out _; (with_reducible repeat (first | refine zC ?_ _ | refine zD ?_ | refine zA ?_ _)); refine blk_farO ?_ NB192_198.out _; (with_reducible repeat (first | refine zC ?_ _ | refine zD ?_ | refine zA ?_ _)); refine blk_farO ?_ NB192_198.out _; (with_reducible repeat (first | refine zC ?_ _ | refine zD ?_ | refine zA ?_ _)); refine blk_farO ?_ NB192_198.out _; (with_reducible repeat (first | refine zC ?_ _ | refine zD ?_ | refine zA ?_ _)); exact BK192.out))⟩; have n3_ : zB (w24.heap[gb198]? = some (.cells #[.int .u8 1, .int .u8 0, .int .u8 0, .int .u8 0] 45 (0, 0))) := ⟨(by rw [hw]; exact (by (with_reducible repeat (first | refine zC ?_ _ | refine zD ?_ | refine zA ?_ _)); refine blk_put (cs := #[.int .u8 1, .int .u8 0, .int .u8 0, .int .u8 0]) ?_ 3 _ rfl; (with_reducible repeat (first | refine zC ?_ _ | refine zD ?_ | refine zA ?_ _)); refine blk_put (cs := #[.int .u8 1, .int .u8 0, .int .u8 0, .int .u8 0]) ?_ 2 _ rfl; (with_reducible repeat (first | refine zC ?_ _ | refine zD ?_ | refine zA ?_ _)); refine blk_put (cs := #[.int .u8 1, .int .u8 0, .int .u8 0, .int .u8 0]) ?_ 1 _ rfl; (with_reducible repeat (first | refine zC ?_ _ | refine zD ?_ | refine zA ?_ _)); refine blk_put (cs := #[.int .u8 0, .int .u8 0, .int .u8 0, .int .u8 0]) ?_ 0 _ rfl; (with_reducible repeat (first | refine zC ?_ _ | refine zD ?_ | refine zA ?_ _)); exact BK198.out))⟩; have n4_ : zB (Below w.heap.size w w24) := ⟨(by rw [hw]; exact (by repeat (first | (with_reducible first | exact HB.out | apply zJ | apply zF | apply zH | refine zE ?_ GE191.out | refine zE ?_ GE192.out | refine zE ?_ GE198.out) | exact HB.out)))⟩; clear hw; clear HO_3; clear BK191; clear BK192; clear BK198; clear HB; have HO_3 := n0_; have BK191 := n1_; have BK192 := n2_; have BK198 := n3_; have HB := n4_; clear n0_ n1_ n2_ n3_ n4_; have hcz25_0 : w24.cell? ⟨gb198, 0, none⟩ = some (.int .u8 1) := (zG BK198.out 0).trans rfl; have hcz25_1 : w24.cell? ⟨gb198, 1, none⟩ = some (.int .u8 0) := (zG BK198.out 1).trans rfl; have hcz25_2 : w24.cell? ⟨gb198, 2, none⟩ = some (.int .u8 0) := (zG BK198.out 2).trans rfl; have hcz25_3 : w24.cell? ⟨gb198, 3, none⟩ = some (.int .u8 0) := (zG BK198.out 3).trans rfl; have hfz25_0 := zI BK198.out 0; have hfz25_1 := zI BK198.out 1; have hfz25_2 := zI BK198.out 2; have hfz25_3 := zI BK198.out 3) | ((with_reducible refine gate_builtin (b := .append) (xs := #[.tmp 19, .tmp 21]) rfl ?_); at_builtin; refine Kd.R_append k45 (w0 := w) w.heap.size rfl (.tmp 19) (.tmp 21) 22 45 (.agg #[(.int .u8 0), (.int .u8 0), (.int .u8 0), (.int .u8 0)]) 4 rfl Try.underlying22 info45 rfl (by decide) (by omega) u3 x3_1 (⟨1, 0, 0, 0⟩ : S45) [.int .u8 1, .int .u8 0, .int .u8 0, .int .u8 0] (fun k_ => k_ ≠ gb192 ∧ k_ ≠ gb198) (fun _ => False) rfl rfl ?aP (fun _ hk => hk.elim) ?aF ?aO ?aB ?aS ?aL ?_; (case aP => exact k45_mkM _ _ _ (⟨1, 0, 0, 0⟩ : S45)); (case aB => exact (by repeat (first | (with_reducible first | exact HB.out | apply zJ | apply zF | apply zH | refine zE ?_ GE191.out | refine zE ?_ GE192.out | refine zE ?_ GE198.out) | exact HB.out))); (case aF => exact (fun k_ hk => ⟨Kd.freshB (g := gb192) (o := ob192) (by (with_reducible repeat (first | refine zC ?_ _ | refine zD ?_ | refine zA ?_ _)); exact BK192.out) k_ hk, Kd.freshB (g := gb198) (o := .cells #[.int .u8 1, .int .u8 0, .int .u8 0, .int .u8 0] 45 (0, 0)) (by (with_reducible repeat (first | refine zC ?_ _ | refine zD ?_ | refine zA ?_ _)); exact BK198.out) k_ hk⟩)); (case aO => exact (by (with_reducible repeat (first | apply Kd.R_alloc | apply Kd.R_drewN | apply Kd.R_drew)); exact HO_3.out)); (case aS => exact (zM (by repeat (first | (with_reducible first | exact HB.out | apply zJ | apply zF | apply zH | refine zE ?_ GE191.out | refine zE ?_ GE192.out | refine zE ?_ GE198.out) | exact HB.out)))); (case aL => have := LMc19.out; omega); intro v203 w26 ho hb hg hat; rw [← Ny202.out] at ho; have n0_ := zB.mk (blk_grown (g := gb191) (o := .cells #[.slice none 0 0, .slice none 0 0] 31 (0, 0)) (by (with_reducible repeat (first | refine zC ?_ _ | refine zD ?_ | refine zA ?_ _)); exact BK191.out) hg (Kd.R_ne HO_3.out BK191.out (by decide))); have n1_ := zB.mk (blk_grown (g := gb192) (o := ob192) (by (with_reducible repeat (first | refine zC ?_ _ | refine zD ?_ | refine zA ?_ _)); exact BK192.out) hg (Kd.R_away HO_3.out (fun _ hk => hk.1))); have n2_ := zB.mk (blk_grown (g := gb198) (o := .cells #[.int .u8 1, .int .u8 0, .int .u8 0, .int .u8 0] 45 (0, 0)) (by (with_reducible repeat (first | refine zC ?_ _ | refine zD ?_ | refine zA ?_ _)); exact BK198.out) hg (Kd.R_away HO_3.out (fun _ hk => hk.2))); have n3_ := zB.mk (hb); have n4_ := zB.mk (ho); clear BK191; clear BK192; clear BK198; clear HB; clear HO_3; have BK191 := n0_; have BK192 := n1_; have BK198 := n2_; have HB := n3_; have HO204 := n4_; clear n0_ n1_ n2_ n3_ n4_; clear ho hb hg hat))
      go_roundg k1
      case measure => have := HK1.out; omega
      case rel => exact ⟨(y202), (wrap64 (x10_1 + 1)), (by first | rfl | (simp; done) | (simp [*]; done)), H', ⟨by have := HK1.out; omega⟩, ⟨by (with_reducible repeat (first | apply Kd.R_alloc | apply Kd.R_drewN | apply Kd.R_drew)); exact Kd.R_mono HO204.out (fun _ hk => hk.1)⟩, ⟨by (with_reducible repeat (first | refine zC ?_ _ | refine zD ?_ | refine zA ?_ _)); exact BK191.out⟩, ⟨by (with_reducible repeat (first | refine zC ?_ _ | refine zD ?_ | refine zA ?_ _)); exact BK192.out⟩, ⟨by repeat (first | (with_reducible first | exact HB.out | apply zJ | apply zF | apply zH | refine zE ?_ GE191.out | refine zE ?_ GE192.out | refine zE ?_ GE198.out) | exact HB.out)⟩⟩
    rw [if_pos c8] at H; have c8b0 : ((rd y193 x10_1) == 32) = true := beq_iff_eq.mpr c8
    have c8b1 : ((rd y193 x10_1) != 32) = false := bne_eq_false_iff_eq.mpr c8
    clear c8; by_cases c9 : x3_1.length < 35184372088832
    rotate_left
    · rw [if_neg c9] at H
      exact absurd H (by simp)
    rw [if_pos c9] at H; have LMc9 := zB.mk c9; clear c9; obtain ⟨y199, hy199⟩ : ∃ y_ : List (S45), y_ = (x3_1 ++ [(⟨1, 1, 0, 1⟩ : S45)]) := ⟨_, rfl⟩; replace H : (stanzalaw14_Text.l0 k1 y199 y193 (y193.length : Int) (wrap64 (x10_1 + 1))) = some (r1, r2) := by first | (rw [hy199]; with_reducible exact H) | (have H2_ := (Option.bind_some _ _).symm.trans H; rw [hy199]; with_reducible exact H2_) | (have H2_ := (Option.bind_some _ _).symm.trans H; with_reducible exact H2_) | with_reducible exact H | (rw [hy199]; exact H) | exact H
    have Ny199 := zB.mk hy199; clear hy199; have H' := zB.mk H
    clear H; have p197 : 0 ≤ (x10_1 : Int) := of_decide_eq_true (by first | (with_reducible assumption) | assumption)
    have q197 : x10_1 < (y193.length : Int) := of_decide_eq_true (by first | (with_reducible assumption) | assumption)
    obtain ⟨ad197, e197, hx197_0⟩ := Kd.at_int (HV192.out _ BK192.out) x10_1 p197 q197; obtain rfl : (⟨gb192, 0, none⟩ : Addr) = ad197 := (by injection e197)
    (first | simp only [add_plain] at hx197_0 | simp only [add_at] at hx197_0 | simp only [Addr.add, Nat.zero_add] at hx197_0 | skip)
    replace p197 := eq_true p197; replace q197 := eq_true q197; go_wp2_with (first | ((with_reducible refine gate_dst (N := 6) rfl ?_); refine box_event ?hg (N := 6) ?hd (cs := #[.int .u8 0, .int .u8 0, .int .u8 0, .int .u8 0]) (t := 45) ?hr ?_; (case hd => rfl); (case hg => rfl); (case hr => first | (go_simp; done) | (go_simp; rfl)); intro gb198 hg w10 hbox hb; have n0_ := zB.mk (Kd.R_below (Kd.R_elderB (by (with_reducible repeat (first | apply Kd.R_alloc | apply Kd.R_drewN | apply Kd.R_drew)); exact HO_3.out) gb198 (Nat.le_of_eq hg.symm)) hb); have n1_ := zB.mk (zK (g := gb191) (o := .cells #[.slice none 0 0, .slice none 0 0] 31 (0, 0)) (by (with_reducible repeat (first | refine zC ?_ _ | refine zD ?_ | refine zA ?_ _)); exact BK191.out) hb); have n2_ := zB.mk (zK (g := gb192) (o := ob192) (by (with_reducible repeat (first | refine zC ?_ _ | refine zD ?_ | refine zA ?_ _)); exact BK192.out) hb); have n3_ := zB.mk (zO (by repeat (first | (with_reducible first | exact HB.out | apply zJ | apply zF | apply zH | refine zE ?_ GE191.out | refine zE ?_ GE192.out) | exact HB.out)) hb); have n4_ := zB.mk (hbox); have n5_ := zB.mk ((by rw [hg]; exact (zM (by repeat (first | (with_reducible first | exact HB.out | apply zJ | apply zF | apply zH | refine zE ?_ GE191.out | refine zE ?_ GE192.out) | exact HB.out))) : w.heap.size ≤ gb198)); have n6_ := zB.mk ((by rw [hg]; exact (zM (by repeat (first | (with_reducible first | exact HB.out | apply zJ | apply zF | apply zH | refine zE ?_ GE191.out | refine zE ?_ GE192.out) | exact HB.out))) : w.heap.size ≤ gb198)); have n7_ := zB.mk ((by rw [hg]; exact Nat.ne_of_lt (blk_lt (g := gb191) (o := .cells #[.slice none 0 0, .slice none 0 0] 31 (0, 0)) (by (with_reducible repeat (first | refine zC ?_ _ | refine zD ?_ | refine zA ?_ _)); exact BK191.out)) : gb191 ≠ gb198)); have n8_ := zB.mk ((by rw [hg]; exact Nat.ne_of_gt (blk_lt (g := gb191) (o := .cells #[.slice none 0 0, .slice none 0 0] 31 (0, 0)) (by (with_reducible repeat (first | refine zC ?_ _ | refine zD ?_ | refine zA ?_ _)); exact BK191.out)) : gb198 ≠ gb191)); have n9_ := zB.mk ((by rw [hg]; exact Nat.ne_of_lt (blk_lt (g := gb192) (o := ob192) (by (with_reducible repeat (first | refine zC ?_ _ | refine zD ?_ | refine zA ?_ _)); exact BK192.out)) : gb192 ≠ gb198)); have n10_ := zB.mk ((by rw [hg]; exact Nat.ne_of_gt (blk_lt (g := gb192) (o := ob192) (by (with_reducible repeat (first | refine zC ?_ _ | refine zD ?_ | refine zA ?_ _)); exact BK192.out)) : gb198 ≠ gb192)); clear HO_3; clear BK191; clear BK192; clear HB; have HO_3 := n0_; have BK191 := n1_; have BK192 := n2_; have HB := n3_; have BK198 := n4_; have GW198 := n5_; have GE198 := n6_; have NB191_198 := n7_; have NB198_191 := n8_; have NB192_198 := n9_; have NB198_192 := n10_; clear n0_ n1_ n2_ n3_ n4_ n5_ n6_ n7_ n8_ n9_ n10_; clear hb hbox hg; have hnb11 := NB198_191.out; have hnc11 := NB191_198.out; have hnb12 := NB198_192.out; have hnc12 := NB192_198.out; have hcz13_0 : w10.cell? ⟨gb198, 0, none⟩ = some (.int .u8 0) := (zG BK198.out 0).trans rfl; have hcz13_1 : w10.cell? ⟨gb198, 1, none⟩ = some (.int .u8 0) := (zG BK198.out 1).trans rfl; have hcz13_2 : w10.cell? ⟨gb198, 2, none⟩ = some (.int .u8 0) := (zG BK198.out 2).trans rfl; have hcz13_3 : w10.cell? ⟨gb198, 3, none⟩ = some (.int .u8 0) := (zG BK198.out 3).trans rfl; have hfz13_0 := zI BK198.out 0; have hfz13_1 := zI BK198.out 1; have hfz13_2 := zI BK198.out 2; have hfz13_3 := zI BK198.out 3) | ((with_reducible refine gate_store (t := 45) (p := 6) rfl ?_); refine store_event (t := 45) (p := 6) (v := ?vo_w14) (w1 := ((((w10.setCell ⟨gb198, 0, none⟩ (.int .u8 1)).setCell ⟨gb198, 1, none⟩ (.int .u8 0)).setCell ⟨gb198, 2, none⟩ (.int .u8 0)).setCell ⟨gb198, 3, none⟩ (.int .u8 0))) ?hg ?ho ?hn ?hr ?_; (case ho => rfl); (case hg => rfl); (case hn => rfl); (case hr => first | (go_simp; done) | (go_simp; rfl)); intro w14 hw; have n0_ : zB (Kd.R k45 45 w14 w.heap.size (fun k_ => k_ ≠ gb192 ∧ k_ ≠ gb198) u3 x3_1) := ⟨(by rw [hw]; exact (by (with_reducible repeat (first | apply Kd.R_alloc | apply Kd.R_drewN | apply Kd.R_drew)); exact Kd.R_mono (Kd.R_far (p := ⟨gb198, 3, none⟩) (Kd.R_far (p := ⟨gb198, 2, none⟩) (Kd.R_far (p := ⟨gb198, 1, none⟩) (Kd.R_far (p := ⟨gb198, 0, none⟩) (Kd.R_mono HO_3.out (fun k_ hk => (⟨hk, hk.2⟩ : _ ∧ k_ ≠ gb198))) (fun _ hk => hk.2) (.int .u8 1)) (fun _ hk => hk.2) (.int .u8 0)) (fun _ hk => hk.2) (.int .u8 0)) (fun _ hk => hk.2) (.int .u8 0)) (fun _ hk => ⟨hk.1.1, hk.1.2⟩)))⟩; have n1_ : zB (w14.heap[gb191]? = some (.cells #[.slice none 0 0, .slice none 0 0] 31 (0, 0))) := ⟨(by rw [hw]; exact (by (with_reducible repeat (first | refine zC ?_ _ | refine zD ?_ | refine zA ?_ _)); refine zN ?_ NB191_198.out _; (with_reducible repeat (first | refine zC ?_ _ | refine zD ?_ | refine zA ?_ _)); refine zN ?_ NB191_198.out _; (with_reducible repeat (first | refine zC ?_ _ | refine zD ?_ | refine zA ?_ _)); refine zN ?_ NB191_198.out _; (with_reducible repeat (first | refine zC ?_ _ | refine zD ?_ | refine zA ?_ _)); refine zN ?_ NB191_198.out _; (with_reducible repeat (first | refine zC ?_ _ | refine zD ?_ | refine zA ?_ _)); exact BK191.out))⟩; have n2_ : zB (w14.heap[gb192]? = some (ob192)) := ⟨(by rw [hw]; exact (by (with_reducible repeat (first | refine zC ?_ _ | refine zD ?_ | refine zA ?_ _)); refine blk_farO ?_ NB192_198.out _; (with_reducible repeat (first | refine zC ?_ _ | refine zD ?_ | refine zA ?_ _)); refine blk_farO ?_ NB192_198.out _; (with_reducible repeat (first | refine zC ?_ _ | refine zD ?_ | refine zA ?_ _)); refine blk_farO ?_ NB192_198.out _; (with_reducible repeat (first | refine zC ?_ _ | refine zD ?_ | refine zA ?_ _)); refine blk_farO ?_ NB192_198.out _; (with_reducible repeat (first | refine zC ?_ _ | refine zD ?_ | refine zA ?_ _)); exact BK192.out))⟩; have n3_ : zB (w14.heap[gb198]? = some (.cells #[.int .u8 1, .int .u8 0, .int .u8 0, .int .u8 0] 45 (0, 0))) := ⟨(by rw [hw]; exact (by (with_reducible repeat (first | refine zC ?_ _ | refine zD ?_ | refine zA ?_ _)); refine blk_put (cs := #[.int .u8 1, .int .u8 0, .int .u8 0, .int .u8 0]) ?_ 3 _ rfl; (with_reducible repeat (first | refine zC ?_ _ | refine zD ?_ | refine zA ?_ _)); refine blk_put (cs := #[.int .u8 1, .int .u8 0, .int .u8 0, .int .u8 0]) ?_ 2 _ rfl; (with_reducible repeat (first | refine zC ?_ _ | refine zD ?_ | refine zA ?_ _)); refine blk_put (cs := #[.int .u8 1, .int .u8 0, .int .u8 0, .int .u8 0]) ?_ 1 _ rfl; (with_reducible repeat (first | refine zC ?_ _ | refine zD ?_ | refine zA ?_ _)); refine blk_put (cs := #[.int .u8 0, .int .u8 0, .int .u8 0, .int .u8 0]) ?_ 0 _ rfl; (with_reducible repeat (first | refine zC ?_ _ | refine zD ?_ | refine zA ?_ _)); exact BK198.out))⟩; have n4_ : zB (Below w.heap.size w w14) := ⟨(by rw [hw]; exact (by repeat (first | (with_reducible first | exact HB.out | apply zJ | apply zF | apply zH | refine zE ?_ GE191.out | refine zE ?_ GE192.out | refine zE ?_ GE198.out) | exact HB.out)))⟩; clear hw; clear HO_3; clear BK191; clear BK192; clear BK198; clear HB; have HO_3 := n0_; have BK191 := n1_; have BK192 := n2_; have BK198 := n3_; have HB := n4_; clear n0_ n1_ n2_ n3_ n4_; have hcz15_0 : w14.cell? ⟨gb198, 0, none⟩ = some (.int .u8 1) := (zG BK198.out 0).trans rfl; have hcz15_1 : w14.cell? ⟨gb198, 1, none⟩ = some (.int .u8 0) := (zG BK198.out 1).trans rfl; have hcz15_2 : w14.cell? ⟨gb198, 2, none⟩ = some (.int .u8 0) := (zG BK198.out 2).trans rfl; have hcz15_3 : w14.cell? ⟨gb198, 3, none⟩ = some (.int .u8 0) := (zG BK198.out 3).trans rfl; have hfz15_0 := zI BK198.out 0; have hfz15_1 := zI BK198.out 1; have hfz15_2 := zI BK198.out 2; have hfz15_3 := zI BK198.out 3) | ((with_reducible refine gate_store (t := 5) (p := 18) rfl ?_); refine store_event (t := 5) (p := 18) (v := ?vo_w16) (w1 := ((w14.setCell ⟨gb198, 1, none⟩ (.int .u8 1)).setCell ⟨gb198, 3, none⟩ (.int .u8 1))) ?hg ?ho ?hn ?hr ?_; (case ho => rfl); (case hg => rfl); (case hn => rfl); (case hr => first | (go_simp; done) | (go_simp; rfl)); intro w16 hw; have n0_ : zB (Kd.R k45 45 w16 w.heap.size (fun k_ => k_ ≠ gb192 ∧ k_ ≠ gb198) u3 x3_1) := ⟨(by rw [hw]; exact (by (with_reducible repeat (first | apply Kd.R_alloc | apply Kd.R_drewN | apply Kd.R_drew)); exact Kd.R_mono (Kd.R_far (p := ⟨gb198, 3, none⟩) (Kd.R_far (p := ⟨gb198, 1, none⟩) (Kd.R_mono HO_3.out (fun k_ hk => (⟨hk, hk.2⟩ : _ ∧ k_ ≠ gb198))) (fun _ hk => hk.2) (.int .u8 1)) (fun _ hk => hk.2) (.int .u8 1)) (fun _ hk => ⟨hk.1.1, hk.1.2⟩)))⟩; have n1_ : zB (w16.heap[gb191]? = some (.cells #[.slice none 0 0, .slice none 0 0] 31 (0, 0))) := ⟨(by rw [hw]; exact (by (with_reducible repeat (first | refine zC ?_ _ | refine zD ?_ | refine zA ?_ _)); refine zN ?_ NB191_198.out _; (with_reducible repeat (first | refine zC ?_ _ | refine zD ?_ | refine zA ?_ _)); refine zN ?_ NB191_198.out _; (with_reducible repeat (first | refine zC ?_ _ | refine zD ?_ | refine zA ?_ _)); exact BK191.out))⟩; have n2_ : zB (w16.heap[gb192]? = some (ob192)) := ⟨(by rw [hw]; exact (by (with_reducible repeat (first | refine zC ?_ _ | refine zD ?_ | refine zA ?_ _)); refine blk_farO ?_ NB192_198.out _; (with_reducible repeat (first | refine zC ?_ _ | refine zD ?_ | refine zA ?_ _)); refine blk_farO ?_ NB192_198.out _; (with_reducible repeat (first | refine zC ?_ _ | refine zD ?_ | refine zA ?_ _)); exact BK192.out))⟩; have n3_ : zB (w16.heap[gb198]? = some (.cells #[.int .u8 1, .int .u8 1, .int .u8 0, .int .u8 1] 45 (0, 0))) := ⟨(by rw [hw]; exact (by (with_reducible repeat (first | refine zC ?_ _ | refine zD ?_ | refine zA ?_ _)); refine blk_put (cs := #[.int .u8 1, .int .u8 1, .int .u8 0, .int .u8 0]) ?_ 3 _ rfl; (with_reducible repeat (first | refine zC ?_ _ | refine zD ?_ | refine zA ?_ _)); refine blk_put (cs := #[.int .u8 1, .int .u8 0, .int .u8 0, .int .u8 0]) ?_ 1 _ rfl; (with_reducible repeat (first | refine zC ?_ _ | refine zD ?_ | refine zA ?_ _)); exact BK198.out))⟩; have n4_ : zB (Below w.heap.size w w16) := ⟨(by rw [hw]; exact (by repeat (first | (with_reducible first | exact HB.out | apply zJ | apply zF | apply zH | refine zE ?_ GE191.out | refine zE ?_ GE192.out | refine zE ?_ GE198.out) | exact HB.out)))⟩; clear hw; clear HO_3; clear BK191; clear BK192; clear BK198; clear HB; have HO_3 := n0_; have BK191 := n1_; have BK192 := n2_; have BK198 := n3_; have HB := n4_; clear n0_ n1_ n2_ n3_ n4_; have hcz17_0 : w16.cell? ⟨gb198, 0, none⟩ = some (.int .u8 1) := (zG BK198.out 0).trans rfl; have hcz17_1 : w16.cell? ⟨gb198, 1, none⟩ = some (.int .u8 1) := (zG BK198.out 1).trans rfl; have hcz17_2 : w16.cell? ⟨gb198, 2, none⟩ = some (.int .u8 0) := (zG BK198.out 2).trans rfl; have hcz17_3 : w16.cell? ⟨gb198, 3, none⟩ = some (.int .u8 1) := (zG BK198.out 3).trans rfl; have hfz17_0 := zI BK198.out 0; have hfz17_1 := zI BK198.out 1; have hfz17_2 := zI BK198.out 2; have hfz17_3 := zI BK198.out 3) | ((with_reducible refine gate_builtin (b := .append) (xs := #[.tmp 19, .tmp 21]) rfl ?_); at_builtin; refine Kd.R_append k45 (w0 := w) w.heap.size rfl (.tmp 19) (.tmp 21) 22 45 (.agg #[(.int .u8 0), (.int .u8 0), (.int .u8 0), (.int .u8 0)]) 4 rfl Try.underlying22 info45 rfl (by decide) (by omega) u3 x3_1 (⟨1, 1, 0, 1⟩ : S45) [.int .u8 1, .int .u8 1, .int .u8 0, .int .u8 1] (fun k_ => k_ ≠ gb192 ∧ k_ ≠ gb198) (fun _ => False) rfl rfl ?aP (fun _ hk => hk.elim) ?aF ?aO ?aB ?aS ?aL ?_; (case aP => exact k45_mkM _ _ _ (⟨1, 1, 0, 1⟩ : S45)); (case aB => exact (by repeat (first | (with_reducible first | exact HB.out | apply zJ | apply zF | apply zH | refine zE ?_ GE191.out | refine zE ?_ GE192.out | refine zE ?_ GE198.out) | exact HB.out))); (case aF => exact (fun k_ hk => ⟨Kd.freshB (g := gb192) (o := ob192) (by (with_reducible repeat (first | refine zC ?_ _ | refine zD ?_ | refine zA ?_ _)); exact BK192.out) k_ hk, Kd.freshB (g := gb198) (o := .cells #[.int .u8 1, .int .u8 1, .int .u8 0, .int .u8 1] 45 (0, 0)) (by (with_reducible repeat (first | refine zC ?_ _ | refine zD ?_ | refine zA ?_ _)); exact BK198.out) k_ hk⟩)); (case aO => exact (by (with_reducible repeat (first | apply Kd.R_alloc | apply Kd.R_drewN | apply Kd.R_drew)); exact HO_3.out)); (case aS => exact (zM (by repeat (first | (with_reducible first | exact HB.out | apply zJ | apply zF | apply zH | refine zE ?_ GE191.out | refine zE ?_ GE192.out | refine zE ?_ GE198.out) | exact HB.out)))); (case aL => have := LMc9.out; omega); intro v200 w18 ho hb hg hat; rw [← Ny199.out] at ho; have n0_ := zB.mk (blk_grown (g := gb191) (o := .cells #[.slice none 0 0, .slice none 0 0] 31 (0, 0)) (by (with_reducible repeat (first | refine zC ?_ _ | refine zD ?_ | refine zA ?_ _)); exact BK191.out) hg (Kd.R_ne HO_3.out BK191.out (by decide))); have n1_ := zB.mk (blk_grown (g := gb192) (o := ob192) (by (with_reducible repeat (first | refine zC ?_ _ | refine zD ?_ | refine zA ?_ _)); exact BK192.out) hg (Kd.R_away HO_3.out (fun _ hk => hk.1))); have n2_ := zB.mk (blk_grown (g := gb198) (o := .cells #[.int .u8 1, .int .u8 1, .int .u8 0, .int .u8 1] 45 (0, 0)) (by (with_reducible repeat (first | refine zC ?_ _ | refine zD ?_ | refine zA ?_ _)); exact BK198.out) hg (Kd.R_away HO_3.out (fun _ hk => hk.2))); have n3_ := zB.mk (hb); have n4_ := zB.mk (ho); clear BK191; clear BK192; clear BK198; clear HB; clear HO_3; have BK191 := n0_; have BK192 := n1_; have BK198 := n2_; have HB := n3_; have HO201 := n4_; clear n0_ n1_ n2_ n3_ n4_; clear ho hb hg hat))
    go_roundg k1
    case measure => have := HK1.out; omega
    case rel => exact ⟨(y199), (wrap64 (x10_1 + 1)), (by first | rfl | (simp; done) | (simp [*]; done)), H', ⟨by have := HK1.out; omega⟩, ⟨by (with_reducible repeat (first | apply Kd.R_alloc | apply Kd.R_drewN | apply Kd.R_drew)); exact Kd.R_mono HO201.out (fun _ hk => hk.1)⟩, ⟨by (with_reducible repeat (first | refine zC ?_ _ | refine zD ?_ | refine zA ?_ _)); exact BK191.out⟩, ⟨by (with_reducible repeat (first | refine zC ?_ _ | refine zD ?_ | refine zA ?_ _)); exact BK192.out⟩, ⟨by repeat (first | (with_reducible first | exact HB.out | apply zJ | apply zF | apply zH | refine zE ?_ GE191.out | refine zE ?_ GE192.out | refine zE ?_ GE198.out) | exact HB.out)⟩⟩
end Go.Proofs.Ytlgclhhkgohanaa.F
end
