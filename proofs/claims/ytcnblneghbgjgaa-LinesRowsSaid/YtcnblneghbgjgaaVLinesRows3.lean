/- Printed by a program: Lean functions that answer as the Go functions do, and the proofs of it. -/
import Derived.Test.YtcnblneghbgjgaaVLinesRows0
import Derived.Test.YtcnblneghbgjgaaVLinesRows1
import Derived.Test.YtcnblneghbgjgaaVLinesRows2
section
namespace Go.Proofs.Ytcnblneghbgjgaa.F
open Go.RowKit Go.Proofs.YtcnblneghbgjgaaW.PrintWords Go.Proofs.YtcnblneghbgjgaaW.PrintLast Go.Proofs.YtcnblneghbgjgaaW.PrintMore
attribute [local go_sem] max2_int min2_int max_two min_two max_three min_three max_four min_four   -- for this text's walks alone
set_option linter.unusedVariables false
set_option linter.unusedSimpArgs false
def lines_Part.f (k : Nat) (l0_0 : List (S66)) (l0_1 : List Int) (a1 : Int) (a2 : Int) (a3_0 : Int) (a3_1 : Int) (a3_2 : Int) (a3_3 : Int) (a3_4 : Int) (a3_5 : Nat) : Option ((List (S54)) × Bool) := if a3_2 = 1 then ((best_Break.f k l0_0 l0_1 a1 a2 a3_0 a3_1 a3_2 a3_3 a3_4 a3_5).bind fun bt249 => (if bt249.2 = true then (some (bt249.1, false)) else ((first_Break.f k l0_0 l0_1 a1 a2 a3_0 a3_1 a3_2 a3_3 a3_4 a3_5).bind fun t253 => (some (t253, (a3_2 == 1)))))) else ((first_Break.f k l0_0 l0_1 a1 a2 a3_0 a3_1 a3_2 a3_3 a3_4 a3_5).bind fun t256 => (some (t256, (a3_2 == 1))))
theorem lines_Part.mono : ∀ a0 a1 a2 a3 a4 a5 a6 a7 a8 a9 k, LeO (lines_Part.f k a0 a1 a2 a3 a4 a5 a6 a7 a8 a9) (lines_Part.f (k + 1) a0 a1 a2 a3 a4 a5 a6 a7 a8 a9) := by
  intro a0 a1 a2 a3 a4 a5 a6 a7 a8 a9 k
  unfold lines_Part.f
  repeat' first
      | (with_reducible exact best_Break.mono _ _ _ _ _ _ _ _ _ _ _)
      | (with_reducible exact first_Break.mono _ _ _ _ _ _ _ _ _ _ _)
      | (with_reducible exact LeO.refl _)
      | (with_reducible exact LeO.none _)
      | (with_reducible refine LeO.ite ?_ ?_)
      | (with_reducible refine LeO.bind ?_ (fun _ => ?_))
      | exact best_Break.mono _ _ _ _ _ _ _ _ _ _ _
      | exact first_Break.mono _ _ _ _ _ _ _ _ _ _ _
      | exact LeO.none _
      | refine LeO.ite ?_ ?_
      | refine LeO.bind ?_ (fun _ => ?_)
def lines_Part.T5 : Bool × List (List Nat × List Nat) := (true, [([], []), ([], []), ([], []), ([], []), ([0, 1, 2, 3], [0, 1, 2, 3]), ([], []), ([5], [5]), ([6], [6]), ([4, 4, 0, 1, 2, 3, 4], [4]), ([7, 8, 0, 1, 2, 3, 4, 5, 6, 7, 8], [7])])
def lines_Part.B5 : List Nat := [0, 0, 0, 0, 15, 0, 32, 96, 31, 511]
theorem lines_Part.tab5 : rtab .any (opsOf Try.f19 5) = lines_Part.T5 := by kernel_rfl
theorem lines_Part.bits5 : waitsOk lines_Part.T5.2 lines_Part.B5 = true := by kernel_rfl
set_option maxHeartbeats 8000000 in
set_option maxRecDepth 100000 in
theorem lines_Part.calls (k : Nat) (A0_0 : Option Addr) (c0_0 : Nat) (l0_0 : List (S66)) (A0_1 : Option Addr) (c0_1 : Nat) (l0_1 : List Int) (a1 : Int) (a2 : Int) (a3_0 : Int) (a3_1 : Int) (a3_2 : Int) (a3_3 : Int) (a3_4 : Int) (a3_5 : Nat) (r1 : List (S54)) (r2 : Bool) (w : World) (hr0_0 : Kd.C k66 w A0_0 l0_0.length l0_0) (hc0_0 : l0_0.length ≤ c0_0) (hr0_1 : Kd.C (Kd.int .u8) w A0_1 l0_1.length l0_1) (hc0_1 : l0_1.length ≤ c0_1) (h : lines_Part.f k l0_0 l0_1 a1 a2 a3_0 a3_1 a3_2 a3_3 a3_4 a3_5 = some (r1, r2)) :
    Calls Try.prog 19 #[.agg #[.slice A0_0 l0_0.length c0_0, .slice A0_1 l0_1.length c0_1], .int .i64 a1, .int .i64 a2, .agg #[.int .i64 a3_0, .int .i64 a3_1, .int .u8 a3_2, .int .i64 a3_3, .int .i64 a3_4, .float .f64 a3_5]] w fun e w' => ∃ v0_ : Value, e = .returned (.tuple #[v0_, .bool r2]) ∧ Kd.R k54 54 w' w.heap.size (fun _ => True) v0_ r1 ∧ Below w.heap.size w w' := by
  have hu31 := Try.underlying31; have hu35 := Try.underlying35; have HR0_0 := zC.mk hr0_0; have HC0_0 := zC.mk hc0_0; clear hr0_0 hc0_0; have HR0_1 := zC.mk hr0_1; have HC0_1 := zC.mk hc0_1; clear hr0_1 hc0_1; have HB := zC.mk (Below.refl w.heap.size w); have H : (if a3_2 = 1 then ((best_Break.f k l0_0 l0_1 a1 a2 a3_0 a3_1 a3_2 a3_3 a3_4 a3_5).bind fun bt249 => (if bt249.2 = true then (some (bt249.1, false)) else ((first_Break.f k l0_0 l0_1 a1 a2 a3_0 a3_1 a3_2 a3_3 a3_4 a3_5).bind fun t253 => (some (t253, (a3_2 == 1)))))) else ((first_Break.f k l0_0 l0_1 a1 a2 a3_0 a3_1 a3_2 a3_3 a3_4 a3_5).bind fun t256 => (some (t256, (a3_2 == 1))))) = some (r1, r2) := h
  clear h; by_cases c5 : a3_2 = 1
  rotate_left
  · rw [if_neg c5] at H
    have c5b0 : (a3_2 == 1) = false := beq_eq_false_iff_ne.mpr c5
    have c5b1 : (a3_2 != 1) = true := bne_iff_ne.mpr c5
    replace H := Option.bind_eq_some_iff.mp H; obtain ⟨t256, A230, H⟩ := H; replace H : (some (t256, (a3_2 == 1))) = some (r1, r2) := H; have A23 := zC.mk A230; clear A230; simp only [Option.some.injEq, Prod.mk.injEq] at H; obtain ⟨rfl, rfl⟩ := H; go_enter Try.func19, Try.ntmps19
    try go_wp2_with (first | ((with_reducible refine gate_dst (N := 4) rfl ?_); refine box_event ?hg (N := 4) ?hd (cs := #[.slice A0_0 l0_0.length c0_0, .slice A0_1 l0_1.length c0_1]) (t := 31) ?hr ?_; (case hd => rfl); (case hg => rfl); (case hr => first | (go_simp; done) | (go_simp; rfl)); intro gb247 hg w24 hbox hb; have n0_ := zC.mk (zQ (by repeat (first | (with_reducible first | exact HB.out | apply zJ | apply zG | apply zI) | exact HB.out)) hb); have n1_ := zC.mk (hbox); have n2_ := zC.mk ((by rw [hg]; exact (zP (by repeat (first | (with_reducible first | exact HB.out | apply zJ | apply zG | apply zI) | exact HB.out))) : w.heap.size ≤ gb247)); have n3_ := zC.mk ((by rw [hg]; exact (zP (by repeat (first | (with_reducible first | exact HB.out | apply zJ | apply zG | apply zI) | exact HB.out))) : w.heap.size ≤ gb247)); clear HB; have HB := n0_; have BK247 := n1_; have GW247 := n2_; have GE247 := n3_; clear n0_ n1_ n2_ n3_; clear hb hbox hg) | ((with_reducible refine gate_dst (N := 7) rfl ?_); refine box_event ?hg (N := 7) ?hd (cs := #[.int .i64 a3_0, .int .i64 a3_1, .int .u8 a3_2, .int .i64 a3_3, .int .i64 a3_4, .float .f64 a3_5]) (t := 35) ?hr ?_; (case hd => rfl); (case hg => rfl); (case hr => first | (go_simp; done) | (go_simp; rfl)); intro gb248 hg w25 hbox hb; have n0_ := zC.mk (zK (g := gb247) (o := .cells #[.slice A0_0 l0_0.length c0_0, .slice A0_1 l0_1.length c0_1] 31 (0, 0)) (by (with_reducible repeat (first | refine zB ?_ _ | refine zD ?_ | refine zA ?_ _)); exact BK247.out) hb); have n1_ := zC.mk (zQ (by repeat (first | (with_reducible first | exact HB.out | apply zJ | apply zG | apply zI | refine zE ?_ GE247.out) | exact HB.out)) hb); have n2_ := zC.mk (hbox); have n3_ := zC.mk ((by rw [hg]; exact (zP (by repeat (first | (with_reducible first | exact HB.out | apply zJ | apply zG | apply zI | refine zE ?_ GE247.out) | exact HB.out))) : w.heap.size ≤ gb248)); have n4_ := zC.mk ((by rw [hg]; exact (zP (by repeat (first | (with_reducible first | exact HB.out | apply zJ | apply zG | apply zI | refine zE ?_ GE247.out) | exact HB.out))) : w.heap.size ≤ gb248)); have n5_ := zC.mk ((by rw [hg]; exact Nat.ne_of_lt (blk_lt (g := gb247) (o := .cells #[.slice A0_0 l0_0.length c0_0, .slice A0_1 l0_1.length c0_1] 31 (0, 0)) (by (with_reducible repeat (first | refine zB ?_ _ | refine zD ?_ | refine zA ?_ _)); exact BK247.out)) : gb247 ≠ gb248)); have n6_ := zC.mk ((by rw [hg]; exact Nat.ne_of_gt (blk_lt (g := gb247) (o := .cells #[.slice A0_0 l0_0.length c0_0, .slice A0_1 l0_1.length c0_1] 31 (0, 0)) (by (with_reducible repeat (first | refine zB ?_ _ | refine zD ?_ | refine zA ?_ _)); exact BK247.out)) : gb248 ≠ gb247)); clear BK247; clear HB; have BK247 := n0_; have HB := n1_; have BK248 := n2_; have GW248 := n3_; have GE248 := n4_; have NB247_248 := n5_; have NB248_247 := n6_; clear n0_ n1_ n2_ n3_ n4_ n5_ n6_; clear hb hbox hg; have hnb26 := NB248_247.out; have hnc26 := NB247_248.out; have hcz27_0 : w25.cell? ⟨gb248, 0, none⟩ = some (.int .i64 a3_0) := (zF BK248.out 0).trans rfl; have hcz27_1 : w25.cell? ⟨gb248, 1, none⟩ = some (.int .i64 a3_1) := (zF BK248.out 1).trans rfl; have hcz27_2 : w25.cell? ⟨gb248, 2, none⟩ = some (.int .u8 a3_2) := (zF BK248.out 2).trans rfl; have hcz27_3 : w25.cell? ⟨gb248, 3, none⟩ = some (.int .i64 a3_3) := (zF BK248.out 3).trans rfl; have hcz27_4 : w25.cell? ⟨gb248, 4, none⟩ = some (.int .i64 a3_4) := (zF BK248.out 4).trans rfl; have hcz27_5 : w25.cell? ⟨gb248, 5, none⟩ = some (.float .f64 a3_5) := (zF BK248.out 5).trans rfl; have hfz27_0 := zH BK248.out 0; have hfz27_1 := zH BK248.out 1; have hfz27_2 := zH BK248.out 2; have hfz27_3 := zH BK248.out 3; have hfz27_4 := zH BK248.out 4; have hfz27_5 := zH BK248.out 5))
    have n0_ := zC.mk (zD BK247.out); have n1_ := zC.mk (zD BK248.out); have n2_ := zC.mk (zI HB.out); clear BK247; clear BK248; clear HB; have BK247 := n0_; have BK248 := n1_; have HB := n2_; clear n0_ n1_ n2_; refine start_ (n := 10) (S := fun w' => w'.cell? ⟨gb247, 0, none⟩ = some (.slice A0_0 l0_0.length c0_0) ∧ w'.cell? ⟨gb247, 1, none⟩ = some (.slice A0_1 l0_1.length c0_1) ∧ w'.cell? ⟨gb248, 0, none⟩ = some (.int .i64 a3_0) ∧ w'.cell? ⟨gb248, 1, none⟩ = some (.int .i64 a3_1) ∧ w'.cell? ⟨gb248, 2, none⟩ = some (.int .u8 a3_2) ∧ w'.cell? ⟨gb248, 3, none⟩ = some (.int .i64 a3_3) ∧ w'.cell? ⟨gb248, 4, none⟩ = some (.int .i64 a3_4) ∧ w'.cell? ⟨gb248, 5, none⟩ = some (.float .f64 a3_5)) (ds := []) #[false, false, false, false, false, false, false, false, false, false] (by kernel_rfl) rfl rfl ⟨(zF BK247.out 0).trans rfl, (zF BK247.out 1).trans rfl, (zF BK248.out 0).trans rfl, (zF BK248.out 1).trans rfl, (zF BK248.out 2).trans rfl, (zF BK248.out 3).trans rfl, (zF BK248.out 4).trans rfl, (zF BK248.out 5).trans rfl⟩ (fun hHeld => ?_); refine with_tabW lines_Part.tab5 lines_Part.bits5 (fun HT_ HW_ => ?_)
    generalize w25.drew = w28 at BK247 BK248 HB hHeld ⊢
    refine pure_ (i := 1) (N := some 26) (v := ?_) (a' := ?_) #[false, true, false, false, false, false, false, false, false, false] rfl rfl (zN HT_.out (by kernel_rfl)) (fun _ _ _ h => h) (Or.inl ⟨by rfl, ?_⟩) ?_ ?_
    rotate_left
    · intro w'
      go_simp
      with_reducible rfl
    rotate_left
    · simp only [Act.put, sA_, sB_, sC_, zL, zM]
      rfl
    refine pure_ (i := 2) (N := some 27) (v := ?_) (a' := ?_) #[false, true, true, false, false, false, false, false, false, false] rfl rfl (zN HT_.out (by kernel_rfl)) (fun _ _ _ h => h) (Or.inl ⟨by rfl, ?_⟩) ?_ ?_
    rotate_left
    · intro w'
      go_simp
      with_reducible rfl
    rotate_left
    · simp only [Act.put, sA_, sB_, sC_, zL, zM]
      rfl
    refine pure_ (i := 5) (N := some 30) (v := ?_) (a' := ?_) #[false, true, true, false, false, true, false, false, false, false] rfl rfl (zN HT_.out (by kernel_rfl)) (fun _ _ _ h => h) (Or.inl ⟨by rfl, ?_⟩) ?_ ?_
    rotate_left
    · intro w'
      go_simp
      with_reducible rfl
    rotate_left
    · simp only [Act.put, sA_, sB_, sC_, zL, zM]
      rfl
    refine take_ (i := 0) (N := some 25) (v := ?_) (a' := ?_) #[true, true, true, false, false, true, false, false, false, false] rfl rfl (take_ofW HT_.out HW_.out (by kernel_rfl)) (fun _ _ _ h => h) (Or.inl ⟨by rfl, ?_⟩) hHeld ?_ ?_
    rotate_left
    · rintro w' ⟨s0, s1, s2, s3, s4, s5, s6, s7⟩
      go_simp
      with_reducible rfl
    rotate_left
    · simp only [Act.put, sA_, sB_, sC_, zL, zM]
      rfl
    refine take_ (i := 3) (N := some 28) (v := ?_) (a' := ?_) #[true, true, true, true, false, true, false, false, false, false] rfl rfl (take_ofW HT_.out HW_.out (by kernel_rfl)) (fun _ _ _ h => h) (Or.inl ⟨by rfl, ?_⟩) hHeld ?_ ?_
    rotate_left
    · rintro w' ⟨s0, s1, s2, s3, s4, s5, s6, s7⟩
      go_simp
      with_reducible rfl
    rotate_left
    · simp only [Act.put, sA_, sB_, sC_, zL, zM]
      rfl
    refine take_ (i := 6) (N := some 31) (v := ?_) (a' := ?_) #[true, true, true, true, false, true, true, false, false, false] rfl rfl (take_ofW HT_.out HW_.out (by kernel_rfl)) (fun _ _ _ h => h) (Or.inl ⟨by rfl, ?_⟩) hHeld ?_ ?_
    rotate_left
    · rintro w' ⟨s0, s1, s2, s3, s4, s5, s6, s7⟩
      go_simp
      with_reducible rfl
    rotate_left
    · simp only [Act.put, sA_, sB_, sC_, zL, zM]
      rfl
    refine pure_ (i := 7) (N := some 32) (v := ?_) (a' := ?_) #[true, true, true, true, false, true, true, true, false, false] rfl rfl (zN HT_.out (by kernel_rfl)) (fun _ _ _ h => h) (Or.inl ⟨by rfl, ?_⟩) ?_ ?_
    rotate_left
    · intro w'
      go_simp
      with_reducible rfl
    rotate_left
    · simp only [Act.put, sA_, sB_, sC_, zL, zM]
      rfl
    refine one_ (i := 4) (N := some 29) #[true, true, true, true, true, true, true, true, false, false] rfl rfl (one_of HT_.out (by kernel_rfl)) (by decide) (fun K hK => ?_)
    refine goes_ Try.func20 (by kernel_rfl) rfl #[.agg #[.slice A0_0 l0_0.length c0_0, .slice A0_1 l0_1.length c0_1], .int .i64 a1, .int .i64 a2, .agg #[.int .i64 a3_0, .int .i64 a3_1, .int .u8 a3_2, .int .i64 a3_3, .int .i64 a3_4, .float .f64 a3_5]] (by rfl) rfl rfl (by (try simp only [List.map_toArray, List.map_cons, List.map_nil]); first | done | rfl | (simp only [List.length_drop, List.length_take]; rfl)) ?_
    with_reducible refine (first_Break.calls k _ _ l0_0 _ _ l0_1 a1 a2 a3_0 a3_1 a3_2 a3_3 a3_4 a3_5 t256 _ ?side1 ?side2 ?side3 ?side4 A23.out).mono ?_
    (case side1 => repeat (first | exact (Kd.C_below HR0_0.out HB.out) | (with_reducible refine Kd.C_alloc ?_ _) | (with_reducible refine Kd.C_drewN ?_ _) | (with_reducible refine Kd.C_drew ?_)))
    (case side2 => exact HC0_0.out)
    (case side3 => repeat (first | exact (Kd.C_below HR0_1.out HB.out) | (with_reducible refine Kd.C_alloc ?_ _) | (with_reducible refine Kd.C_drewN ?_ _) | (with_reducible refine Kd.C_drew ?_)))
    (case side4 => exact HC0_1.out)
    rintro e w29 ⟨v257, rfl, ho0, hb⟩
    refine ⟨_, rfl, ?_⟩
    have n0_ := zC.mk (Kd.R_lower ho0 (zP (by repeat (first | (with_reducible first | exact HB.out | apply zJ | apply zG | apply zI | refine zE ?_ GE247.out | refine zE ?_ GE248.out) | exact HB.out))))
    have n1_ := zC.mk (zK (g := gb247) (o := .cells #[.slice A0_0 l0_0.length c0_0, .slice A0_1 l0_1.length c0_1] 31 (0, 0)) (by (with_reducible repeat (first | refine zB ?_ _ | refine zD ?_ | refine zA ?_ _)); exact BK247.out) hb)
    have n2_ := zC.mk (zK (g := gb248) (o := .cells #[.int .i64 a3_0, .int .i64 a3_1, .int .u8 a3_2, .int .i64 a3_3, .int .i64 a3_4, .float .f64 a3_5] 35 (0, 0)) (by (with_reducible repeat (first | refine zB ?_ _ | refine zD ?_ | refine zA ?_ _)); exact BK248.out) hb)
    have n3_ := zC.mk (zQ (by repeat (first | (with_reducible first | exact HB.out | apply zJ | apply zG | apply zI | refine zE ?_ GE247.out | refine zE ?_ GE248.out) | exact HB.out)) hb)
    clear BK247 BK248 HB; have HO258 := n0_; have BK247 := n1_; have BK248 := n2_; have HB := n3_; clear n0_ n1_ n2_ n3_; (try clear hb)
    (try clear hb2)
    (try clear hk)
    (try clear hi)
    (try clear ho0)
    refine hK.out _ _ ⟨(zF BK247.out 0).trans rfl, (zF BK247.out 1).trans rfl, (zF BK248.out 0).trans rfl, (zF BK248.out 1).trans rfl, (zF BK248.out 2).trans rfl, (zF BK248.out 3).trans rfl, (zF BK248.out 4).trans rfl, (zF BK248.out 5).trans rfl⟩ (fun hHeld => ?_)
    clear hK K; refine norm_ (a' := ?_) ?_ ?_
    rotate_left
    · show Act.put _ (some 29) _ = _
      simp only [Act.put, sA_, sB_, sC_, zL, zM]; rfl
    refine pure_ (i := 8) (N := some 8) (v := ?_) (a' := ?_) (tf_ 9 10) rfl rfl (zN HT_.out (by kernel_rfl)) (fun _ _ _ h => h) (Or.inl ⟨by rfl, ?_⟩) ?_ ?_
    rotate_left
    · intro w'
      go_simp
      with_reducible rfl
    rotate_left
    · simp only [Act.put, sA_, sB_, sC_, zL, zM]
      rfl
    refine pure_ (i := 9) (N := some 9) (v := ?_) (a' := ?_) #[true, true, true, true, true, true, true, true, true, true] rfl rfl (zN HT_.out (by kernel_rfl)) (fun _ _ _ h => h) (Or.inl ⟨by rfl, ?_⟩) ?_ ?_
    rotate_left
    · intro w'
      go_simp
      with_reducible rfl
    rotate_left
    · simp only [Act.put, sA_, sB_, sC_, zL, zM]
      rfl
    refine done_ (done_of HT_.out (by kernel_rfl)) ?_
    try go_wp2
    go_ret2
    exact ⟨_, by first | rfl | (simp [errW_none, errW_some] <;> rfl) | (simp [*, errW_none, errW_some] <;> rfl), by (with_reducible repeat (first | apply Kd.R_alloc | apply Kd.R_drewN | apply Kd.R_drew)); exact HO258.out, by repeat (first | (with_reducible first | exact HB.out | apply zJ | apply zG | apply zI | refine zE ?_ GE247.out | refine zE ?_ GE248.out) | exact HB.out)⟩
  rw [if_pos c5] at H; have c5b0 : (a3_2 == 1) = true := beq_iff_eq.mpr c5
  have c5b1 : (a3_2 != 1) = false := bne_eq_false_iff_eq.mpr c5
  clear c5; replace H := Option.bind_eq_some_iff.mp H; obtain ⟨⟨t249, t252⟩, A60, H⟩ := H; replace H : (if t252 = true then (some (t249, false)) else ((first_Break.f k l0_0 l0_1 a1 a2 a3_0 a3_1 a3_2 a3_3 a3_4 a3_5).bind fun t253 => (some (t253, (a3_2 == 1))))) = some (r1, r2) := H
  have A6 := zC.mk A60; clear A60; by_cases c7 : t252 = true
  · subst c7
    have H1 : (some (t249, false)) = some (r1, r2) := by rw [if_pos rfl] at H; exact H
    clear H; have H := H1; clear H1; simp only [Option.some.injEq, Prod.mk.injEq] at H; obtain ⟨rfl, rfl⟩ := H; go_enter Try.func19, Try.ntmps19
    go_wp2_with (first | ((with_reducible refine gate_dst (N := 4) rfl ?_); refine box_event ?hg (N := 4) ?hd (cs := #[.slice A0_0 l0_0.length c0_0, .slice A0_1 l0_1.length c0_1]) (t := 31) ?hr ?_; (case hd => rfl); (case hg => rfl); (case hr => first | (go_simp; done) | (go_simp; rfl)); intro gb247 hg w8 hbox hb; have n0_ := zC.mk (zQ (by repeat (first | (with_reducible first | exact HB.out | apply zJ | apply zG | apply zI) | exact HB.out)) hb); have n1_ := zC.mk (hbox); have n2_ := zC.mk ((by rw [hg]; exact (zP (by repeat (first | (with_reducible first | exact HB.out | apply zJ | apply zG | apply zI) | exact HB.out))) : w.heap.size ≤ gb247)); have n3_ := zC.mk ((by rw [hg]; exact (zP (by repeat (first | (with_reducible first | exact HB.out | apply zJ | apply zG | apply zI) | exact HB.out))) : w.heap.size ≤ gb247)); clear HB; have HB := n0_; have BK247 := n1_; have GW247 := n2_; have GE247 := n3_; clear n0_ n1_ n2_ n3_; clear hb hbox hg) | ((with_reducible refine gate_dst (N := 7) rfl ?_); refine box_event ?hg (N := 7) ?hd (cs := #[.int .i64 a3_0, .int .i64 a3_1, .int .u8 a3_2, .int .i64 a3_3, .int .i64 a3_4, .float .f64 a3_5]) (t := 35) ?hr ?_; (case hd => rfl); (case hg => rfl); (case hr => first | (go_simp; done) | (go_simp; rfl)); intro gb248 hg w9 hbox hb; have n0_ := zC.mk (zK (g := gb247) (o := .cells #[.slice A0_0 l0_0.length c0_0, .slice A0_1 l0_1.length c0_1] 31 (0, 0)) (by (with_reducible repeat (first | refine zB ?_ _ | refine zD ?_ | refine zA ?_ _)); exact BK247.out) hb); have n1_ := zC.mk (zQ (by repeat (first | (with_reducible first | exact HB.out | apply zJ | apply zG | apply zI | refine zE ?_ GE247.out) | exact HB.out)) hb); have n2_ := zC.mk (hbox); have n3_ := zC.mk ((by rw [hg]; exact (zP (by repeat (first | (with_reducible first | exact HB.out | apply zJ | apply zG | apply zI | refine zE ?_ GE247.out) | exact HB.out))) : w.heap.size ≤ gb248)); have n4_ := zC.mk ((by rw [hg]; exact (zP (by repeat (first | (with_reducible first | exact HB.out | apply zJ | apply zG | apply zI | refine zE ?_ GE247.out) | exact HB.out))) : w.heap.size ≤ gb248)); have n5_ := zC.mk ((by rw [hg]; exact Nat.ne_of_lt (blk_lt (g := gb247) (o := .cells #[.slice A0_0 l0_0.length c0_0, .slice A0_1 l0_1.length c0_1] 31 (0, 0)) (by (with_reducible repeat (first | refine zB ?_ _ | refine zD ?_ | refine zA ?_ _)); exact BK247.out)) : gb247 ≠ gb248)); have n6_ := zC.mk ((by rw [hg]; exact Nat.ne_of_gt (blk_lt (g := gb247) (o := .cells #[.slice A0_0 l0_0.length c0_0, .slice A0_1 l0_1.length c0_1] 31 (0, 0)) (by (with_reducible repeat (first | refine zB ?_ _ | refine zD ?_ | refine zA ?_ _)); exact BK247.out)) : gb248 ≠ gb247)); clear BK247; clear HB; have BK247 := n0_; have HB := n1_; have BK248 := n2_; have GW248 := n3_; have GE248 := n4_; have NB247_248 := n5_; have NB248_247 := n6_; clear n0_ n1_ n2_ n3_ n4_ n5_ n6_; clear hb hbox hg; have hnb10 := NB248_247.out; have hnc10 := NB247_248.out; have hcz11_0 : w9.cell? ⟨gb248, 0, none⟩ = some (.int .i64 a3_0) := (zF BK248.out 0).trans rfl; have hcz11_1 : w9.cell? ⟨gb248, 1, none⟩ = some (.int .i64 a3_1) := (zF BK248.out 1).trans rfl; have hcz11_2 : w9.cell? ⟨gb248, 2, none⟩ = some (.int .u8 a3_2) := (zF BK248.out 2).trans rfl; have hcz11_3 : w9.cell? ⟨gb248, 3, none⟩ = some (.int .i64 a3_3) := (zF BK248.out 3).trans rfl; have hcz11_4 : w9.cell? ⟨gb248, 4, none⟩ = some (.int .i64 a3_4) := (zF BK248.out 4).trans rfl; have hcz11_5 : w9.cell? ⟨gb248, 5, none⟩ = some (.float .f64 a3_5) := (zF BK248.out 5).trans rfl; have hfz11_0 := zH BK248.out 0; have hfz11_1 := zH BK248.out 1; have hfz11_2 := zH BK248.out 2; have hfz11_3 := zH BK248.out 3; have hfz11_4 := zH BK248.out 4; have hfz11_5 := zH BK248.out 5; have hcz12_0 : w9.cell? ⟨gb247, 0, none⟩ = some (.slice A0_0 l0_0.length c0_0) := (zF BK247.out 0).trans rfl; have hcz12_1 : w9.cell? ⟨gb247, 1, none⟩ = some (.slice A0_1 l0_1.length c0_1) := (zF BK247.out 1).trans rfl; have hfz12_0 := zH BK247.out 0; have hfz12_1 := zH BK247.out 1) | ((with_reducible refine gate_callee (f := 21) rfl ?_); refine goesL_ (some 20) rfl rfl Try.func21 (by kernel_rfl) rfl #[.agg #[.slice A0_0 l0_0.length c0_0, .slice A0_1 l0_1.length c0_1], .int .i64 a1, .int .i64 a2, .agg #[.int .i64 a3_0, .int .i64 a3_1, .int .u8 a3_2, .int .i64 a3_3, .int .i64 a3_4, .float .f64 a3_5]] rfl (by (try simp only [List.map_toArray, List.map_cons, List.map_nil]); first | done | rfl | (simp only [List.length_drop, List.length_take]; rfl)) ?_; (with_reducible refine (best_Break.calls k _ _ l0_0 _ _ l0_1 a1 a2 a3_0 a3_1 a3_2 a3_3 a3_4 a3_5 t249 true _ ?side1 ?side2 ?side3 ?side4 A6.out).mono ?_); (case side1 => repeat (first | exact (Kd.C_below HR0_0.out HB.out) | (with_reducible refine Kd.C_alloc ?_ _) | (with_reducible refine Kd.C_drewN ?_ _) | (with_reducible refine Kd.C_drew ?_))); (case side2 => exact HC0_0.out); (case side3 => repeat (first | exact (Kd.C_below HR0_1.out HB.out) | (with_reducible refine Kd.C_alloc ?_ _) | (with_reducible refine Kd.C_drewN ?_ _) | (with_reducible refine Kd.C_drew ?_))); (case side4 => exact HC0_1.out); rintro e w13 ⟨v250, rfl, ho0, hb⟩; refine ⟨_, rfl, ?_⟩; have n0_ := zC.mk (Kd.R_lower ho0 (zP (by repeat (first | (with_reducible first | exact HB.out | apply zJ | apply zG | apply zI | refine zE ?_ GE247.out | refine zE ?_ GE248.out) | exact HB.out)))); have n1_ := zC.mk (zK (g := gb247) (o := .cells #[.slice A0_0 l0_0.length c0_0, .slice A0_1 l0_1.length c0_1] 31 (0, 0)) (by (with_reducible repeat (first | refine zB ?_ _ | refine zD ?_ | refine zA ?_ _)); exact BK247.out) hb); have n2_ := zC.mk (zK (g := gb248) (o := .cells #[.int .i64 a3_0, .int .i64 a3_1, .int .u8 a3_2, .int .i64 a3_3, .int .i64 a3_4, .float .f64 a3_5] 35 (0, 0)) (by (with_reducible repeat (first | refine zB ?_ _ | refine zD ?_ | refine zA ?_ _)); exact BK248.out) hb); have n3_ := zC.mk (zQ (by repeat (first | (with_reducible first | exact HB.out | apply zJ | apply zG | apply zI | refine zE ?_ GE247.out | refine zE ?_ GE248.out) | exact HB.out)) hb); clear BK247; clear BK248; clear HB; have HO251 := n0_; have BK247 := n1_; have BK248 := n2_; have HB := n3_; clear n0_ n1_ n2_ n3_; (try clear hb); (try clear hb2); (try clear hk); (try clear hi); (try clear ho0)))
    go_ret2
    exact ⟨_, by first | rfl | (simp [errW_none, errW_some] <;> rfl) | (simp [*, errW_none, errW_some] <;> rfl), by (with_reducible repeat (first | apply Kd.R_alloc | apply Kd.R_drewN | apply Kd.R_drew)); exact HO251.out, by repeat (first | (with_reducible first | exact HB.out | apply zJ | apply zG | apply zI | refine zE ?_ GE247.out | refine zE ?_ GE248.out) | exact HB.out)⟩
  replace c7 := Bool.eq_false_iff.mpr c7; subst c7; have H1 : ((first_Break.f k l0_0 l0_1 a1 a2 a3_0 a3_1 a3_2 a3_3 a3_4 a3_5).bind fun t253 => (some (t253, (a3_2 == 1)))) = some (r1, r2) := by rw [if_neg (show ¬ (false = true) by decide)] at H; exact H
  clear H; have H := H1; clear H1; replace H := Option.bind_eq_some_iff.mp H; obtain ⟨t253, A140, H⟩ := H; replace H : (some (t253, (a3_2 == 1))) = some (r1, r2) := H; have A14 := zC.mk A140; clear A140; simp only [Option.some.injEq, Prod.mk.injEq] at H; obtain ⟨rfl, rfl⟩ := H; go_enter Try.func19, Try.ntmps19
  try go_wp2_with (first | ((with_reducible refine gate_dst (N := 4) rfl ?_); refine box_event ?hg (N := 4) ?hd (cs := #[.slice A0_0 l0_0.length c0_0, .slice A0_1 l0_1.length c0_1]) (t := 31) ?hr ?_; (case hd => rfl); (case hg => rfl); (case hr => first | (go_simp; done) | (go_simp; rfl)); intro gb247 hg w15 hbox hb; have n0_ := zC.mk (zQ (by repeat (first | (with_reducible first | exact HB.out | apply zJ | apply zG | apply zI) | exact HB.out)) hb); have n1_ := zC.mk (hbox); have n2_ := zC.mk ((by rw [hg]; exact (zP (by repeat (first | (with_reducible first | exact HB.out | apply zJ | apply zG | apply zI) | exact HB.out))) : w.heap.size ≤ gb247)); have n3_ := zC.mk ((by rw [hg]; exact (zP (by repeat (first | (with_reducible first | exact HB.out | apply zJ | apply zG | apply zI) | exact HB.out))) : w.heap.size ≤ gb247)); clear HB; have HB := n0_; have BK247 := n1_; have GW247 := n2_; have GE247 := n3_; clear n0_ n1_ n2_ n3_; clear hb hbox hg) | ((with_reducible refine gate_dst (N := 7) rfl ?_); refine box_event ?hg (N := 7) ?hd (cs := #[.int .i64 a3_0, .int .i64 a3_1, .int .u8 a3_2, .int .i64 a3_3, .int .i64 a3_4, .float .f64 a3_5]) (t := 35) ?hr ?_; (case hd => rfl); (case hg => rfl); (case hr => first | (go_simp; done) | (go_simp; rfl)); intro gb248 hg w16 hbox hb; have n0_ := zC.mk (zK (g := gb247) (o := .cells #[.slice A0_0 l0_0.length c0_0, .slice A0_1 l0_1.length c0_1] 31 (0, 0)) (by (with_reducible repeat (first | refine zB ?_ _ | refine zD ?_ | refine zA ?_ _)); exact BK247.out) hb); have n1_ := zC.mk (zQ (by repeat (first | (with_reducible first | exact HB.out | apply zJ | apply zG | apply zI | refine zE ?_ GE247.out) | exact HB.out)) hb); have n2_ := zC.mk (hbox); have n3_ := zC.mk ((by rw [hg]; exact (zP (by repeat (first | (with_reducible first | exact HB.out | apply zJ | apply zG | apply zI | refine zE ?_ GE247.out) | exact HB.out))) : w.heap.size ≤ gb248)); have n4_ := zC.mk ((by rw [hg]; exact (zP (by repeat (first | (with_reducible first | exact HB.out | apply zJ | apply zG | apply zI | refine zE ?_ GE247.out) | exact HB.out))) : w.heap.size ≤ gb248)); have n5_ := zC.mk ((by rw [hg]; exact Nat.ne_of_lt (blk_lt (g := gb247) (o := .cells #[.slice A0_0 l0_0.length c0_0, .slice A0_1 l0_1.length c0_1] 31 (0, 0)) (by (with_reducible repeat (first | refine zB ?_ _ | refine zD ?_ | refine zA ?_ _)); exact BK247.out)) : gb247 ≠ gb248)); have n6_ := zC.mk ((by rw [hg]; exact Nat.ne_of_gt (blk_lt (g := gb247) (o := .cells #[.slice A0_0 l0_0.length c0_0, .slice A0_1 l0_1.length c0_1] 31 (0, 0)) (by (with_reducible repeat (first | refine zB ?_ _ | refine zD ?_ | refine zA ?_ _)); exact BK247.out)) : gb248 ≠ gb247)); clear BK247; clear HB; have BK247 := n0_; have HB := n1_; have BK248 := n2_; have GW248 := n3_; have GE248 := n4_; have NB247_248 := n5_; have NB248_247 := n6_; clear n0_ n1_ n2_ n3_ n4_ n5_ n6_; clear hb hbox hg; have hnb17 := NB248_247.out; have hnc17 := NB247_248.out; have hcz18_0 : w16.cell? ⟨gb248, 0, none⟩ = some (.int .i64 a3_0) := (zF BK248.out 0).trans rfl; have hcz18_1 : w16.cell? ⟨gb248, 1, none⟩ = some (.int .i64 a3_1) := (zF BK248.out 1).trans rfl; have hcz18_2 : w16.cell? ⟨gb248, 2, none⟩ = some (.int .u8 a3_2) := (zF BK248.out 2).trans rfl; have hcz18_3 : w16.cell? ⟨gb248, 3, none⟩ = some (.int .i64 a3_3) := (zF BK248.out 3).trans rfl; have hcz18_4 : w16.cell? ⟨gb248, 4, none⟩ = some (.int .i64 a3_4) := (zF BK248.out 4).trans rfl; have hcz18_5 : w16.cell? ⟨gb248, 5, none⟩ = some (.float .f64 a3_5) := (zF BK248.out 5).trans rfl; have hfz18_0 := zH BK248.out 0; have hfz18_1 := zH BK248.out 1; have hfz18_2 := zH BK248.out 2; have hfz18_3 := zH BK248.out 3; have hfz18_4 := zH BK248.out 4; have hfz18_5 := zH BK248.out 5; have hcz19_0 : w16.cell? ⟨gb247, 0, none⟩ = some (.slice A0_0 l0_0.length c0_0) := (zF BK247.out 0).trans rfl; have hcz19_1 : w16.cell? ⟨gb247, 1, none⟩ = some (.slice A0_1 l0_1.length c0_1) := (zF BK247.out 1).trans rfl; have hfz19_0 := zH BK247.out 0; have hfz19_1 := zH BK247.out 1) | ((with_reducible refine gate_callee (f := 21) rfl ?_); refine goesL_ (some 20) rfl rfl Try.func21 (by kernel_rfl) rfl #[.agg #[.slice A0_0 l0_0.length c0_0, .slice A0_1 l0_1.length c0_1], .int .i64 a1, .int .i64 a2, .agg #[.int .i64 a3_0, .int .i64 a3_1, .int .u8 a3_2, .int .i64 a3_3, .int .i64 a3_4, .float .f64 a3_5]] rfl (by (try simp only [List.map_toArray, List.map_cons, List.map_nil]); first | done | rfl | (simp only [List.length_drop, List.length_take]; rfl)) ?_; (with_reducible refine (best_Break.calls k _ _ l0_0 _ _ l0_1 a1 a2 a3_0 a3_1 a3_2 a3_3 a3_4 a3_5 t249 false _ ?side1 ?side2 ?side3 ?side4 A6.out).mono ?_); (case side1 => repeat (first | exact (Kd.C_below HR0_0.out HB.out) | (with_reducible refine Kd.C_alloc ?_ _) | (with_reducible refine Kd.C_drewN ?_ _) | (with_reducible refine Kd.C_drew ?_))); (case side2 => exact HC0_0.out); (case side3 => repeat (first | exact (Kd.C_below HR0_1.out HB.out) | (with_reducible refine Kd.C_alloc ?_ _) | (with_reducible refine Kd.C_drewN ?_ _) | (with_reducible refine Kd.C_drew ?_))); (case side4 => exact HC0_1.out); rintro e w20 ⟨v250, rfl, ho0, hb⟩; refine ⟨_, rfl, ?_⟩; have n0_ := zC.mk (Kd.R_lower ho0 (zP (by repeat (first | (with_reducible first | exact HB.out | apply zJ | apply zG | apply zI | refine zE ?_ GE247.out | refine zE ?_ GE248.out) | exact HB.out)))); have n1_ := zC.mk (zK (g := gb247) (o := .cells #[.slice A0_0 l0_0.length c0_0, .slice A0_1 l0_1.length c0_1] 31 (0, 0)) (by (with_reducible repeat (first | refine zB ?_ _ | refine zD ?_ | refine zA ?_ _)); exact BK247.out) hb); have n2_ := zC.mk (zK (g := gb248) (o := .cells #[.int .i64 a3_0, .int .i64 a3_1, .int .u8 a3_2, .int .i64 a3_3, .int .i64 a3_4, .float .f64 a3_5] 35 (0, 0)) (by (with_reducible repeat (first | refine zB ?_ _ | refine zD ?_ | refine zA ?_ _)); exact BK248.out) hb); have n3_ := zC.mk (zQ (by repeat (first | (with_reducible first | exact HB.out | apply zJ | apply zG | apply zI | refine zE ?_ GE247.out | refine zE ?_ GE248.out) | exact HB.out)) hb); clear BK247; clear BK248; clear HB; have HO251 := n0_; have BK247 := n1_; have BK248 := n2_; have HB := n3_; clear n0_ n1_ n2_ n3_; (try clear hb); (try clear hb2); (try clear hk); (try clear hi); (try clear ho0)))
  have n0_ := zC.mk (Kd.R_drew HO251.out); have n1_ := zC.mk (zD BK247.out); have n2_ := zC.mk (zD BK248.out); have n3_ := zC.mk (zI HB.out); clear HO251; clear BK247; clear BK248; clear HB; have HO251 := n0_; have BK247 := n1_; have BK248 := n2_; have HB := n3_; clear n0_ n1_ n2_ n3_; refine start_ (n := 10) (S := fun w' => w'.cell? ⟨gb247, 0, none⟩ = some (.slice A0_0 l0_0.length c0_0) ∧ w'.cell? ⟨gb247, 1, none⟩ = some (.slice A0_1 l0_1.length c0_1) ∧ w'.cell? ⟨gb248, 0, none⟩ = some (.int .i64 a3_0) ∧ w'.cell? ⟨gb248, 1, none⟩ = some (.int .i64 a3_1) ∧ w'.cell? ⟨gb248, 2, none⟩ = some (.int .u8 a3_2) ∧ w'.cell? ⟨gb248, 3, none⟩ = some (.int .i64 a3_3) ∧ w'.cell? ⟨gb248, 4, none⟩ = some (.int .i64 a3_4) ∧ w'.cell? ⟨gb248, 5, none⟩ = some (.float .f64 a3_5)) (ds := []) #[false, false, false, false, false, false, false, false, false, false] (by kernel_rfl) rfl rfl ⟨(zF BK247.out 0).trans rfl, (zF BK247.out 1).trans rfl, (zF BK248.out 0).trans rfl, (zF BK248.out 1).trans rfl, (zF BK248.out 2).trans rfl, (zF BK248.out 3).trans rfl, (zF BK248.out 4).trans rfl, (zF BK248.out 5).trans rfl⟩ (fun hHeld => ?_); refine with_tabW lines_Part.tab5 lines_Part.bits5 (fun HT_ HW_ => ?_)
  generalize w20.drew = w21 at HO251 BK247 BK248 HB hHeld ⊢
  refine pure_ (i := 1) (N := some 26) (v := ?_) (a' := ?_) #[false, true, false, false, false, false, false, false, false, false] rfl rfl (zN HT_.out (by kernel_rfl)) (fun _ _ _ h => h) (Or.inl ⟨by rfl, ?_⟩) ?_ ?_
  rotate_left
  · intro w'
    go_simp
    with_reducible rfl
  rotate_left
  · simp only [Act.put, sA_, sB_, sC_, zL, zM]
    rfl
  refine pure_ (i := 2) (N := some 27) (v := ?_) (a' := ?_) #[false, true, true, false, false, false, false, false, false, false] rfl rfl (zN HT_.out (by kernel_rfl)) (fun _ _ _ h => h) (Or.inl ⟨by rfl, ?_⟩) ?_ ?_
  rotate_left
  · intro w'
    go_simp
    with_reducible rfl
  rotate_left
  · simp only [Act.put, sA_, sB_, sC_, zL, zM]
    rfl
  refine pure_ (i := 5) (N := some 30) (v := ?_) (a' := ?_) #[false, true, true, false, false, true, false, false, false, false] rfl rfl (zN HT_.out (by kernel_rfl)) (fun _ _ _ h => h) (Or.inl ⟨by rfl, ?_⟩) ?_ ?_
  rotate_left
  · intro w'
    go_simp
    with_reducible rfl
  rotate_left
  · simp only [Act.put, sA_, sB_, sC_, zL, zM]
    rfl
  refine take_ (i := 0) (N := some 25) (v := ?_) (a' := ?_) #[true, true, true, false, false, true, false, false, false, false] rfl rfl (take_ofW HT_.out HW_.out (by kernel_rfl)) (fun _ _ _ h => h) (Or.inl ⟨by rfl, ?_⟩) hHeld ?_ ?_
  rotate_left
  · rintro w' ⟨s0, s1, s2, s3, s4, s5, s6, s7⟩
    go_simp
    with_reducible rfl
  rotate_left
  · simp only [Act.put, sA_, sB_, sC_, zL, zM]
    rfl
  refine take_ (i := 3) (N := some 28) (v := ?_) (a' := ?_) #[true, true, true, true, false, true, false, false, false, false] rfl rfl (take_ofW HT_.out HW_.out (by kernel_rfl)) (fun _ _ _ h => h) (Or.inl ⟨by rfl, ?_⟩) hHeld ?_ ?_
  rotate_left
  · rintro w' ⟨s0, s1, s2, s3, s4, s5, s6, s7⟩
    go_simp
    with_reducible rfl
  rotate_left
  · simp only [Act.put, sA_, sB_, sC_, zL, zM]
    rfl
  refine take_ (i := 6) (N := some 31) (v := ?_) (a' := ?_) #[true, true, true, true, false, true, true, false, false, false] rfl rfl (take_ofW HT_.out HW_.out (by kernel_rfl)) (fun _ _ _ h => h) (Or.inl ⟨by rfl, ?_⟩) hHeld ?_ ?_
  rotate_left
  · rintro w' ⟨s0, s1, s2, s3, s4, s5, s6, s7⟩
    go_simp
    with_reducible rfl
  rotate_left
  · simp only [Act.put, sA_, sB_, sC_, zL, zM]
    rfl
  refine pure_ (i := 7) (N := some 32) (v := ?_) (a' := ?_) #[true, true, true, true, false, true, true, true, false, false] rfl rfl (zN HT_.out (by kernel_rfl)) (fun _ _ _ h => h) (Or.inl ⟨by rfl, ?_⟩) ?_ ?_
  rotate_left
  · intro w'
    go_simp
    with_reducible rfl
  rotate_left
  · simp only [Act.put, sA_, sB_, sC_, zL, zM]
    rfl
  refine one_ (i := 4) (N := some 29) #[true, true, true, true, true, true, true, true, false, false] rfl rfl (one_of HT_.out (by kernel_rfl)) (by decide) (fun K hK => ?_)
  refine goes_ Try.func20 (by kernel_rfl) rfl #[.agg #[.slice A0_0 l0_0.length c0_0, .slice A0_1 l0_1.length c0_1], .int .i64 a1, .int .i64 a2, .agg #[.int .i64 a3_0, .int .i64 a3_1, .int .u8 a3_2, .int .i64 a3_3, .int .i64 a3_4, .float .f64 a3_5]] (by rfl) rfl rfl (by (try simp only [List.map_toArray, List.map_cons, List.map_nil]); first | done | rfl | (simp only [List.length_drop, List.length_take]; rfl)) ?_
  with_reducible refine (first_Break.calls k _ _ l0_0 _ _ l0_1 a1 a2 a3_0 a3_1 a3_2 a3_3 a3_4 a3_5 t253 _ ?side1 ?side2 ?side3 ?side4 A14.out).mono ?_
  (case side1 => repeat (first | exact (Kd.C_below HR0_0.out HB.out) | (with_reducible refine Kd.C_alloc ?_ _) | (with_reducible refine Kd.C_drewN ?_ _) | (with_reducible refine Kd.C_drew ?_)))
  (case side2 => exact HC0_0.out)
  (case side3 => repeat (first | exact (Kd.C_below HR0_1.out HB.out) | (with_reducible refine Kd.C_alloc ?_ _) | (with_reducible refine Kd.C_drewN ?_ _) | (with_reducible refine Kd.C_drew ?_)))
  (case side4 => exact HC0_1.out)
  rintro e w22 ⟨v254, rfl, ho0, hb⟩
  refine ⟨_, rfl, ?_⟩
  have n0_ := zC.mk (Kd.R_elder' (by (with_reducible repeat (first | apply Kd.R_alloc | apply Kd.R_drewN | apply Kd.R_drew)); exact HO251.out) (Kd.R_base ho0) hb)
  have n1_ := zC.mk (Kd.R_lower (Kd.R_new' ho0 (Kd.R_lt (by (with_reducible repeat (first | apply Kd.R_alloc | apply Kd.R_drewN | apply Kd.R_drew)); exact HO251.out))) (zP (by repeat (first | (with_reducible first | exact HB.out | apply zJ | apply zG | apply zI | refine zE ?_ GE247.out | refine zE ?_ GE248.out) | exact HB.out))))
  have n2_ := zC.mk (zK (g := gb247) (o := .cells #[.slice A0_0 l0_0.length c0_0, .slice A0_1 l0_1.length c0_1] 31 (0, 0)) (by (with_reducible repeat (first | refine zB ?_ _ | refine zD ?_ | refine zA ?_ _)); exact BK247.out) hb)
  have n3_ := zC.mk (zK (g := gb248) (o := .cells #[.int .i64 a3_0, .int .i64 a3_1, .int .u8 a3_2, .int .i64 a3_3, .int .i64 a3_4, .float .f64 a3_5] 35 (0, 0)) (by (with_reducible repeat (first | refine zB ?_ _ | refine zD ?_ | refine zA ?_ _)); exact BK248.out) hb)
  have n4_ := zC.mk (zQ (by repeat (first | (with_reducible first | exact HB.out | apply zJ | apply zG | apply zI | refine zE ?_ GE247.out | refine zE ?_ GE248.out) | exact HB.out)) hb)
  clear HO251 BK247 BK248 HB; have HO251 := n0_; have HO255 := n1_; have BK247 := n2_; have BK248 := n3_; have HB := n4_; clear n0_ n1_ n2_ n3_ n4_; (try clear hb)
  (try clear hb2)
  (try clear hk)
  (try clear hi)
  (try clear ho0)
  refine hK.out _ _ ⟨(zF BK247.out 0).trans rfl, (zF BK247.out 1).trans rfl, (zF BK248.out 0).trans rfl, (zF BK248.out 1).trans rfl, (zF BK248.out 2).trans rfl, (zF BK248.out 3).trans rfl, (zF BK248.out 4).trans rfl, (zF BK248.out 5).trans rfl⟩ (fun hHeld => ?_)
  clear hK K; refine norm_ (a' := ?_) ?_ ?_
  rotate_left
  · show Act.put _ (some 29) _ = _
    simp only [Act.put, sA_, sB_, sC_, zL, zM]; rfl
  refine pure_ (i := 8) (N := some 8) (v := ?_) (a' := ?_) (tf_ 9 10) rfl rfl (zN HT_.out (by kernel_rfl)) (fun _ _ _ h => h) (Or.inl ⟨by rfl, ?_⟩) ?_ ?_
  rotate_left
  · intro w'
    go_simp
    with_reducible rfl
  rotate_left
  · simp only [Act.put, sA_, sB_, sC_, zL, zM]
    rfl
  refine pure_ (i := 9) (N := some 9) (v := ?_) (a' := ?_) #[true, true, true, true, true, true, true, true, true, true] rfl rfl (zN HT_.out (by kernel_rfl)) (fun _ _ _ h => h) (Or.inl ⟨by rfl, ?_⟩) ?_ ?_
  rotate_left
  · intro w'
    go_simp
    with_reducible rfl
  rotate_left
  · simp only [Act.put, sA_, sB_, sC_, zL, zM]
    rfl
  refine done_ (done_of HT_.out (by kernel_rfl)) ?_
  try go_wp2
  go_ret2
  exact ⟨_, by first | rfl | (simp [errW_none, errW_some] <;> rfl) | (simp [*, errW_none, errW_some] <;> rfl), by (with_reducible repeat (first | apply Kd.R_alloc | apply Kd.R_drewN | apply Kd.R_drew)); exact Kd.R_mono HO255.out (fun _ hk => trivial), by repeat (first | (with_reducible first | exact HB.out | apply zJ | apply zG | apply zI | refine zE ?_ GE247.out | refine zE ?_ GE248.out) | exact HB.out)⟩
end Go.Proofs.Ytcnblneghbgjgaa.F
end
section
namespace Go.Proofs.Ytcnblneghbgjgaa.F
open Go.RowKit Go.Proofs.YtcnblneghbgjgaaW.PrintWords Go.Proofs.YtcnblneghbgjgaaW.PrintLast Go.Proofs.YtcnblneghbgjgaaW.PrintMore
attribute [local go_sem] max2_int min2_int max_two min_two max_three min_three max_four min_four   -- for this text's walks alone
set_option linter.unusedVariables false
set_option linter.unusedSimpArgs false
def lines_Break.l0 : Nat → List (S54) → Bool → Int → List Int → Int → Int → List (S66) → List Int → Int → Int → Int → Int → Int → Nat → Option ((List (S54)) × Bool)
  | 0, _, _, _, _, _, _, _, _, _, _, _, _, _, _ => none
  | k + 1, x6, x7, x8, x14, x15, x16, x260000, x260001, x261000, x261001, x261002, x261003, x261004, x261005 => if x16 < x15 then (if 0 ≤ x16 then (if x16 < (x14.length : Int) then ((lines_Part.f k x260000 x260001 x8 (rd x14 x16) x261000 x261001 x261002 x261003 x261004 x261005).bind fun bt265 => (if x6.length + bt265.1.length < 4398046511104 then ((some (x6 ++ bt265.1 : List (S54))).bind fun y269 => (if x7 = true then (lines_Break.l0 k y269 true (rd x14 x16) x14 x15 (wrap64 (x16 + 1)) x260000 x260001 x261000 x261001 x261002 x261003 x261004 x261005) else (lines_Break.l0 k y269 bt265.2 (rd x14 x16) x14 x15 (wrap64 (x16 + 1)) x260000 x260001 x261000 x261001 x261002 x261003 x261004 x261005))) else (none))) else (none)) else (none)) else (some (x6, x7))
def lines_Break.f (k : Nat) (l0_0 : List (S66)) (l0_1 : List Int) (a1_0 : Int) (a1_1 : Int) (a1_2 : Int) (a1_3 : Int) (a1_4 : Int) (a1_5 : Nat) : Option ((List (S54)) × Bool) := (items_Parts.f k l0_0 l0_1).bind fun t261 => (lines_Break.l0 k ([] : List (S54)) false 0 t261 (t261.length : Int) 0 l0_0 l0_1 a1_0 a1_1 a1_2 a1_3 a1_4 a1_5)
theorem lines_Break.mono_l : ∀ k, (∀ y0 y1 y2 y3 y4 y5 y6 y7 y8 y9 y10 y11 y12 y13, LeO (lines_Break.l0 k y0 y1 y2 y3 y4 y5 y6 y7 y8 y9 y10 y11 y12 y13) (lines_Break.l0 (k + 1) y0 y1 y2 y3 y4 y5 y6 y7 y8 y9 y10 y11 y12 y13))
  | 0 => fun _ _ _ _ _ _ _ _ _ _ _ _ _ _ r h => by simp [lines_Break.l0] at h
  | k + 1 => by
    have ih0 := lines_Break.mono_l k
    · intro y0 y1 y2 y3 y4 y5 y6 y7 y8 y9 y10 y11 y12 y13
      unfold lines_Break.l0
      repeat' first
      | (with_reducible exact ih0 _ _ _ _ _ _ _ _ _ _ _ _ _ _)
      | (with_reducible exact items_Parts.mono _ _ _)
      | (with_reducible exact lines_Part.mono _ _ _ _ _ _ _ _ _ _ _)
      | (with_reducible exact LeO.refl _)
      | (with_reducible exact LeO.none _)
      | (with_reducible refine LeO.ite ?_ ?_)
      | (with_reducible refine LeO.bind ?_ (fun _ => ?_))
      | exact ih0 _ _ _ _ _ _ _ _ _ _ _ _ _ _
      | exact items_Parts.mono _ _ _
      | exact lines_Part.mono _ _ _ _ _ _ _ _ _ _ _
      | exact LeO.none _
      | refine LeO.ite ?_ ?_
      | refine LeO.bind ?_ (fun _ => ?_)
theorem lines_Break.mono : ∀ a0 a1 a2 a3 a4 a5 a6 a7 k, LeO (lines_Break.f k a0 a1 a2 a3 a4 a5 a6 a7) (lines_Break.f (k + 1) a0 a1 a2 a3 a4 a5 a6 a7) := by
  intro a0 a1 a2 a3 a4 a5 a6 a7 k
  have ih0 := lines_Break.mono_l k; unfold lines_Break.f
  repeat' first
      | (with_reducible exact ih0 _ _ _ _ _ _ _ _ _ _ _ _ _ _)
      | (with_reducible exact items_Parts.mono _ _ _)
      | (with_reducible exact lines_Part.mono _ _ _ _ _ _ _ _ _ _ _)
      | (with_reducible exact LeO.refl _)
      | (with_reducible exact LeO.none _)
      | (with_reducible refine LeO.ite ?_ ?_)
      | (with_reducible refine LeO.bind ?_ (fun _ => ?_))
      | exact ih0 _ _ _ _ _ _ _ _ _ _ _ _ _ _
      | exact items_Parts.mono _ _ _
      | exact lines_Part.mono _ _ _ _ _ _ _ _ _ _ _
      | exact LeO.none _
      | refine LeO.ite ?_ ?_
      | refine LeO.bind ?_ (fun _ => ?_)
set_option maxHeartbeats 8000000 in
set_option maxRecDepth 100000 in
theorem lines_Break.calls (k : Nat) (A0_0 : Option Addr) (c0_0 : Nat) (l0_0 : List (S66)) (A0_1 : Option Addr) (c0_1 : Nat) (l0_1 : List Int) (a1_0 : Int) (a1_1 : Int) (a1_2 : Int) (a1_3 : Int) (a1_4 : Int) (a1_5 : Nat) (r1 : List (S54)) (r2 : Bool) (w : World) (hr0_0 : Kd.C k66 w A0_0 l0_0.length l0_0) (hc0_0 : l0_0.length ≤ c0_0) (hr0_1 : Kd.C (Kd.int .u8) w A0_1 l0_1.length l0_1) (hc0_1 : l0_1.length ≤ c0_1) (h : lines_Break.f k l0_0 l0_1 a1_0 a1_1 a1_2 a1_3 a1_4 a1_5 = some (r1, r2)) :
    Calls Try.prog 12 #[.agg #[.slice A0_0 l0_0.length c0_0, .slice A0_1 l0_1.length c0_1], .agg #[.int .i64 a1_0, .int .i64 a1_1, .int .u8 a1_2, .int .i64 a1_3, .int .i64 a1_4, .float .f64 a1_5]] w fun e w' => ∃ v0_ : Value, e = .returned (.tuple #[v0_, .bool r2]) ∧ Kd.R k54 54 w' w.heap.size (fun _ => True) v0_ r1 ∧ Below w.heap.size w w' := by
  have hu31 := Try.underlying31; have hu35 := Try.underlying35; have HR0_0 := zC.mk hr0_0; have HC0_0 := zC.mk hc0_0; clear hr0_0 hc0_0; have HR0_1 := zC.mk hr0_1; have HC0_1 := zC.mk hc0_1; clear hr0_1 hc0_1; have HB := zC.mk (Below.refl w.heap.size w); have H : ((items_Parts.f k l0_0 l0_1).bind fun t261 => (lines_Break.l0 k ([] : List (S54)) false 0 t261 (t261.length : Int) 0 l0_0 l0_1 a1_0 a1_1 a1_2 a1_3 a1_4 a1_5)) = some (r1, r2) := h
  clear h; replace H := Option.bind_eq_some_iff.mp H; obtain ⟨t261, A30, H⟩ := H; replace H : (lines_Break.l0 k ([] : List (S54)) false 0 t261 (t261.length : Int) 0 l0_0 l0_1 a1_0 a1_1 a1_2 a1_3 a1_4 a1_5) = some (r1, r2) := H; have A3 := zC.mk A30; clear A30; have H' := zC.mk H
  clear H; go_enter Try.func12, Try.ntmps12
  go_wp2_with (first | ((with_reducible refine gate_dst (N := 2) rfl ?_); refine box_event ?hg (N := 2) ?hd (cs := #[.slice A0_0 l0_0.length c0_0, .slice A0_1 l0_1.length c0_1]) (t := 31) ?hr ?_; (case hd => rfl); (case hg => rfl); (case hr => first | (go_simp; done) | (go_simp; rfl)); intro gb259 hg w4 hbox hb; have n0_ := zC.mk (zQ (by repeat (first | (with_reducible first | exact HB.out | apply zJ | apply zG | apply zI) | exact HB.out)) hb); have n1_ := zC.mk (hbox); have n2_ := zC.mk ((by rw [hg]; exact (zP (by repeat (first | (with_reducible first | exact HB.out | apply zJ | apply zG | apply zI) | exact HB.out))) : w.heap.size ≤ gb259)); have n3_ := zC.mk ((by rw [hg]; exact (zP (by repeat (first | (with_reducible first | exact HB.out | apply zJ | apply zG | apply zI) | exact HB.out))) : w.heap.size ≤ gb259)); clear HB; have HB := n0_; have BK259 := n1_; have GW259 := n2_; have GE259 := n3_; clear n0_ n1_ n2_ n3_; clear hb hbox hg) | ((with_reducible refine gate_dst (N := 3) rfl ?_); refine box_event ?hg (N := 3) ?hd (cs := #[.int .i64 a1_0, .int .i64 a1_1, .int .u8 a1_2, .int .i64 a1_3, .int .i64 a1_4, .float .f64 a1_5]) (t := 35) ?hr ?_; (case hd => rfl); (case hg => rfl); (case hr => first | (go_simp; done) | (go_simp; rfl)); intro gb260 hg w5 hbox hb; have n0_ := zC.mk (zK (g := gb259) (o := .cells #[.slice A0_0 l0_0.length c0_0, .slice A0_1 l0_1.length c0_1] 31 (0, 0)) (by (with_reducible repeat (first | refine zB ?_ _ | refine zD ?_ | refine zA ?_ _)); exact BK259.out) hb); have n1_ := zC.mk (zQ (by repeat (first | (with_reducible first | exact HB.out | apply zJ | apply zG | apply zI | refine zE ?_ GE259.out) | exact HB.out)) hb); have n2_ := zC.mk (hbox); have n3_ := zC.mk ((by rw [hg]; exact (zP (by repeat (first | (with_reducible first | exact HB.out | apply zJ | apply zG | apply zI | refine zE ?_ GE259.out) | exact HB.out))) : w.heap.size ≤ gb260)); have n4_ := zC.mk ((by rw [hg]; exact (zP (by repeat (first | (with_reducible first | exact HB.out | apply zJ | apply zG | apply zI | refine zE ?_ GE259.out) | exact HB.out))) : w.heap.size ≤ gb260)); have n5_ := zC.mk ((by rw [hg]; exact Nat.ne_of_lt (blk_lt (g := gb259) (o := .cells #[.slice A0_0 l0_0.length c0_0, .slice A0_1 l0_1.length c0_1] 31 (0, 0)) (by (with_reducible repeat (first | refine zB ?_ _ | refine zD ?_ | refine zA ?_ _)); exact BK259.out)) : gb259 ≠ gb260)); have n6_ := zC.mk ((by rw [hg]; exact Nat.ne_of_gt (blk_lt (g := gb259) (o := .cells #[.slice A0_0 l0_0.length c0_0, .slice A0_1 l0_1.length c0_1] 31 (0, 0)) (by (with_reducible repeat (first | refine zB ?_ _ | refine zD ?_ | refine zA ?_ _)); exact BK259.out)) : gb260 ≠ gb259)); clear BK259; clear HB; have BK259 := n0_; have HB := n1_; have BK260 := n2_; have GW260 := n3_; have GE260 := n4_; have NB259_260 := n5_; have NB260_259 := n6_; clear n0_ n1_ n2_ n3_ n4_ n5_ n6_; clear hb hbox hg; have hnb6 := NB259_260.out; have hnc6 := NB260_259.out; have hcz7_0 : w5.cell? ⟨gb259, 0, none⟩ = some (.slice A0_0 l0_0.length c0_0) := (zF BK259.out 0).trans rfl; have hcz7_1 : w5.cell? ⟨gb259, 1, none⟩ = some (.slice A0_1 l0_1.length c0_1) := (zF BK259.out 1).trans rfl; have hfz7_0 := zH BK259.out 0; have hfz7_1 := zH BK259.out 1) | ((with_reducible refine gate_callee (f := 18) rfl ?_); refine goesL_ (some 14) rfl rfl Try.func18 (by kernel_rfl) rfl #[.agg #[.slice A0_0 l0_0.length c0_0, .slice A0_1 l0_1.length c0_1]] rfl (by (try simp only [List.map_toArray, List.map_cons, List.map_nil]); first | done | rfl | (simp only [List.length_drop, List.length_take]; rfl)) ?_; (with_reducible refine (items_Parts.calls k _ _ l0_0 _ _ l0_1 t261 _ ?side1 ?side2 ?side3 ?side4 A3.out).mono ?_); (case side1 => repeat (first | exact (Kd.C_below HR0_0.out HB.out) | (with_reducible refine Kd.C_alloc ?_ _) | (with_reducible refine Kd.C_drewN ?_ _) | (with_reducible refine Kd.C_drew ?_))); (case side2 => exact HC0_0.out); (case side3 => repeat (first | exact (Kd.C_below HR0_1.out HB.out) | (with_reducible refine Kd.C_alloc ?_ _) | (with_reducible refine Kd.C_drewN ?_ _) | (with_reducible refine Kd.C_drew ?_))); (case side4 => exact HC0_1.out); rintro e w8 ⟨v262, rfl, ho0, hb⟩; refine ⟨_, rfl, ?_⟩; have n0_ := zC.mk (Kd.R_lower ho0 (zP (by repeat (first | (with_reducible first | exact HB.out | apply zJ | apply zG | apply zI | refine zE ?_ GE259.out | refine zE ?_ GE260.out) | exact HB.out)))); have n1_ := zC.mk (zK (g := gb259) (o := .cells #[.slice A0_0 l0_0.length c0_0, .slice A0_1 l0_1.length c0_1] 31 (0, 0)) (by (with_reducible repeat (first | refine zB ?_ _ | refine zD ?_ | refine zA ?_ _)); exact BK259.out) hb); have n2_ := zC.mk (zK (g := gb260) (o := .cells #[.int .i64 a1_0, .int .i64 a1_1, .int .u8 a1_2, .int .i64 a1_3, .int .i64 a1_4, .float .f64 a1_5] 35 (0, 0)) (by (with_reducible repeat (first | refine zB ?_ _ | refine zD ?_ | refine zA ?_ _)); exact BK260.out) hb); have n3_ := zC.mk (zQ (by repeat (first | (with_reducible first | exact HB.out | apply zJ | apply zG | apply zI | refine zE ?_ GE259.out | refine zE ?_ GE260.out) | exact HB.out)) hb); clear BK259; clear BK260; clear HB; have HO263 := n0_; have BK259 := n1_; have BK260 := n2_; have HB := n3_; clear n0_ n1_ n2_ n3_; (try clear hb); (try clear hb2); (try clear hk); (try clear hi); (try clear ho0); obtain ⟨Ao9, co9, eo9⟩ := Kd.R_slice HO263.out; subst eo9))
  go_loopg [6, 7, 8, 16] k (fun kq v6 v7 v8 v16 w' => ∃ (x6_1 : List (S54)) (x7_1 : Bool) (x8_1 : Int) (x16_1 : Int), v7 = .bool x7_1 ∧ v8 = .int .i64 x8_1 ∧ v16 = .int .i64 x16_1 ∧ zC (lines_Break.l0 kq x6_1 x7_1 x8_1 t261 (t261.length : Int) x16_1 l0_0 l0_1 a1_0 a1_1 a1_2 a1_3 a1_4 a1_5 = some (r1, r2)) ∧ zC (kq ≤ k) ∧ zC (Kd.R k54 54 w' w.heap.size (fun _ => True) v6 x6_1) ∧ zC (Kd.R (Kd.int .i64) 3 w' w.heap.size (fun _ => True) (.slice Ao9 t261.length co9) t261) ∧ zC (w'.heap[gb259]? = some (.cells #[(.slice A0_0 l0_0.length c0_0), (.slice A0_1 l0_1.length c0_1)] 31 (0, 0))) ∧ zC (w'.heap[gb260]? = some (.cells #[.int .i64 a1_0, .int .i64 a1_1, .int .u8 a1_2, .int .i64 a1_3, .int .i64 a1_4, .float .f64 a1_5] 35 (0, 0))) ∧ zC (Below w.heap.size w w'))
  case atStart => exact ⟨(([] : List (S54))), (false), (0), (0), (by first | rfl | (simp; done) | (simp [*]; done)), (by first | rfl | (simp; done) | (simp [*]; done)), (by first | rfl | (simp; done) | (simp [*]; done)), H', ⟨Nat.le_refl _⟩, ⟨by first | exact Kd.R_nil _ _ _ _ _ | exact Kd.N_nil _ _ _ _ _ | exact Kd.V_nil _ _ _ _ _ | exact Kd.Q_nil _ _ _ _ _ | exact Kd.S_nil _ _ _ _ _⟩, ⟨by (with_reducible repeat (first | apply Kd.R_alloc | apply Kd.R_drewN | apply Kd.R_drew)); exact HO263.out⟩, ⟨by (with_reducible repeat (first | refine zB ?_ _ | refine zD ?_ | refine zA ?_ _)); exact BK259.out⟩, ⟨by (with_reducible repeat (first | refine zB ?_ _ | refine zD ?_ | refine zA ?_ _)); exact BK260.out⟩, ⟨by repeat (first | (with_reducible first | exact HB.out | apply zJ | apply zG | apply zI | refine zE ?_ GE259.out | refine zE ?_ GE260.out) | exact HB.out)⟩⟩
  clear H'; try clear c1
  try clear p2
  try clear c6
  try clear hcz7_0
  try clear hcz7_1
  try clear hfz7_0
  try clear hfz7_1
  obtain ⟨x6_1, x7_1, x8_1, x16_1, rfl, rfl, rfl, HA, HK1, HO_6, HO_14, BK259, BK260, HB⟩ := hrel; cases gk with
  | zero => exact absurd HA.out (by simp [lines_Break.l0])
  | succ k1 =>
    have H := HA.out; clear HA; simp only [lines_Break.l0] at H; by_cases c10 : x16_1 < (t261.length : Int)
    rotate_left
    · rw [if_neg c10] at H
      have c10b0 : decide (x16_1 < (t261.length : Int)) = false := decide_eq_false c10
      clear c10; simp only [Option.some.injEq, Prod.mk.injEq] at H; obtain ⟨rfl, rfl⟩ := H; go_wp2
      go_ret2
      exact ⟨_, by first | rfl | (simp [errW_none, errW_some] <;> rfl) | (simp [*, errW_none, errW_some] <;> rfl), by (with_reducible repeat (first | apply Kd.R_alloc | apply Kd.R_drewN | apply Kd.R_drew)); exact HO_6.out, by repeat (first | (with_reducible first | exact HB.out | apply zJ | apply zG | apply zI | refine zE ?_ GE259.out | refine zE ?_ GE260.out) | exact HB.out)⟩
    rw [if_pos c10] at H; have c10b0 : decide (x16_1 < (t261.length : Int)) = true := decide_eq_true c10
    clear c10; by_cases c11 : 0 ≤ x16_1
    rotate_left
    · rw [if_neg c11] at H
      exact absurd H (by simp)
    rw [if_pos c11] at H; have c11b0 : decide (0 ≤ x16_1) = true := decide_eq_true c11
    clear c11; by_cases c12 : x16_1 < (t261.length : Int)
    rotate_left
    · rw [if_neg c12] at H
      exact absurd H (by simp)
    rw [if_pos c12] at H; have c12b0 : decide (x16_1 < (t261.length : Int)) = true := decide_eq_true c12
    clear c12; replace H := Option.bind_eq_some_iff.mp H; obtain ⟨⟨t265, t268⟩, A130, H⟩ := H; replace H : (if x6_1.length + t265.length < 4398046511104 then ((some (x6_1 ++ t265 : List (S54))).bind fun y269 => (if x7_1 = true then (lines_Break.l0 k1 y269 true (rd t261 x16_1) t261 (t261.length : Int) (wrap64 (x16_1 + 1)) l0_0 l0_1 a1_0 a1_1 a1_2 a1_3 a1_4 a1_5) else (lines_Break.l0 k1 y269 t268 (rd t261 x16_1) t261 (t261.length : Int) (wrap64 (x16_1 + 1)) l0_0 l0_1 a1_0 a1_1 a1_2 a1_3 a1_4 a1_5))) else (none)) = some (r1, r2) := H
    have A13 := zC.mk A130; clear A130; by_cases c14 : x6_1.length + t265.length < 4398046511104
    rotate_left
    · rw [if_neg c14] at H
      exact absurd H (by simp)
    rw [if_pos c14] at H; have LMc14 := zC.mk c14; clear c14; obtain ⟨y269, hy269⟩ : ∃ y_ : List (S54), y_ = (x6_1 ++ t265) := ⟨_, rfl⟩; replace H : (if x7_1 = true then (lines_Break.l0 k1 y269 true (rd t261 x16_1) t261 (t261.length : Int) (wrap64 (x16_1 + 1)) l0_0 l0_1 a1_0 a1_1 a1_2 a1_3 a1_4 a1_5) else (lines_Break.l0 k1 y269 t268 (rd t261 x16_1) t261 (t261.length : Int) (wrap64 (x16_1 + 1)) l0_0 l0_1 a1_0 a1_1 a1_2 a1_3 a1_4 a1_5)) = some (r1, r2) := by first | (rw [hy269]; with_reducible exact H) | (have H2_ := (Option.bind_some _ _).symm.trans H; rw [hy269]; with_reducible exact H2_) | (have H2_ := (Option.bind_some _ _).symm.trans H; with_reducible exact H2_) | with_reducible exact H | (rw [hy269]; exact H) | exact H
    have Ny269 := zC.mk hy269; clear hy269; by_cases c15 : x7_1 = true
    · subst c15
      have H1 : (lines_Break.l0 k1 y269 true (rd t261 x16_1) t261 (t261.length : Int) (wrap64 (x16_1 + 1)) l0_0 l0_1 a1_0 a1_1 a1_2 a1_3 a1_4 a1_5) = some (r1, r2) := by rw [if_pos rfl] at H; exact H
      clear H; have H := H1; clear H1; have H' := zC.mk H
      clear H; have p264 : 0 ≤ (x16_1 : Int) := of_decide_eq_true (by first | (with_reducible assumption) | assumption)
      have q264 : x16_1 < (t261.length : Int) := of_decide_eq_true (by first | (with_reducible assumption) | assumption)
      obtain ⟨ad264, e264, hx264_0⟩ := Kd.at_int (Kd.R_reads' HO_14.out).2.2 x16_1 p264 q264; cases e264
      replace p264 := eq_true p264; replace q264 := eq_true q264; have hnb16 := NB259_260.out; have hnc16 := NB260_259.out; have hcz17_0 : wr.cell? ⟨gb259, 0, none⟩ = some (.slice A0_0 l0_0.length c0_0) := (zF BK259.out 0).trans rfl
      have hcz17_1 : wr.cell? ⟨gb259, 1, none⟩ = some (.slice A0_1 l0_1.length c0_1) := (zF BK259.out 1).trans rfl
      have hfz17_0 := zH BK259.out 0; have hfz17_1 := zH BK259.out 1; have hcz18_0 : wr.cell? ⟨gb260, 0, none⟩ = some (.int .i64 a1_0) := (zF BK260.out 0).trans rfl
      have hcz18_1 : wr.cell? ⟨gb260, 1, none⟩ = some (.int .i64 a1_1) := (zF BK260.out 1).trans rfl
      have hcz18_2 : wr.cell? ⟨gb260, 2, none⟩ = some (.int .u8 a1_2) := (zF BK260.out 2).trans rfl
      have hcz18_3 : wr.cell? ⟨gb260, 3, none⟩ = some (.int .i64 a1_3) := (zF BK260.out 3).trans rfl
      have hcz18_4 : wr.cell? ⟨gb260, 4, none⟩ = some (.int .i64 a1_4) := (zF BK260.out 4).trans rfl
      have hcz18_5 : wr.cell? ⟨gb260, 5, none⟩ = some (.float .f64 a1_5) := (zF BK260.out 5).trans rfl
      have hfz18_0 := zH BK260.out 0; have hfz18_1 := zH BK260.out 1; have hfz18_2 := zH BK260.out 2; have hfz18_3 := zH BK260.out 3; have hfz18_4 := zH BK260.out 4; have hfz18_5 := zH BK260.out 5; go_wp2_with (first | ((with_reducible refine gate_callee (f := 19) rfl ?_); refine goesL_ (some 25) rfl rfl Try.func19 (by kernel_rfl) rfl #[.agg #[.slice A0_0 l0_0.length c0_0, .slice A0_1 l0_1.length c0_1], .int .i64 x8_1, .int .i64 (rd t261 x16_1), .agg #[.int .i64 a1_0, .int .i64 a1_1, .int .u8 a1_2, .int .i64 a1_3, .int .i64 a1_4, .float .f64 a1_5]] rfl (by (try simp only [List.map_toArray, List.map_cons, List.map_nil]); first | done | rfl | (simp only [List.length_drop, List.length_take]; rfl)) ?_; (with_reducible refine (lines_Part.calls k1 _ _ l0_0 _ _ l0_1 x8_1 (rd t261 x16_1) a1_0 a1_1 a1_2 a1_3 a1_4 a1_5 t265 t268 _ ?side1 ?side2 ?side3 ?side4 A13.out).mono ?_); (case side1 => repeat (first | exact (Kd.C_below HR0_0.out HB.out) | (with_reducible refine Kd.C_alloc ?_ _) | (with_reducible refine Kd.C_drewN ?_ _) | (with_reducible refine Kd.C_drew ?_))); (case side2 => exact HC0_0.out); (case side3 => repeat (first | exact (Kd.C_below HR0_1.out HB.out) | (with_reducible refine Kd.C_alloc ?_ _) | (with_reducible refine Kd.C_drewN ?_ _) | (with_reducible refine Kd.C_drew ?_))); (case side4 => exact HC0_1.out); rintro e w19 ⟨v266, rfl, ho0, hb⟩; refine ⟨_, rfl, ?_⟩; have n0_ := zC.mk (Kd.R_elder' (by (with_reducible repeat (first | apply Kd.R_alloc | apply Kd.R_drewN | apply Kd.R_drew)); exact HO_6.out) (Kd.R_base ho0) hb); have n1_ := zC.mk (Kd.R_below (by (with_reducible repeat (first | apply Kd.R_alloc | apply Kd.R_drewN | apply Kd.R_drew)); exact HO_14.out) hb); have n2_ := zC.mk (Kd.R_lower (Kd.R_new' ho0 (Kd.R_lt (by (with_reducible repeat (first | apply Kd.R_alloc | apply Kd.R_drewN | apply Kd.R_drew)); exact HO_6.out))) (zP (by repeat (first | (with_reducible first | exact HB.out | apply zJ | apply zG | apply zI | refine zE ?_ GE259.out | refine zE ?_ GE260.out) | exact HB.out)))); have n3_ := zC.mk (zK (g := gb259) (o := .cells #[.slice A0_0 l0_0.length c0_0, .slice A0_1 l0_1.length c0_1] 31 (0, 0)) (by (with_reducible repeat (first | refine zB ?_ _ | refine zD ?_ | refine zA ?_ _)); exact BK259.out) hb); have n4_ := zC.mk (zK (g := gb260) (o := .cells #[.int .i64 a1_0, .int .i64 a1_1, .int .u8 a1_2, .int .i64 a1_3, .int .i64 a1_4, .float .f64 a1_5] 35 (0, 0)) (by (with_reducible repeat (first | refine zB ?_ _ | refine zD ?_ | refine zA ?_ _)); exact BK260.out) hb); have n5_ := zC.mk (zQ (by repeat (first | (with_reducible first | exact HB.out | apply zJ | apply zG | apply zI | refine zE ?_ GE259.out | refine zE ?_ GE260.out) | exact HB.out)) hb); clear HO_6; clear HO_14; clear BK259; clear BK260; clear HB; have HO_6 := n0_; have HO_14 := n1_; have HO267 := n2_; have BK259 := n3_; have BK260 := n4_; have HB := n5_; clear n0_ n1_ n2_ n3_ n4_ n5_; (try clear hb); (try clear hb2); (try clear hk); (try clear hi); (try clear ho0); obtain ⟨Ao21, co21, eo21⟩ := Kd.R_slice HO267.out; subst eo21) | ((with_reducible refine gate_builtin (b := .append) (xs := #[.tmp 28, .tmp 29]) rfl ?_); at_builtin; refine Kd.R_append_rows k54 (w0 := w) w.heap.size rfl (.tmp 28) (.tmp 29) 37 54 (.agg #[(.int .i64 0), (.int .i64 0), (.int .i64 0), (.int .u8 0)]) 32 rfl Try.underlying37 info54 rfl (by decide) (by omega) u6 x6_1 t265 _ _ _ (fun k_ => some k_ ≠ (.slice Ao21 t265.length co21 : Value).ownBlock) (fun _ => False) rfl rfl ?aO ?aR (fun _ _ h => h) (fun _ h => h.elim) ?aF ?aB ?aS ?aL ?_; (case aR => repeat (first | exact (Kd.R_reads' HO267.out).2.2 | (with_reducible refine Kd.C_alloc ?_ _) | (with_reducible refine Kd.C_drewN ?_ _) | (with_reducible refine Kd.C_drew ?_))); (case aB => exact (by repeat (first | (with_reducible first | exact HB.out | apply zJ | apply zG | apply zI | refine zE ?_ GE259.out | refine zE ?_ GE260.out) | exact HB.out))); (case aF => exact (fun k_ hk => Kd.fresh' (Kd.R_lt (by (with_reducible repeat (first | apply Kd.R_alloc | apply Kd.R_drewN | apply Kd.R_drew)); exact HO267.out)) k_ hk)); (case aO => exact (by (with_reducible repeat (first | apply Kd.R_alloc | apply Kd.R_drewN | apply Kd.R_drew)); exact Kd.R_mono HO_6.out (fun _ hk => hk.2))); (case aS => exact (zP (by repeat (first | (with_reducible first | exact HB.out | apply zJ | apply zG | apply zI | refine zE ?_ GE259.out | refine zE ?_ GE260.out) | exact HB.out)))); (case aL => have := LMc14.out; omega); intro v270 w20 ho hb hg hat; rw [← Ny269.out] at ho; have n0_ := zC.mk (Kd.R_over' (by (with_reducible repeat (first | apply Kd.R_alloc | apply Kd.R_drewN | apply Kd.R_drew)); exact HO_14.out) (Kd.R_typed (by (with_reducible repeat (first | apply Kd.R_alloc | apply Kd.R_drewN | apply Kd.R_drew)); exact HO_6.out)) (by decide) hg); have n1_ := zC.mk (blk_grown (g := gb259) (o := .cells #[.slice A0_0 l0_0.length c0_0, .slice A0_1 l0_1.length c0_1] 31 (0, 0)) (by (with_reducible repeat (first | refine zB ?_ _ | refine zD ?_ | refine zA ?_ _)); exact BK259.out) hg (Kd.R_ne HO_6.out BK259.out (by decide))); have n2_ := zC.mk (blk_grown (g := gb260) (o := .cells #[.int .i64 a1_0, .int .i64 a1_1, .int .u8 a1_2, .int .i64 a1_3, .int .i64 a1_4, .float .f64 a1_5] 35 (0, 0)) (by (with_reducible repeat (first | refine zB ?_ _ | refine zD ?_ | refine zA ?_ _)); exact BK260.out) hg (Kd.R_ne HO_6.out BK260.out (by decide))); have n3_ := zC.mk (Kd.R_after (ok := (fun _ => True)) (by (with_reducible repeat (first | apply Kd.R_alloc | apply Kd.R_drewN | apply Kd.R_drew)); exact HO267.out) hg hat); have n4_ := zC.mk (hb); have n5_ := zC.mk (ho); clear HO_14; clear BK259; clear BK260; clear HO267; clear HB; clear HO_6; have HO_14 := n0_; have BK259 := n1_; have BK260 := n2_; have HO267 := n3_; have HB := n4_; have HO271 := n5_; clear n0_ n1_ n2_ n3_ n4_ n5_; clear ho hb hg hat))
      go_roundg k1
      case measure => have := HK1.out; omega
      case rel => exact ⟨(y269), (true), (rd t261 x16_1), (wrap64 (x16_1 + 1)), (by first | rfl | (simp; done) | (simp [*]; done)), (by first | rfl | (simp; done) | (simp [*]; done)), (by first | rfl | (simp; done) | (simp [*]; done)), H', ⟨by have := HK1.out; omega⟩, ⟨by (with_reducible repeat (first | apply Kd.R_alloc | apply Kd.R_drewN | apply Kd.R_drew)); exact Kd.R_mono HO271.out (fun _ hk => trivial)⟩, ⟨by (with_reducible repeat (first | apply Kd.R_alloc | apply Kd.R_drewN | apply Kd.R_drew)); exact HO_14.out⟩, ⟨by (with_reducible repeat (first | refine zB ?_ _ | refine zD ?_ | refine zA ?_ _)); exact BK259.out⟩, ⟨by (with_reducible repeat (first | refine zB ?_ _ | refine zD ?_ | refine zA ?_ _)); exact BK260.out⟩, ⟨by repeat (first | (with_reducible first | exact HB.out | apply zJ | apply zG | apply zI | refine zE ?_ GE259.out | refine zE ?_ GE260.out) | exact HB.out)⟩⟩
    replace c15 := Bool.eq_false_iff.mpr c15; subst c15; have H1 : (lines_Break.l0 k1 y269 t268 (rd t261 x16_1) t261 (t261.length : Int) (wrap64 (x16_1 + 1)) l0_0 l0_1 a1_0 a1_1 a1_2 a1_3 a1_4 a1_5) = some (r1, r2) := by rw [if_neg (show ¬ (false = true) by decide)] at H; exact H
    clear H; have H := H1; clear H1; have H' := zC.mk H
    clear H; have p264 : 0 ≤ (x16_1 : Int) := of_decide_eq_true (by first | (with_reducible assumption) | assumption)
    have q264 : x16_1 < (t261.length : Int) := of_decide_eq_true (by first | (with_reducible assumption) | assumption)
    obtain ⟨ad264, e264, hx264_0⟩ := Kd.at_int (Kd.R_reads' HO_14.out).2.2 x16_1 p264 q264; cases e264
    replace p264 := eq_true p264; replace q264 := eq_true q264; have hnb22 := NB259_260.out; have hnc22 := NB260_259.out; have hcz23_0 : wr.cell? ⟨gb259, 0, none⟩ = some (.slice A0_0 l0_0.length c0_0) := (zF BK259.out 0).trans rfl
    have hcz23_1 : wr.cell? ⟨gb259, 1, none⟩ = some (.slice A0_1 l0_1.length c0_1) := (zF BK259.out 1).trans rfl
    have hfz23_0 := zH BK259.out 0; have hfz23_1 := zH BK259.out 1; have hcz24_0 : wr.cell? ⟨gb260, 0, none⟩ = some (.int .i64 a1_0) := (zF BK260.out 0).trans rfl
    have hcz24_1 : wr.cell? ⟨gb260, 1, none⟩ = some (.int .i64 a1_1) := (zF BK260.out 1).trans rfl
    have hcz24_2 : wr.cell? ⟨gb260, 2, none⟩ = some (.int .u8 a1_2) := (zF BK260.out 2).trans rfl
    have hcz24_3 : wr.cell? ⟨gb260, 3, none⟩ = some (.int .i64 a1_3) := (zF BK260.out 3).trans rfl
    have hcz24_4 : wr.cell? ⟨gb260, 4, none⟩ = some (.int .i64 a1_4) := (zF BK260.out 4).trans rfl
    have hcz24_5 : wr.cell? ⟨gb260, 5, none⟩ = some (.float .f64 a1_5) := (zF BK260.out 5).trans rfl
    have hfz24_0 := zH BK260.out 0; have hfz24_1 := zH BK260.out 1; have hfz24_2 := zH BK260.out 2; have hfz24_3 := zH BK260.out 3; have hfz24_4 := zH BK260.out 4; have hfz24_5 := zH BK260.out 5; go_wp2_with (first | ((with_reducible refine gate_callee (f := 19) rfl ?_); refine goesL_ (some 25) rfl rfl Try.func19 (by kernel_rfl) rfl #[.agg #[.slice A0_0 l0_0.length c0_0, .slice A0_1 l0_1.length c0_1], .int .i64 x8_1, .int .i64 (rd t261 x16_1), .agg #[.int .i64 a1_0, .int .i64 a1_1, .int .u8 a1_2, .int .i64 a1_3, .int .i64 a1_4, .float .f64 a1_5]] rfl (by (try simp only [List.map_toArray, List.map_cons, List.map_nil]); first | done | rfl | (simp only [List.length_drop, List.length_take]; rfl)) ?_; (with_reducible refine (lines_Part.calls k1 _ _ l0_0 _ _ l0_1 x8_1 (rd t261 x16_1) a1_0 a1_1 a1_2 a1_3 a1_4 a1_5 t265 t268 _ ?side1 ?side2 ?side3 ?side4 A13.out).mono ?_); (case side1 => repeat (first | exact (Kd.C_below HR0_0.out HB.out) | (with_reducible refine Kd.C_alloc ?_ _) | (with_reducible refine Kd.C_drewN ?_ _) | (with_reducible refine Kd.C_drew ?_))); (case side2 => exact HC0_0.out); (case side3 => repeat (first | exact (Kd.C_below HR0_1.out HB.out) | (with_reducible refine Kd.C_alloc ?_ _) | (with_reducible refine Kd.C_drewN ?_ _) | (with_reducible refine Kd.C_drew ?_))); (case side4 => exact HC0_1.out); rintro e w25 ⟨v266, rfl, ho0, hb⟩; refine ⟨_, rfl, ?_⟩; have n0_ := zC.mk (Kd.R_elder' (by (with_reducible repeat (first | apply Kd.R_alloc | apply Kd.R_drewN | apply Kd.R_drew)); exact HO_6.out) (Kd.R_base ho0) hb); have n1_ := zC.mk (Kd.R_below (by (with_reducible repeat (first | apply Kd.R_alloc | apply Kd.R_drewN | apply Kd.R_drew)); exact HO_14.out) hb); have n2_ := zC.mk (Kd.R_lower (Kd.R_new' ho0 (Kd.R_lt (by (with_reducible repeat (first | apply Kd.R_alloc | apply Kd.R_drewN | apply Kd.R_drew)); exact HO_6.out))) (zP (by repeat (first | (with_reducible first | exact HB.out | apply zJ | apply zG | apply zI | refine zE ?_ GE259.out | refine zE ?_ GE260.out) | exact HB.out)))); have n3_ := zC.mk (zK (g := gb259) (o := .cells #[.slice A0_0 l0_0.length c0_0, .slice A0_1 l0_1.length c0_1] 31 (0, 0)) (by (with_reducible repeat (first | refine zB ?_ _ | refine zD ?_ | refine zA ?_ _)); exact BK259.out) hb); have n4_ := zC.mk (zK (g := gb260) (o := .cells #[.int .i64 a1_0, .int .i64 a1_1, .int .u8 a1_2, .int .i64 a1_3, .int .i64 a1_4, .float .f64 a1_5] 35 (0, 0)) (by (with_reducible repeat (first | refine zB ?_ _ | refine zD ?_ | refine zA ?_ _)); exact BK260.out) hb); have n5_ := zC.mk (zQ (by repeat (first | (with_reducible first | exact HB.out | apply zJ | apply zG | apply zI | refine zE ?_ GE259.out | refine zE ?_ GE260.out) | exact HB.out)) hb); clear HO_6; clear HO_14; clear BK259; clear BK260; clear HB; have HO_6 := n0_; have HO_14 := n1_; have HO267 := n2_; have BK259 := n3_; have BK260 := n4_; have HB := n5_; clear n0_ n1_ n2_ n3_ n4_ n5_; (try clear hb); (try clear hb2); (try clear hk); (try clear hi); (try clear ho0); obtain ⟨Ao27, co27, eo27⟩ := Kd.R_slice HO267.out; subst eo27) | ((with_reducible refine gate_builtin (b := .append) (xs := #[.tmp 28, .tmp 29]) rfl ?_); at_builtin; refine Kd.R_append_rows k54 (w0 := w) w.heap.size rfl (.tmp 28) (.tmp 29) 37 54 (.agg #[(.int .i64 0), (.int .i64 0), (.int .i64 0), (.int .u8 0)]) 32 rfl Try.underlying37 info54 rfl (by decide) (by omega) u6 x6_1 t265 _ _ _ (fun k_ => some k_ ≠ (.slice Ao27 t265.length co27 : Value).ownBlock) (fun _ => False) rfl rfl ?aO ?aR (fun _ _ h => h) (fun _ h => h.elim) ?aF ?aB ?aS ?aL ?_; (case aR => repeat (first | exact (Kd.R_reads' HO267.out).2.2 | (with_reducible refine Kd.C_alloc ?_ _) | (with_reducible refine Kd.C_drewN ?_ _) | (with_reducible refine Kd.C_drew ?_))); (case aB => exact (by repeat (first | (with_reducible first | exact HB.out | apply zJ | apply zG | apply zI | refine zE ?_ GE259.out | refine zE ?_ GE260.out) | exact HB.out))); (case aF => exact (fun k_ hk => Kd.fresh' (Kd.R_lt (by (with_reducible repeat (first | apply Kd.R_alloc | apply Kd.R_drewN | apply Kd.R_drew)); exact HO267.out)) k_ hk)); (case aO => exact (by (with_reducible repeat (first | apply Kd.R_alloc | apply Kd.R_drewN | apply Kd.R_drew)); exact Kd.R_mono HO_6.out (fun _ hk => hk.2))); (case aS => exact (zP (by repeat (first | (with_reducible first | exact HB.out | apply zJ | apply zG | apply zI | refine zE ?_ GE259.out | refine zE ?_ GE260.out) | exact HB.out)))); (case aL => have := LMc14.out; omega); intro v270 w26 ho hb hg hat; rw [← Ny269.out] at ho; have n0_ := zC.mk (Kd.R_over' (by (with_reducible repeat (first | apply Kd.R_alloc | apply Kd.R_drewN | apply Kd.R_drew)); exact HO_14.out) (Kd.R_typed (by (with_reducible repeat (first | apply Kd.R_alloc | apply Kd.R_drewN | apply Kd.R_drew)); exact HO_6.out)) (by decide) hg); have n1_ := zC.mk (blk_grown (g := gb259) (o := .cells #[.slice A0_0 l0_0.length c0_0, .slice A0_1 l0_1.length c0_1] 31 (0, 0)) (by (with_reducible repeat (first | refine zB ?_ _ | refine zD ?_ | refine zA ?_ _)); exact BK259.out) hg (Kd.R_ne HO_6.out BK259.out (by decide))); have n2_ := zC.mk (blk_grown (g := gb260) (o := .cells #[.int .i64 a1_0, .int .i64 a1_1, .int .u8 a1_2, .int .i64 a1_3, .int .i64 a1_4, .float .f64 a1_5] 35 (0, 0)) (by (with_reducible repeat (first | refine zB ?_ _ | refine zD ?_ | refine zA ?_ _)); exact BK260.out) hg (Kd.R_ne HO_6.out BK260.out (by decide))); have n3_ := zC.mk (Kd.R_after (ok := (fun _ => True)) (by (with_reducible repeat (first | apply Kd.R_alloc | apply Kd.R_drewN | apply Kd.R_drew)); exact HO267.out) hg hat); have n4_ := zC.mk (hb); have n5_ := zC.mk (ho); clear HO_14; clear BK259; clear BK260; clear HO267; clear HB; clear HO_6; have HO_14 := n0_; have BK259 := n1_; have BK260 := n2_; have HO267 := n3_; have HB := n4_; have HO271 := n5_; clear n0_ n1_ n2_ n3_ n4_ n5_; clear ho hb hg hat))
    go_roundg k1
    case measure => have := HK1.out; omega
    case rel => exact ⟨(y269), (t268), (rd t261 x16_1), (wrap64 (x16_1 + 1)), (by first | rfl | (simp; done) | (simp [*]; done)), (by first | rfl | (simp; done) | (simp [*]; done)), (by first | rfl | (simp; done) | (simp [*]; done)), H', ⟨by have := HK1.out; omega⟩, ⟨by (with_reducible repeat (first | apply Kd.R_alloc | apply Kd.R_drewN | apply Kd.R_drew)); exact Kd.R_mono HO271.out (fun _ hk => trivial)⟩, ⟨by (with_reducible repeat (first | apply Kd.R_alloc | apply Kd.R_drewN | apply Kd.R_drew)); exact HO_14.out⟩, ⟨by (with_reducible repeat (first | refine zB ?_ _ | refine zD ?_ | refine zA ?_ _)); exact BK259.out⟩, ⟨by (with_reducible repeat (first | refine zB ?_ _ | refine zD ?_ | refine zA ?_ _)); exact BK260.out⟩, ⟨by repeat (first | (with_reducible first | exact HB.out | apply zJ | apply zG | apply zI | refine zE ?_ GE259.out | refine zE ?_ GE260.out) | exact HB.out)⟩⟩
end Go.Proofs.Ytcnblneghbgjgaa.F
end
section
namespace Go.Proofs.Ytcnblneghbgjgaa.F
open Go.RowKit Go.Proofs.YtcnblneghbgjgaaW.PrintWords Go.Proofs.YtcnblneghbgjgaaW.PrintLast Go.Proofs.YtcnblneghbgjgaaW.PrintMore
attribute [local go_sem] max2_int min2_int max_two min_two max_three min_three max_four min_four   -- for this text's walks alone
set_option linter.unusedVariables false
set_option linter.unusedSimpArgs false
def lines_Rows.l0 : Nat → List (S53) → List (S54) → Int → Int → List (S66) → List Int → Option ((List (S53)))
  | 0, _, _, _, _, _, _ => none
  | k + 1, x5, x14, x15, x16, x273000, x273001 => if x16 < x15 then (if 0 ≤ x16 then (if x16 < (x14.length : Int) then (if 0 ≤ (wrap64 (((rd_T54 x14 x16).f1) - 1)) then (if (wrap64 (((rd_T54 x14 x16).f1) - 1)) < (x273000.length : Int) then (if 0 ≤ ((rd_T54 x14 x16).f0) then (if ((rd_T54 x14 x16).f0) < (x273000.length : Int) then (if x5.length < 4398046511104 then (lines_Rows.l0 k (x5 ++ [(⟨(rd_T66 x273000 ((rd_T54 x14 x16).f0)).f0, wrap64 (((rd_T66 x273000 (wrap64 (((rd_T54 x14 x16).f1) - 1))).f0) + ((rd_T66 x273000 (wrap64 (((rd_T54 x14 x16).f1) - 1))).f1)), (rd_T54 x14 x16).f2, (rd_T54 x14 x16).f3⟩ : S53)]) x14 x15 (wrap64 (x16 + 1)) x273000 x273001) else (none)) else (none)) else (none)) else (none)) else (none)) else (none)) else (none)) else (some x5)
def lines_Rows.f (k : Nat) (l0_0 : List (S66)) (l0_1 : List Int) (l1 : List (S54)) : Option ((List (S53))) := if (l1.length : Int) = 0 then (some (([(⟨0, 0, 0, 2⟩ : S53)] : List (S53)))) else (lines_Rows.l0 k ([] : List (S53)) l1 (l1.length : Int) 0 l0_0 l0_1)
theorem lines_Rows.mono_l : ∀ k, (∀ y0 y1 y2 y3 y4 y5, LeO (lines_Rows.l0 k y0 y1 y2 y3 y4 y5) (lines_Rows.l0 (k + 1) y0 y1 y2 y3 y4 y5))
  | 0 => fun _ _ _ _ _ _ r h => by simp [lines_Rows.l0] at h
  | k + 1 => by
    have ih0 := lines_Rows.mono_l k
    · intro y0 y1 y2 y3 y4 y5
      unfold lines_Rows.l0
      repeat' first
      | (with_reducible exact ih0 _ _ _ _ _ _)
      | (with_reducible exact LeO.refl _)
      | (with_reducible exact LeO.none _)
      | (with_reducible refine LeO.ite ?_ ?_)
      | (with_reducible refine LeO.bind ?_ (fun _ => ?_))
      | exact ih0 _ _ _ _ _ _
      | exact LeO.none _
      | refine LeO.ite ?_ ?_
      | refine LeO.bind ?_ (fun _ => ?_)
theorem lines_Rows.mono : ∀ a0 a1 a2 k, LeO (lines_Rows.f k a0 a1 a2) (lines_Rows.f (k + 1) a0 a1 a2) := by
  intro a0 a1 a2 k
  have ih0 := lines_Rows.mono_l k; unfold lines_Rows.f
  repeat' first
      | (with_reducible exact ih0 _ _ _ _ _ _)
      | (with_reducible exact LeO.refl _)
      | (with_reducible exact LeO.none _)
      | (with_reducible refine LeO.ite ?_ ?_)
      | (with_reducible refine LeO.bind ?_ (fun _ => ?_))
      | exact ih0 _ _ _ _ _ _
      | exact LeO.none _
      | refine LeO.ite ?_ ?_
      | refine LeO.bind ?_ (fun _ => ?_)
def lines_Rows.T8 : Bool × List (List Nat × List Nat) := (true, [([], []), ([], []), ([1], [1]), ([], []), ([3], [3]), ([2, 4], [2, 4]), ([5], [5]), ([6], [6]), ([], []), ([8], [8]), ([], []), ([10], [10]), ([9, 11], [9, 11]), ([], []), ([13], [13]), ([], []), ([15], [15]), ([7, 12, 14, 16], [7, 12, 14, 16]), ([17], [17]), ([0, 18], [0, 18]), ([19, 19, 0, 1, 2, 3, 4, 5, 6, 7, 8, 9, 10, 11, 12, 13, 14, 15, 16, 17, 18, 19], [0, 19])])
def lines_Rows.B8 : List Nat := [0, 0, 2, 0, 8, 30, 62, 126, 0, 256, 0, 1024, 3840, 0, 8192, 0, 32768, 131070, 262142, 524287, 1048575]
theorem lines_Rows.tab8 : rtab .any (opsOf Try.f16 8) = lines_Rows.T8 := by kernel_rfl
theorem lines_Rows.bits8 : waitsOk lines_Rows.T8.2 lines_Rows.B8 = true := by kernel_rfl
set_option maxHeartbeats 8000000 in
set_option maxRecDepth 100000 in
theorem lines_Rows.calls (k : Nat) (A0_0 : Option Addr) (c0_0 : Nat) (l0_0 : List (S66)) (A0_1 : Option Addr) (c0_1 : Nat) (l0_1 : List Int) (A1 : Option Addr) (c1 : Nat) (l1 : List (S54)) (r : List (S53)) (w : World) (hr0_0 : Kd.C k66 w A0_0 l0_0.length l0_0) (hc0_0 : l0_0.length ≤ c0_0) (hr0_1 : Kd.C (Kd.int .u8) w A0_1 l0_1.length l0_1) (hc0_1 : l0_1.length ≤ c0_1) (hr1 : Kd.C k54 w A1 l1.length l1) (hc1 : l1.length ≤ c1) (h : lines_Rows.f k l0_0 l0_1 l1 = some r) :
    Calls Try.prog 16 #[.agg #[.slice A0_0 l0_0.length c0_0, .slice A0_1 l0_1.length c0_1], .slice A1 l1.length c1] w fun e w' => ∃ v0_ : Value, e = .returned (v0_) ∧ Kd.R k53 53 w' w.heap.size (fun _ => True) v0_ r ∧ Below w.heap.size w w' := by
  have hu31 := Try.underlying31; have hu53 := Try.underlying53; have hu54 := Try.underlying54; have hu66 := Try.underlying66; have HR0_0 := zC.mk hr0_0; have HC0_0 := zC.mk hc0_0; clear hr0_0 hc0_0; have HR0_1 := zC.mk hr0_1; have HC0_1 := zC.mk hc0_1; clear hr0_1 hc0_1; have HR1 := zC.mk hr1; have HC1 := zC.mk hc1; clear hr1 hc1; have HB := zC.mk (Below.refl w.heap.size w); have H : (if (l1.length : Int) = 0 then (some (([(⟨0, 0, 0, 2⟩ : S53)] : List (S53)))) else (lines_Rows.l0 k ([] : List (S53)) l1 (l1.length : Int) 0 l0_0 l0_1)) = some r := h
  clear h; by_cases c3 : (l1.length : Int) = 0
  · rw [if_pos c3] at H
    have c3b0 : ((l1.length : Int) == 0) = true := beq_iff_eq.mpr c3
    have c3b1 : ((l1.length : Int) != 0) = false := bne_eq_false_iff_eq.mpr c3
    clear c3; obtain ⟨y273, hy273⟩ : ∃ y_ : List (S53), y_ = (([(⟨0, 0, 0, 2⟩ : S53)] : List (S53))) := ⟨_, rfl⟩; replace H : (some y273) = some r := by first | (rw [hy273]; with_reducible exact H) | (have H2_ := (Option.bind_some _ _).symm.trans H; rw [hy273]; with_reducible exact H2_) | (have H2_ := (Option.bind_some _ _).symm.trans H; with_reducible exact H2_) | with_reducible exact H | (rw [hy273]; exact H) | exact H
    have Ny273 := zC.mk hy273; clear hy273; obtain rfl := Option.some.inj H
    go_enter Try.func16, Try.ntmps16
    go_wp2_with (first | ((with_reducible refine gate_dst (N := 2) rfl ?_); refine box_event ?hg (N := 2) ?hd (cs := #[.slice A0_0 l0_0.length c0_0, .slice A0_1 l0_1.length c0_1]) (t := 31) ?hr ?_; (case hd => rfl); (case hg => rfl); (case hr => first | (go_simp; done) | (go_simp; rfl)); intro gb272 hg w4 hbox hb; have n0_ := zC.mk (zQ (by repeat (first | (with_reducible first | exact HB.out | apply zJ | apply zG | apply zI) | exact HB.out)) hb); have n1_ := zC.mk (hbox); have n2_ := zC.mk ((by rw [hg]; exact (zP (by repeat (first | (with_reducible first | exact HB.out | apply zJ | apply zG | apply zI) | exact HB.out))) : w.heap.size ≤ gb272)); have n3_ := zC.mk ((by rw [hg]; exact (zP (by repeat (first | (with_reducible first | exact HB.out | apply zJ | apply zG | apply zI) | exact HB.out))) : w.heap.size ≤ gb272)); clear HB; have HB := n0_; have BK272 := n1_; have GW272 := n2_; have GE272 := n3_; clear n0_ n1_ n2_ n3_; clear hb hbox hg) | ((with_reducible refine gate_dst (N := 13) rfl ?_); refine Kd.R_lit k53 _ 53 ?hg (N := 13) ?hd (xs := ([(⟨0, 0, 0, 2⟩ : S53)] : List (S53))) (inner := [.int .i64 0, .int .i64 0, .int .i64 0, .int .u8 2]) (ok := fun _ => True) (okp := fun _ => True) ?hr ?hp (fun _ hk => hk) trivial (Below.refl _ _) (Nat.le_refl _) (by simp) ?_; (case hd => rfl); (case hg => rfl); (case hr => first | (go_simp; done) | (go_simp; rfl)); (case hp => exact (Reps.c4 (show Kd.M k53 _ _ _ (⟨0, 0, 0, 2⟩ : S53) [.int .i64 0, .int .i64 0, .int .i64 0, .int .u8 2] from (k53_mkM _ _ _ (⟨0, 0, 0, 2⟩ : S53) )) (Reps.none _ _))); intro v274 w5 ho6 hb hg_ hnew_; clear hg_ hnew_; (first | rw [← Ny273.out] at ho6 | (simp only [Int.reduceToNat] at ho6; rw [← Ny273.out] at ho6)); have n0_ := zC.mk (Kd.R_lower ho6 (zP (by repeat (first | (with_reducible first | exact HB.out | apply zJ | apply zG | apply zI | refine zE ?_ GE272.out) | exact HB.out)))); have n1_ := zC.mk (zK (g := gb272) (o := .cells #[.slice A0_0 l0_0.length c0_0, .slice A0_1 l0_1.length c0_1] 31 (0, 0)) (by (with_reducible repeat (first | refine zB ?_ _ | refine zD ?_ | refine zA ?_ _)); exact BK272.out) hb); have n2_ := zC.mk (zQ (by repeat (first | (with_reducible first | exact HB.out | apply zJ | apply zG | apply zI | refine zE ?_ GE272.out) | exact HB.out)) hb); clear BK272; clear HB; have HO275 := n0_; have BK272 := n1_; have HB := n2_; clear n0_ n1_ n2_; clear hb ho6))
    go_ret
    exact ⟨_, by first | rfl | (simp [errW_none, errW_some] <;> rfl) | (simp [*, errW_none, errW_some] <;> rfl), by (with_reducible repeat (first | apply Kd.R_alloc | apply Kd.R_drewN | apply Kd.R_drew)); exact HO275.out, by repeat (first | (with_reducible first | exact HB.out | apply zJ | apply zG | apply zI | refine zE ?_ GE272.out) | exact HB.out)⟩
  rw [if_neg c3] at H; have c3b0 : ((l1.length : Int) == 0) = false := beq_eq_false_iff_ne.mpr c3
  have c3b1 : ((l1.length : Int) != 0) = true := bne_iff_ne.mpr c3
  have c3b2 : ¬ (l1 = []) := fun h_ => c3 (by rw [h_]; rfl)
  have H' := zC.mk H
  clear H; go_enter Try.func16, Try.ntmps16
  go_wp2_with (first | ((with_reducible refine gate_dst (N := 2) rfl ?_); refine box_event ?hg (N := 2) ?hd (cs := #[.slice A0_0 l0_0.length c0_0, .slice A0_1 l0_1.length c0_1]) (t := 31) ?hr ?_; (case hd => rfl); (case hg => rfl); (case hr => first | (go_simp; done) | (go_simp; rfl)); intro gb272 hg w7 hbox hb; have n0_ := zC.mk (zQ (by repeat (first | (with_reducible first | exact HB.out | apply zJ | apply zG | apply zI) | exact HB.out)) hb); have n1_ := zC.mk (hbox); have n2_ := zC.mk ((by rw [hg]; exact (zP (by repeat (first | (with_reducible first | exact HB.out | apply zJ | apply zG | apply zI) | exact HB.out))) : w.heap.size ≤ gb272)); have n3_ := zC.mk ((by rw [hg]; exact (zP (by repeat (first | (with_reducible first | exact HB.out | apply zJ | apply zG | apply zI) | exact HB.out))) : w.heap.size ≤ gb272)); clear HB; have HB := n0_; have BK272 := n1_; have GW272 := n2_; have GE272 := n3_; clear n0_ n1_ n2_ n3_; clear hb hbox hg))
  go_loopg [5, 16] k (fun kq v5 v16 w' => ∃ (x5_1 : List (S53)) (x16_1 : Int), v16 = .int .i64 x16_1 ∧ zC (lines_Rows.l0 kq x5_1 l1 (l1.length : Int) x16_1 l0_0 l0_1 = some r) ∧ zC (kq ≤ k) ∧ zC (Kd.R k53 53 w' w.heap.size (fun _ => True) v5 x5_1) ∧ zC (w'.heap[gb272]? = some (.cells #[(.slice A0_0 l0_0.length c0_0), (.slice A0_1 l0_1.length c0_1)] 31 (0, 0))) ∧ zC (Below w.heap.size w w'))
  case atStart => exact ⟨(([] : List (S53))), (0), (by first | rfl | (simp; done) | (simp [*]; done)), H', ⟨Nat.le_refl _⟩, ⟨by first | exact Kd.R_nil _ _ _ _ _ | exact Kd.N_nil _ _ _ _ _ | exact Kd.V_nil _ _ _ _ _ | exact Kd.Q_nil _ _ _ _ _ | exact Kd.S_nil _ _ _ _ _⟩, ⟨by (with_reducible repeat (first | refine zB ?_ _ | refine zD ?_ | refine zA ?_ _)); exact BK272.out⟩, ⟨by repeat (first | (with_reducible first | exact HB.out | apply zJ | apply zG | apply zI | refine zE ?_ GE272.out) | exact HB.out)⟩⟩
  clear H'; try clear c1
  try clear p2
  try clear c3
  try clear c3b0
  try clear c3b1
  try clear c3b2
  try clear c4
  obtain ⟨x5_1, x16_1, rfl, HA, HK1, HO_5, BK272, HB⟩ := hrel; cases gk with
  | zero => exact absurd HA.out (by simp [lines_Rows.l0])
  | succ k1 =>
    have H := HA.out; clear HA; simp only [lines_Rows.l0] at H; by_cases c8 : x16_1 < (l1.length : Int)
    rotate_left
    · rw [if_neg c8] at H
      have c8b0 : decide (x16_1 < (l1.length : Int)) = false := decide_eq_false c8
      clear c8; obtain rfl := Option.some.inj H
      go_wp2
      go_ret
      exact ⟨_, by first | rfl | (simp [errW_none, errW_some] <;> rfl) | (simp [*, errW_none, errW_some] <;> rfl), by (with_reducible repeat (first | apply Kd.R_alloc | apply Kd.R_drewN | apply Kd.R_drew)); exact HO_5.out, by repeat (first | (with_reducible first | exact HB.out | apply zJ | apply zG | apply zI | refine zE ?_ GE272.out) | exact HB.out)⟩
    rw [if_pos c8] at H; have c8b0 : decide (x16_1 < (l1.length : Int)) = true := decide_eq_true c8
    clear c8; by_cases c9 : 0 ≤ x16_1
    rotate_left
    · rw [if_neg c9] at H
      exact absurd H (by simp)
    rw [if_pos c9] at H; have c9b0 : decide (0 ≤ x16_1) = true := decide_eq_true c9
    clear c9; by_cases c10 : x16_1 < (l1.length : Int)
    rotate_left
    · rw [if_neg c10] at H
      exact absurd H (by simp)
    rw [if_pos c10] at H; have c10b0 : decide (x16_1 < (l1.length : Int)) = true := decide_eq_true c10
    clear c10; obtain ⟨ji11, hji11⟩ : ∃ j_ : Int, (wrap64 (((rd_T54 l1 x16_1).f1) - 1)) = j_ := ⟨_, rfl⟩; replace H : (if 0 ≤ (ji11) then (if (ji11) < (l0_0.length : Int) then (if 0 ≤ ((rd_T54 l1 x16_1).f0) then (if ((rd_T54 l1 x16_1).f0) < (l0_0.length : Int) then (if x5_1.length < 4398046511104 then (lines_Rows.l0 k1 (x5_1 ++ [(⟨(rd_T66 l0_0 ((rd_T54 l1 x16_1).f0)).f0, wrap64 (((rd_T66 l0_0 (ji11)).f0) + ((rd_T66 l0_0 (ji11)).f1)), (rd_T54 l1 x16_1).f2, (rd_T54 l1 x16_1).f3⟩ : S53)]) l1 (l1.length : Int) (wrap64 (x16_1 + 1)) l0_0 l0_1) else (none)) else (none)) else (none)) else (none)) else (none)) = some r := by first | (rw [hji11] at H; exact H) | (simp only [hji11] at H ⊢; exact H)
    have hji11w : (IntKind.i64.wrap (((rd_T54 l1 x16_1).f1) - 1)) = ji11 := (zL _).trans hji11
    by_cases c12 : 0 ≤ (ji11)
    rotate_left
    · rw [if_neg c12] at H
      exact absurd H (by simp)
    rw [if_pos c12] at H; have c12b0 : decide (0 ≤ (ji11)) = true := decide_eq_true c12
    clear c12; by_cases c13 : (ji11) < (l0_0.length : Int)
    rotate_left
    · rw [if_neg c13] at H
      exact absurd H (by simp)
    rw [if_pos c13] at H; have c13b0 : decide ((ji11) < (l0_0.length : Int)) = true := decide_eq_true c13
    clear c13; by_cases c14 : 0 ≤ ((rd_T54 l1 x16_1).f0)
    rotate_left
    · rw [if_neg c14] at H
      exact absurd H (by simp)
    rw [if_pos c14] at H; have c14b0 : decide (0 ≤ ((rd_T54 l1 x16_1).f0)) = true := decide_eq_true c14
    clear c14; by_cases c15 : ((rd_T54 l1 x16_1).f0) < (l0_0.length : Int)
    rotate_left
    · rw [if_neg c15] at H
      exact absurd H (by simp)
    rw [if_pos c15] at H; have c15b0 : decide (((rd_T54 l1 x16_1).f0) < (l0_0.length : Int)) = true := decide_eq_true c15
    clear c15; by_cases c16 : x5_1.length < 4398046511104
    rotate_left
    · rw [if_neg c16] at H
      exact absurd H (by simp)
    rw [if_pos c16] at H; have LMc16 := zC.mk c16; clear c16; obtain ⟨y281, hy281⟩ : ∃ y_ : List (S53), y_ = (x5_1 ++ [(⟨(rd_T66 l0_0 ((rd_T54 l1 x16_1).f0)).f0, wrap64 (((rd_T66 l0_0 (ji11)).f0) + ((rd_T66 l0_0 (ji11)).f1)), (rd_T54 l1 x16_1).f2, (rd_T54 l1 x16_1).f3⟩ : S53)]) := ⟨_, rfl⟩; replace H : (lines_Rows.l0 k1 y281 l1 (l1.length : Int) (wrap64 (x16_1 + 1)) l0_0 l0_1) = some r := by first | (rw [hy281]; with_reducible exact H) | (have H2_ := (Option.bind_some _ _).symm.trans H; rw [hy281]; with_reducible exact H2_) | (have H2_ := (Option.bind_some _ _).symm.trans H; with_reducible exact H2_) | with_reducible exact H | (rw [hy281]; exact H) | exact H
    have Ny281 := zC.mk hy281; clear hy281; have H' := zC.mk H
    clear H; have p276 : 0 ≤ (x16_1 : Int) := of_decide_eq_true (by first | (with_reducible assumption) | assumption)
    have q276 : x16_1 < (l1.length : Int) := of_decide_eq_true (by first | (with_reducible assumption) | assumption)
    obtain ⟨ad276, e276, hx276_0, hx276_1, hx276_2, hx276_3⟩ := at_T54 HR1.out x16_1 p276 q276; cases e276
    replace hx276_0 := (HB.out.cell (World.block_lt_of_cell? w _ hx276_0)).trans hx276_0; replace hx276_1 := (HB.out.cell (World.block_lt_of_cell? w _ hx276_1)).trans hx276_1; replace hx276_2 := (HB.out.cell (World.block_lt_of_cell? w _ hx276_2)).trans hx276_2; replace hx276_3 := (HB.out.cell (World.block_lt_of_cell? w _ hx276_3)).trans hx276_3; replace p276 := eq_true p276; replace q276 := eq_true q276; try go_wp2_with (first | ((with_reducible refine gate_dst (N := 7) rfl ?_); refine box_event ?hg (N := 7) ?hd (cs := #[.int .i64 0, .int .i64 0, .int .i64 0, .int .u8 0]) (t := 54) ?hr ?_; (case hd => rfl); (case hg => rfl); (case hr => first | (go_simp; done) | (go_simp; rfl)); intro gb277 hg w17 hbox hb; have n0_ := zC.mk (Kd.R_below (by (with_reducible repeat (first | apply Kd.R_alloc | apply Kd.R_drewN | apply Kd.R_drew)); exact HO_5.out) hb); have n1_ := zC.mk (zK (g := gb272) (o := .cells #[.slice A0_0 l0_0.length c0_0, .slice A0_1 l0_1.length c0_1] 31 (0, 0)) (by (with_reducible repeat (first | refine zB ?_ _ | refine zD ?_ | refine zA ?_ _)); exact BK272.out) hb); have n2_ := zC.mk (zQ (by repeat (first | (with_reducible first | exact HB.out | apply zJ | apply zG | apply zI | refine zE ?_ GE272.out) | exact HB.out)) hb); have n3_ := zC.mk (hbox); have n4_ := zC.mk ((by rw [hg]; exact (zP (by repeat (first | (with_reducible first | exact HB.out | apply zJ | apply zG | apply zI | refine zE ?_ GE272.out) | exact HB.out))) : w.heap.size ≤ gb277)); have n5_ := zC.mk ((by rw [hg]; exact (zP (by repeat (first | (with_reducible first | exact HB.out | apply zJ | apply zG | apply zI | refine zE ?_ GE272.out) | exact HB.out))) : w.heap.size ≤ gb277)); have n6_ := zC.mk ((by rw [hg]; exact Nat.ne_of_lt (blk_lt (g := gb272) (o := .cells #[.slice A0_0 l0_0.length c0_0, .slice A0_1 l0_1.length c0_1] 31 (0, 0)) (by (with_reducible repeat (first | refine zB ?_ _ | refine zD ?_ | refine zA ?_ _)); exact BK272.out)) : gb272 ≠ gb277)); have n7_ := zC.mk ((by rw [hg]; exact Nat.ne_of_gt (blk_lt (g := gb272) (o := .cells #[.slice A0_0 l0_0.length c0_0, .slice A0_1 l0_1.length c0_1] 31 (0, 0)) (by (with_reducible repeat (first | refine zB ?_ _ | refine zD ?_ | refine zA ?_ _)); exact BK272.out)) : gb277 ≠ gb272)); clear HO_5; clear BK272; clear HB; have HO_5 := n0_; have BK272 := n1_; have HB := n2_; have BK277 := n3_; have GW277 := n4_; have GE277 := n5_; have NB272_277 := n6_; have NB277_272 := n7_; clear n0_ n1_ n2_ n3_ n4_ n5_ n6_ n7_; clear hb hbox hg; have hnb18 := NB277_272.out; have hnc18 := NB272_277.out; have hcz19_0 : w17.cell? ⟨gb277, 0, none⟩ = some (.int .i64 0) := (zF BK277.out 0).trans rfl; have hcz19_1 : w17.cell? ⟨gb277, 1, none⟩ = some (.int .i64 0) := (zF BK277.out 1).trans rfl; have hcz19_2 : w17.cell? ⟨gb277, 2, none⟩ = some (.int .i64 0) := (zF BK277.out 2).trans rfl; have hcz19_3 : w17.cell? ⟨gb277, 3, none⟩ = some (.int .u8 0) := (zF BK277.out 3).trans rfl; have hfz19_0 := zH BK277.out 0; have hfz19_1 := zH BK277.out 1; have hfz19_2 := zH BK277.out 2; have hfz19_3 := zH BK277.out 3) | ((with_reducible refine gate_store (t := 54) (p := 7) rfl ?_); refine store_event (t := 54) (p := 7) (v := ?vo_w20) (w1 := ((((w17.setCell ⟨gb277, 0, none⟩ (.int .i64 ((rd_T54 l1 x16_1).f0))).setCell ⟨gb277, 1, none⟩ (.int .i64 ((rd_T54 l1 x16_1).f1))).setCell ⟨gb277, 2, none⟩ (.int .i64 ((rd_T54 l1 x16_1).f2))).setCell ⟨gb277, 3, none⟩ (.int .u8 ((rd_T54 l1 x16_1).f3)))) ?hg ?ho ?hn ?hr ?_; (case ho => rfl); (case hg => rfl); (case hn => rfl); (case hr => first | (go_simp; done) | (go_simp; rfl)); intro w20 hw; have n0_ : zC (Kd.R k53 53 w20 w.heap.size (fun _ => True) u5 x5_1) := ⟨(by rw [hw]; exact (by (with_reducible repeat (first | apply Kd.R_alloc | apply Kd.R_drewN | apply Kd.R_drew)); exact Kd.R_mono (Kd.R_far (p := ⟨gb277, 3, none⟩) (Kd.R_far (p := ⟨gb277, 2, none⟩) (Kd.R_far (p := ⟨gb277, 1, none⟩) (Kd.R_far (p := ⟨gb277, 0, none⟩) (Kd.R_types HO_5.out BK277.out (by decide)) (fun _ hk => hk.2) (.int .i64 ((rd_T54 l1 x16_1).f0))) (fun _ hk => hk.2) (.int .i64 ((rd_T54 l1 x16_1).f1))) (fun _ hk => hk.2) (.int .i64 ((rd_T54 l1 x16_1).f2))) (fun _ hk => hk.2) (.int .u8 ((rd_T54 l1 x16_1).f3))) (fun _ hk => trivial)))⟩; have n1_ : zC (w20.heap[gb272]? = some (.cells #[.slice A0_0 l0_0.length c0_0, .slice A0_1 l0_1.length c0_1] 31 (0, 0))) := ⟨(by rw [hw]; exact (by (with_reducible repeat (first | refine zB ?_ _ | refine zD ?_ | refine zA ?_ _)); refine zO ?_ NB272_277.out _; (with_reducible repeat (first | refine zB ?_ _ | refine zD ?_ | refine zA ?_ _)); refine zO ?_ NB272_277.out _; (with_reducible repeat (first | refine zB ?_ _ | refine zD ?_ | refine zA ?_ _)); refine zO ?_ NB272_277.out _; (with_reducible repeat (first | refine zB ?_ _ | refine zD ?_ | refine zA ?_ _)); refine zO ?_ NB272_277.out _; (with_reducible repeat (first | refine zB ?_ _ | refine zD ?_ | refine zA ?_ _)); exact BK272.out))⟩; have n2_ : zC (w20.heap[gb277]? = some (.cells #[.int .i64 ((rd_T54 l1 x16_1).f0), .int .i64 ((rd_T54 l1 x16_1).f1), .int .i64 ((rd_T54 l1 x16_1).f2), .int .u8 ((rd_T54 l1 x16_1).f3)] 54 (0, 0))) := ⟨(by rw [hw]; exact (by (with_reducible repeat (first | refine zB ?_ _ | refine zD ?_ | refine zA ?_ _)); refine blk_put (cs := #[.int .i64 ((rd_T54 l1 x16_1).f0), .int .i64 ((rd_T54 l1 x16_1).f1), .int .i64 ((rd_T54 l1 x16_1).f2), .int .u8 0]) ?_ 3 _ rfl; (with_reducible repeat (first | refine zB ?_ _ | refine zD ?_ | refine zA ?_ _)); refine blk_put (cs := #[.int .i64 ((rd_T54 l1 x16_1).f0), .int .i64 ((rd_T54 l1 x16_1).f1), .int .i64 0, .int .u8 0]) ?_ 2 _ rfl; (with_reducible repeat (first | refine zB ?_ _ | refine zD ?_ | refine zA ?_ _)); refine blk_put (cs := #[.int .i64 ((rd_T54 l1 x16_1).f0), .int .i64 0, .int .i64 0, .int .u8 0]) ?_ 1 _ rfl; (with_reducible repeat (first | refine zB ?_ _ | refine zD ?_ | refine zA ?_ _)); refine blk_put (cs := #[.int .i64 0, .int .i64 0, .int .i64 0, .int .u8 0]) ?_ 0 _ rfl; (with_reducible repeat (first | refine zB ?_ _ | refine zD ?_ | refine zA ?_ _)); exact BK277.out))⟩; have n3_ : zC (Below w.heap.size w w20) := ⟨(by rw [hw]; exact (by repeat (first | (with_reducible first | exact HB.out | apply zJ | apply zG | apply zI | refine zE ?_ GE272.out | refine zE ?_ GE277.out) | exact HB.out)))⟩; clear hw; clear HO_5; clear BK272; clear BK277; clear HB; have HO_5 := n0_; have BK272 := n1_; have BK277 := n2_; have HB := n3_; clear n0_ n1_ n2_ n3_; have hcz21_0 : w20.cell? ⟨gb272, 0, none⟩ = some (.slice A0_0 l0_0.length c0_0) := (zF BK272.out 0).trans rfl; have hcz21_1 : w20.cell? ⟨gb272, 1, none⟩ = some (.slice A0_1 l0_1.length c0_1) := (zF BK272.out 1).trans rfl; have hfz21_0 := zH BK272.out 0; have hfz21_1 := zH BK272.out 1; have hcz22_0 : w20.cell? ⟨gb277, 0, none⟩ = some (.int .i64 ((rd_T54 l1 x16_1).f0)) := (zF BK277.out 0).trans rfl; have hcz22_1 : w20.cell? ⟨gb277, 1, none⟩ = some (.int .i64 ((rd_T54 l1 x16_1).f1)) := (zF BK277.out 1).trans rfl; have hcz22_2 : w20.cell? ⟨gb277, 2, none⟩ = some (.int .i64 ((rd_T54 l1 x16_1).f2)) := (zF BK277.out 2).trans rfl; have hcz22_3 : w20.cell? ⟨gb277, 3, none⟩ = some (.int .u8 ((rd_T54 l1 x16_1).f3)) := (zF BK277.out 3).trans rfl; have hfz22_0 := zH BK277.out 0; have hfz22_1 := zH BK277.out 1; have hfz22_2 := zH BK277.out 2; have hfz22_3 := zH BK277.out 3; have p278 : 0 ≤ ((ji11) : Int) := of_decide_eq_true (by first | (with_reducible assumption) | assumption); have q278 : (ji11) < (l0_0.length : Int) := of_decide_eq_true (by first | (with_reducible assumption) | assumption); obtain ⟨ad278, e278, hx278_0, hx278_1, hx278_2, hx278_3⟩ := at_T66 HR0_0.out (ji11) p278 q278; cases e278; replace hx278_0 := (HB.out.cell (World.block_lt_of_cell? w _ hx278_0)).trans hx278_0; replace hx278_1 := (HB.out.cell (World.block_lt_of_cell? w _ hx278_1)).trans hx278_1; replace hx278_2 := (HB.out.cell (World.block_lt_of_cell? w _ hx278_2)).trans hx278_2; replace hx278_3 := (HB.out.cell (World.block_lt_of_cell? w _ hx278_3)).trans hx278_3; replace p278 := eq_true p278; replace q278 := eq_true q278) | ((with_reducible refine gate_dst (N := 8) rfl ?_); refine box_event ?hg (N := 8) ?hd (cs := #[.int .i64 0, .int .i64 0, .int .i64 0, .int .u8 0]) (t := 66) ?hr ?_; (case hd => rfl); (case hg => rfl); (case hr => first | (go_simp; done) | (go_simp; rfl)); intro gb279 hg w23 hbox hb; have n0_ := zC.mk (Kd.R_below (by (with_reducible repeat (first | apply Kd.R_alloc | apply Kd.R_drewN | apply Kd.R_drew)); exact HO_5.out) hb); have n1_ := zC.mk (zK (g := gb272) (o := .cells #[.slice (some ad278) l0_0.length c0_0, .slice A0_1 l0_1.length c0_1] 31 (0, 0)) (by (with_reducible repeat (first | refine zB ?_ _ | refine zD ?_ | refine zA ?_ _)); exact BK272.out) hb); have n2_ := zC.mk (zK (g := gb277) (o := .cells #[.int .i64 ((rd_T54 l1 x16_1).f0), .int .i64 ((rd_T54 l1 x16_1).f1), .int .i64 ((rd_T54 l1 x16_1).f2), .int .u8 ((rd_T54 l1 x16_1).f3)] 54 (0, 0)) (by (with_reducible repeat (first | refine zB ?_ _ | refine zD ?_ | refine zA ?_ _)); exact BK277.out) hb); have n3_ := zC.mk (zQ (by repeat (first | (with_reducible first | exact HB.out | apply zJ | apply zG | apply zI | refine zE ?_ GE272.out | refine zE ?_ GE277.out) | exact HB.out)) hb); have n4_ := zC.mk (hbox); have n5_ := zC.mk ((by rw [hg]; exact (zP (by repeat (first | (with_reducible first | exact HB.out | apply zJ | apply zG | apply zI | refine zE ?_ GE272.out | refine zE ?_ GE277.out) | exact HB.out))) : w.heap.size ≤ gb279)); have n6_ := zC.mk ((by rw [hg]; exact (zP (by repeat (first | (with_reducible first | exact HB.out | apply zJ | apply zG | apply zI | refine zE ?_ GE272.out | refine zE ?_ GE277.out) | exact HB.out))) : w.heap.size ≤ gb279)); have n7_ := zC.mk ((by rw [hg]; exact Nat.ne_of_lt (blk_lt (g := gb272) (o := .cells #[.slice (some ad278) l0_0.length c0_0, .slice A0_1 l0_1.length c0_1] 31 (0, 0)) (by (with_reducible repeat (first | refine zB ?_ _ | refine zD ?_ | refine zA ?_ _)); exact BK272.out)) : gb272 ≠ gb279)); have n8_ := zC.mk ((by rw [hg]; exact Nat.ne_of_gt (blk_lt (g := gb272) (o := .cells #[.slice (some ad278) l0_0.length c0_0, .slice A0_1 l0_1.length c0_1] 31 (0, 0)) (by (with_reducible repeat (first | refine zB ?_ _ | refine zD ?_ | refine zA ?_ _)); exact BK272.out)) : gb279 ≠ gb272)); have n9_ := zC.mk ((by rw [hg]; exact Nat.ne_of_lt (blk_lt (g := gb277) (o := .cells #[.int .i64 ((rd_T54 l1 x16_1).f0), .int .i64 ((rd_T54 l1 x16_1).f1), .int .i64 ((rd_T54 l1 x16_1).f2), .int .u8 ((rd_T54 l1 x16_1).f3)] 54 (0, 0)) (by (with_reducible repeat (first | refine zB ?_ _ | refine zD ?_ | refine zA ?_ _)); exact BK277.out)) : gb277 ≠ gb279)); have n10_ := zC.mk ((by rw [hg]; exact Nat.ne_of_gt (blk_lt (g := gb277) (o := .cells #[.int .i64 ((rd_T54 l1 x16_1).f0), .int .i64 ((rd_T54 l1 x16_1).f1), .int .i64 ((rd_T54 l1 x16_1).f2), .int .u8 ((rd_T54 l1 x16_1).f3)] 54 (0, 0)) (by (with_reducible repeat (first | refine zB ?_ _ | refine zD ?_ | refine zA ?_ _)); exact BK277.out)) : gb279 ≠ gb277)); clear HO_5; clear BK272; clear BK277; clear HB; have HO_5 := n0_; have BK272 := n1_; have BK277 := n2_; have HB := n3_; have BK279 := n4_; have GW279 := n5_; have GE279 := n6_; have NB272_279 := n7_; have NB279_272 := n8_; have NB277_279 := n9_; have NB279_277 := n10_; clear n0_ n1_ n2_ n3_ n4_ n5_ n6_ n7_ n8_ n9_ n10_; clear hb hbox hg; have hnb24 := NB279_272.out; have hnc24 := NB272_279.out; have hnb25 := NB279_277.out; have hnc25 := NB277_279.out; have hcz26_0 : w23.cell? ⟨gb279, 0, none⟩ = some (.int .i64 0) := (zF BK279.out 0).trans rfl; have hcz26_1 : w23.cell? ⟨gb279, 1, none⟩ = some (.int .i64 0) := (zF BK279.out 1).trans rfl; have hcz26_2 : w23.cell? ⟨gb279, 2, none⟩ = some (.int .i64 0) := (zF BK279.out 2).trans rfl; have hcz26_3 : w23.cell? ⟨gb279, 3, none⟩ = some (.int .u8 0) := (zF BK279.out 3).trans rfl; have hfz26_0 := zH BK279.out 0; have hfz26_1 := zH BK279.out 1; have hfz26_2 := zH BK279.out 2; have hfz26_3 := zH BK279.out 3) | ((with_reducible refine gate_store (t := 66) (p := 8) rfl ?_); refine store_event (t := 66) (p := 8) (v := ?vo_w27) (w1 := ((((w23.setCell ⟨gb279, 0, none⟩ (.int .i64 ((rd_T66 l0_0 (ji11)).f0))).setCell ⟨gb279, 1, none⟩ (.int .i64 ((rd_T66 l0_0 (ji11)).f1))).setCell ⟨gb279, 2, none⟩ (.int .i64 ((rd_T66 l0_0 (ji11)).f2))).setCell ⟨gb279, 3, none⟩ (.int .u8 ((rd_T66 l0_0 (ji11)).f3)))) ?hg ?ho ?hn ?hr ?_; (case ho => rfl); (case hg => rfl); (case hn => rfl); (case hr => first | (go_simp; done) | (go_simp; rfl)); intro w27 hw; have n0_ : zC (Kd.R k53 53 w27 w.heap.size (fun _ => True) u5 x5_1) := ⟨(by rw [hw]; exact (by (with_reducible repeat (first | apply Kd.R_alloc | apply Kd.R_drewN | apply Kd.R_drew)); exact Kd.R_mono (Kd.R_far (p := ⟨gb279, 3, none⟩) (Kd.R_far (p := ⟨gb279, 2, none⟩) (Kd.R_far (p := ⟨gb279, 1, none⟩) (Kd.R_far (p := ⟨gb279, 0, none⟩) (Kd.R_types HO_5.out BK279.out (by decide)) (fun _ hk => hk.2) (.int .i64 ((rd_T66 l0_0 (ji11)).f0))) (fun _ hk => hk.2) (.int .i64 ((rd_T66 l0_0 (ji11)).f1))) (fun _ hk => hk.2) (.int .i64 ((rd_T66 l0_0 (ji11)).f2))) (fun _ hk => hk.2) (.int .u8 ((rd_T66 l0_0 (ji11)).f3))) (fun _ hk => trivial)))⟩; have n1_ : zC (w27.heap[gb272]? = some (.cells #[.slice (some ad278) l0_0.length c0_0, .slice A0_1 l0_1.length c0_1] 31 (0, 0))) := ⟨(by rw [hw]; exact (by (with_reducible repeat (first | refine zB ?_ _ | refine zD ?_ | refine zA ?_ _)); refine zO ?_ NB272_279.out _; (with_reducible repeat (first | refine zB ?_ _ | refine zD ?_ | refine zA ?_ _)); refine zO ?_ NB272_279.out _; (with_reducible repeat (first | refine zB ?_ _ | refine zD ?_ | refine zA ?_ _)); refine zO ?_ NB272_279.out _; (with_reducible repeat (first | refine zB ?_ _ | refine zD ?_ | refine zA ?_ _)); refine zO ?_ NB272_279.out _; (with_reducible repeat (first | refine zB ?_ _ | refine zD ?_ | refine zA ?_ _)); exact BK272.out))⟩; have n2_ : zC (w27.heap[gb277]? = some (.cells #[.int .i64 ((rd_T54 l1 x16_1).f0), .int .i64 ((rd_T54 l1 x16_1).f1), .int .i64 ((rd_T54 l1 x16_1).f2), .int .u8 ((rd_T54 l1 x16_1).f3)] 54 (0, 0))) := ⟨(by rw [hw]; exact (by (with_reducible repeat (first | refine zB ?_ _ | refine zD ?_ | refine zA ?_ _)); refine zO ?_ NB277_279.out _; (with_reducible repeat (first | refine zB ?_ _ | refine zD ?_ | refine zA ?_ _)); refine zO ?_ NB277_279.out _; (with_reducible repeat (first | refine zB ?_ _ | refine zD ?_ | refine zA ?_ _)); refine zO ?_ NB277_279.out _; (with_reducible repeat (first | refine zB ?_ _ | refine zD ?_ | refine zA ?_ _)); refine zO ?_ NB277_279.out _; (with_reducible repeat (first | refine zB ?_ _ | refine zD ?_ | refine zA ?_ _)); exact BK277.out))⟩; have n3_ : zC (w27.heap[gb279]? = some (.cells #[.int .i64 ((rd_T66 l0_0 (ji11)).f0), .int .i64 ((rd_T66 l0_0 (ji11)).f1), .int .i64 ((rd_T66 l0_0 (ji11)).f2), .int .u8 ((rd_T66 l0_0 (ji11)).f3)] 66 (0, 0))) := ⟨(by rw [hw]; exact (by (with_reducible repeat (first | refine zB ?_ _ | refine zD ?_ | refine zA ?_ _)); refine blk_put (cs := #[.int .i64 ((rd_T66 l0_0 (ji11)).f0), .int .i64 ((rd_T66 l0_0 (ji11)).f1), .int .i64 ((rd_T66 l0_0 (ji11)).f2), .int .u8 0]) ?_ 3 _ rfl; (with_reducible repeat (first | refine zB ?_ _ | refine zD ?_ | refine zA ?_ _)); refine blk_put (cs := #[.int .i64 ((rd_T66 l0_0 (ji11)).f0), .int .i64 ((rd_T66 l0_0 (ji11)).f1), .int .i64 0, .int .u8 0]) ?_ 2 _ rfl; (with_reducible repeat (first | refine zB ?_ _ | refine zD ?_ | refine zA ?_ _)); refine blk_put (cs := #[.int .i64 ((rd_T66 l0_0 (ji11)).f0), .int .i64 0, .int .i64 0, .int .u8 0]) ?_ 1 _ rfl; (with_reducible repeat (first | refine zB ?_ _ | refine zD ?_ | refine zA ?_ _)); refine blk_put (cs := #[.int .i64 0, .int .i64 0, .int .i64 0, .int .u8 0]) ?_ 0 _ rfl; (with_reducible repeat (first | refine zB ?_ _ | refine zD ?_ | refine zA ?_ _)); exact BK279.out))⟩; have n4_ : zC (Below w.heap.size w w27) := ⟨(by rw [hw]; exact (by repeat (first | (with_reducible first | exact HB.out | apply zJ | apply zG | apply zI | refine zE ?_ GE272.out | refine zE ?_ GE277.out | refine zE ?_ GE279.out) | exact HB.out)))⟩; clear hw; clear HO_5; clear BK272; clear BK277; clear BK279; clear HB; have HO_5 := n0_; have BK272 := n1_; have BK277 := n2_; have BK279 := n3_; have HB := n4_; clear n0_ n1_ n2_ n3_ n4_))
    have n0_ := zC.mk (Kd.R_drew HO_5.out); have n1_ := zC.mk (zD BK272.out); have n2_ := zC.mk (zD BK277.out); have n3_ := zC.mk (zD BK279.out); have n4_ := zC.mk (zI HB.out); clear HO_5; clear BK272; clear BK277; clear BK279; clear HB; have HO_5 := n0_; have BK272 := n1_; have BK277 := n2_; have BK279 := n3_; have HB := n4_; clear n0_ n1_ n2_ n3_ n4_; have p280 : 0 ≤ (((rd_T54 l1 x16_1).f0) : Int) := of_decide_eq_true (by first | (with_reducible assumption) | assumption)
    have q280 : ((rd_T54 l1 x16_1).f0) < (l0_0.length : Int) := of_decide_eq_true (by first | (with_reducible assumption) | assumption)
    obtain ⟨ad280, e280, hx280_0, hx280_1, hx280_2, hx280_3⟩ := at_T66 HR0_0.out ((rd_T54 l1 x16_1).f0) p280 q280; have hw280_3 := hx280_3; have hw280_2 := hx280_2; have hw280_1 := hx280_1; have hw280_0 := hx280_0; obtain rfl : ad278 = ad280 := (by injection e280)
    replace hx280_0 := (HB.out.cell (World.block_lt_of_cell? w _ hx280_0)).trans hx280_0; replace hx280_1 := (HB.out.cell (World.block_lt_of_cell? w _ hx280_1)).trans hx280_1; replace hx280_2 := (HB.out.cell (World.block_lt_of_cell? w _ hx280_2)).trans hx280_2; replace hx280_3 := (HB.out.cell (World.block_lt_of_cell? w _ hx280_3)).trans hx280_3; replace p280 := eq_true p280; replace q280 := eq_true q280; refine start_ (n := 21) (S := fun w' => w'.cell? ⟨gb272, 0, none⟩ = some (.slice (some ad278) l0_0.length c0_0) ∧ w'.cell? ⟨gb272, 1, none⟩ = some (.slice A0_1 l0_1.length c0_1) ∧ w'.cell? ⟨gb277, 0, none⟩ = some (.int .i64 ((rd_T54 l1 x16_1).f0)) ∧ w'.cell? ⟨gb277, 1, none⟩ = some (.int .i64 ((rd_T54 l1 x16_1).f1)) ∧ w'.cell? ⟨gb277, 2, none⟩ = some (.int .i64 ((rd_T54 l1 x16_1).f2)) ∧ w'.cell? ⟨gb277, 3, none⟩ = some (.int .u8 ((rd_T54 l1 x16_1).f3)) ∧ w'.cell? ⟨gb279, 0, none⟩ = some (.int .i64 ((rd_T66 l0_0 (ji11)).f0)) ∧ w'.cell? ⟨gb279, 1, none⟩ = some (.int .i64 ((rd_T66 l0_0 (ji11)).f1)) ∧ w'.cell? ⟨gb279, 2, none⟩ = some (.int .i64 ((rd_T66 l0_0 (ji11)).f2)) ∧ w'.cell? ⟨gb279, 3, none⟩ = some (.int .u8 ((rd_T66 l0_0 (ji11)).f3)) ∧ w'.cell? (ad278.add ((((rd_T54 l1 x16_1).f0)).toNat * 4)) = some (.int .i64 ((rd_T66 l0_0 ((rd_T54 l1 x16_1).f0)).f0)) ∧ w'.cell? ⟨(ad278.add ((((rd_T54 l1 x16_1).f0)).toNat * 4)).block, (ad278.add ((((rd_T54 l1 x16_1).f0)).toNat * 4)).off + 1, none⟩ = some (.int .i64 ((rd_T66 l0_0 ((rd_T54 l1 x16_1).f0)).f1)) ∧ w'.cell? ⟨(ad278.add ((((rd_T54 l1 x16_1).f0)).toNat * 4)).block, (ad278.add ((((rd_T54 l1 x16_1).f0)).toNat * 4)).off + 2, none⟩ = some (.int .i64 ((rd_T66 l0_0 ((rd_T54 l1 x16_1).f0)).f2)) ∧ w'.cell? ⟨(ad278.add ((((rd_T54 l1 x16_1).f0)).toNat * 4)).block, (ad278.add ((((rd_T54 l1 x16_1).f0)).toNat * 4)).off + 3, none⟩ = some (.int .u8 ((rd_T66 l0_0 ((rd_T54 l1 x16_1).f0)).f3))) (ds := []) #[false, false, false, false, false, false, false, false, false, false, false, false, false, false, false, false, false, false, false, false, false] (by kernel_rfl) rfl rfl ⟨(zF BK272.out 0).trans rfl, (zF BK272.out 1).trans rfl, (zF BK277.out 0).trans rfl, (zF BK277.out 1).trans rfl, (zF BK277.out 2).trans rfl, (zF BK277.out 3).trans rfl, (zF BK279.out 0).trans rfl, (zF BK279.out 1).trans rfl, (zF BK279.out 2).trans rfl, (zF BK279.out 3).trans rfl, ((HB.out.cell (World.block_lt_of_cell? w _ hw280_0)).trans hw280_0), ((HB.out.cell (World.block_lt_of_cell? w _ hw280_1)).trans hw280_1), ((HB.out.cell (World.block_lt_of_cell? w _ hw280_2)).trans hw280_2), ((HB.out.cell (World.block_lt_of_cell? w _ hw280_3)).trans hw280_3)⟩ (fun hHeld => ?_); refine with_tabW lines_Rows.tab8 lines_Rows.bits8 (fun HT_ HW_ => ?_)
    generalize w27.drew = w28 at HO_5 BK272 BK277 BK279 HB hx280_0 hx280_1 hx280_2 hx280_3 hHeld ⊢
    refine pure_ (i := 0) (N := some 27) (v := ?_) (a' := ?_) (tf_ 1 21) rfl rfl (zN HT_.out (by kernel_rfl)) (fun _ _ _ h => h) (Or.inl ⟨by rfl, ?_⟩) ?_ ?_
    rotate_left
    · intro w'
      go_simp
      with_reducible rfl
    rotate_left
    · simp only [Act.put, sA_, sB_, sC_, zL, zM]
      rfl
    refine pure_ (i := 1) (N := some 28) (v := ?_) (a' := ?_) (tf_ 2 21) rfl rfl (zN HT_.out (by kernel_rfl)) (fun _ _ _ h => h) (Or.inl ⟨by rfl, ?_⟩) ?_ ?_
    rotate_left
    · intro w'
      go_simp
      with_reducible rfl
    rotate_left
    · simp only [Act.put, sA_, sB_, sC_, zL, zM]
      rfl
    refine pure_ (i := 3) (N := some 30) (v := ?_) (a' := ?_) #[true, true, false, true, false, false, false, false, false, false, false, false, false, false, false, false, false, false, false, false, false] rfl rfl (zN HT_.out (by kernel_rfl)) (fun _ _ _ h => h) (Or.inl ⟨by rfl, ?_⟩) ?_ ?_
    rotate_left
    · intro w'
      go_simp
      with_reducible rfl
    rotate_left
    · simp only [Act.put, sA_, sB_, sC_, zL, zM]
      rfl
    refine pure_ (i := 8) (N := some 35) (v := ?_) (a' := ?_) #[true, true, false, true, false, false, false, false, true, false, false, false, false, false, false, false, false, false, false, false, false] rfl rfl (zN HT_.out (by kernel_rfl)) (fun _ _ _ h => h) (Or.inl ⟨by rfl, ?_⟩) ?_ ?_
    rotate_left
    · intro w'
      go_simp
      with_reducible rfl
    rotate_left
    · simp only [Act.put, sA_, sB_, sC_, zL, zM]
      rfl
    refine pure_ (i := 10) (N := some 37) (v := ?_) (a' := ?_) #[true, true, false, true, false, false, false, false, true, false, true, false, false, false, false, false, false, false, false, false, false] rfl rfl (zN HT_.out (by kernel_rfl)) (fun _ _ _ h => h) (Or.inl ⟨by rfl, ?_⟩) ?_ ?_
    rotate_left
    · intro w'
      go_simp
      with_reducible rfl
    rotate_left
    · simp only [Act.put, sA_, sB_, sC_, zL, zM]
      rfl
    refine pure_ (i := 13) (N := some 40) (v := ?_) (a' := ?_) #[true, true, false, true, false, false, false, false, true, false, true, false, false, true, false, false, false, false, false, false, false] rfl rfl (zN HT_.out (by kernel_rfl)) (fun _ _ _ h => h) (Or.inl ⟨by rfl, ?_⟩) ?_ ?_
    rotate_left
    · intro w'
      go_simp
      with_reducible rfl
    rotate_left
    · simp only [Act.put, sA_, sB_, sC_, zL, zM]
      rfl
    refine pure_ (i := 15) (N := some 42) (v := ?_) (a' := ?_) #[true, true, false, true, false, false, false, false, true, false, true, false, false, true, false, true, false, false, false, false, false] rfl rfl (zN HT_.out (by kernel_rfl)) (fun _ _ _ h => h) (Or.inl ⟨by rfl, ?_⟩) ?_ ?_
    rotate_left
    · intro w'
      go_simp
      with_reducible rfl
    rotate_left
    · simp only [Act.put, sA_, sB_, sC_, zL, zM]
      rfl
    refine take_ (i := 2) (N := some 29) (v := ?_) (a' := ?_) #[true, true, true, true, false, false, false, false, true, false, true, false, false, true, false, true, false, false, false, false, false] rfl rfl (take_ofW HT_.out HW_.out (by kernel_rfl)) (fun _ _ _ h => h) (Or.inl ⟨by rfl, ?_⟩) hHeld ?_ ?_
    rotate_left
    · rintro w' ⟨s0, s1, s2, s3, s4, s5, s6, s7, s8, s9, s10, s11, s12, s13⟩
      go_simp
      with_reducible rfl
    rotate_left
    · simp only [Act.put, sA_, sB_, sC_, zL, zM]
      rfl
    refine take_ (i := 4) (N := some 31) (v := ?_) (a' := ?_) #[true, true, true, true, true, false, false, false, true, false, true, false, false, true, false, true, false, false, false, false, false] rfl rfl (take_ofW HT_.out HW_.out (by kernel_rfl)) (fun _ _ _ h => h) (Or.inl ⟨by rfl, ?_⟩) hHeld ?_ ?_
    rotate_left
    · rintro w' ⟨s0, s1, s2, s3, s4, s5, s6, s7, s8, s9, s10, s11, s12, s13⟩
      go_simp
      with_reducible rfl
    rotate_left
    · simp only [Act.put, sA_, sB_, sC_, zL, zM]
      rfl
    refine pure_ (i := 5) (N := some 32) (v := ?_) (a' := ?_) #[true, true, true, true, true, true, false, false, true, false, true, false, false, true, false, true, false, false, false, false, false] rfl rfl (zN HT_.out (by kernel_rfl)) (fun _ _ _ h => h) (Or.inl ⟨by rfl, ?_⟩) ?_ ?_
    rotate_left
    · intro w'
      go_simp
      with_reducible rfl
    rotate_left
    · simp only [Act.put, sA_, sB_, sC_, zL, zM]
      rfl
    refine pure_ (i := 6) (N := some 33) (v := ?_) (a' := ?_) #[true, true, true, true, true, true, true, false, true, false, true, false, false, true, false, true, false, false, false, false, false] rfl rfl (zN HT_.out (by kernel_rfl)) (fun _ _ _ h => h) (Or.inl ⟨by rfl, ?_⟩) ?_ ?_
    rotate_left
    · intro w'
      go_simp
      with_reducible rfl
    rotate_left
    · simp only [Act.put, sA_, sB_, sC_, zL, zM]
      rfl
    refine take_ (i := 7) (N := some 34) (v := ?_) (a' := ?_) #[true, true, true, true, true, true, true, true, true, false, true, false, false, true, false, true, false, false, false, false, false] rfl rfl (take_ofW HT_.out HW_.out (by kernel_rfl)) (fun _ _ _ h => h) (Or.inl ⟨by rfl, ?_⟩) hHeld ?_ ?_
    rotate_left
    · rintro w' ⟨s0, s1, s2, s3, s4, s5, s6, s7, s8, s9, s10, s11, s12, s13⟩
      go_simp
      with_reducible rfl
    rotate_left
    · simp only [Act.put, sA_, sB_, sC_, zL, zM]
      rfl
    refine take_ (i := 9) (N := some 36) (v := ?_) (a' := ?_) #[true, true, true, true, true, true, true, true, true, true, true, false, false, true, false, true, false, false, false, false, false] rfl rfl (take_ofW HT_.out HW_.out (by kernel_rfl)) (fun _ _ _ h => h) (Or.inl ⟨by rfl, ?_⟩) hHeld ?_ ?_
    rotate_left
    · rintro w' ⟨s0, s1, s2, s3, s4, s5, s6, s7, s8, s9, s10, s11, s12, s13⟩
      go_simp
      with_reducible rfl
    rotate_left
    · simp only [Act.put, sA_, sB_, sC_, zL, zM]
      rfl
    refine take_ (i := 11) (N := some 38) (v := ?_) (a' := ?_) #[true, true, true, true, true, true, true, true, true, true, true, true, false, true, false, true, false, false, false, false, false] rfl rfl (take_ofW HT_.out HW_.out (by kernel_rfl)) (fun _ _ _ h => h) (Or.inl ⟨by rfl, ?_⟩) hHeld ?_ ?_
    rotate_left
    · rintro w' ⟨s0, s1, s2, s3, s4, s5, s6, s7, s8, s9, s10, s11, s12, s13⟩
      go_simp
      with_reducible rfl
    rotate_left
    · simp only [Act.put, sA_, sB_, sC_, zL, zM]
      rfl
    refine pure_ (i := 12) (N := some 39) (v := ?_) (a' := ?_) #[true, true, true, true, true, true, true, true, true, true, true, true, true, true, false, true, false, false, false, false, false] rfl rfl (zN HT_.out (by kernel_rfl)) (fun _ _ _ h => h) (Or.inl ⟨by rfl, ?_⟩) ?_ ?_
    rotate_left
    · intro w'
      go_simp
      with_reducible rfl
    rotate_left
    · simp only [Act.put, sA_, sB_, sC_, zL, zM]
      rfl
    refine take_ (i := 14) (N := some 41) (v := ?_) (a' := ?_) (tf_ 16 21) rfl rfl (take_ofW HT_.out HW_.out (by kernel_rfl)) (fun _ _ _ h => h) (Or.inl ⟨by rfl, ?_⟩) hHeld ?_ ?_
    rotate_left
    · rintro w' ⟨s0, s1, s2, s3, s4, s5, s6, s7, s8, s9, s10, s11, s12, s13⟩
      go_simp
      with_reducible rfl
    rotate_left
    · simp only [Act.put, sA_, sB_, sC_, zL, zM]
      rfl
    refine take_ (i := 16) (N := some 43) (v := ?_) (a' := ?_) (tf_ 17 21) rfl rfl (take_ofW HT_.out HW_.out (by kernel_rfl)) (fun _ _ _ h => h) (Or.inl ⟨by rfl, ?_⟩) hHeld ?_ ?_
    rotate_left
    · rintro w' ⟨s0, s1, s2, s3, s4, s5, s6, s7, s8, s9, s10, s11, s12, s13⟩
      go_simp
      with_reducible rfl
    rotate_left
    · simp only [Act.put, sA_, sB_, sC_, zL, zM]
      rfl
    refine pure_ (i := 17) (N := some 44) (v := ?_) (a' := ?_) (tf_ 18 21) rfl rfl (zN HT_.out (by kernel_rfl)) (fun _ _ _ h => h) (Or.inl ⟨by rfl, ?_⟩) ?_ ?_
    rotate_left
    · intro w'
      go_simp
      with_reducible rfl
    rotate_left
    · simp only [Act.put, sA_, sB_, sC_, zL, zM]
      rfl
    refine one_ (i := 18) (N := some 45) #[true, true, true, true, true, true, true, true, true, true, true, true, true, true, true, true, true, true, true, false, false] rfl rfl (one_of HT_.out (by kernel_rfl)) (by decide) (fun K hK => ?_)
    refine value_ (w1 := ?_) (v := ?_) (by rfl) rfl ?_ ?_
    rotate_left 2
    · go_simp
      constructor
      · rfl
      rfl
    refine hK.out _ _ ⟨(zF (zA BK272.out _) 0).trans rfl, (zF (zA BK272.out _) 1).trans rfl, (zF (zA BK277.out _) 0).trans rfl, (zF (zA BK277.out _) 1).trans rfl, (zF (zA BK277.out _) 2).trans rfl, (zF (zA BK277.out _) 3).trans rfl, (zF (zA BK279.out _) 0).trans rfl, (zF (zA BK279.out _) 1).trans rfl, (zF (zA BK279.out _) 2).trans rfl, (zF (zA BK279.out _) 3).trans rfl, (World.cell?_alloc_lt _ _ _ (World.block_lt_of_cell? _ _ (((HB.out.cell (World.block_lt_of_cell? w _ hw280_0)).trans hw280_0)))).trans (((HB.out.cell (World.block_lt_of_cell? w _ hw280_0)).trans hw280_0)), (World.cell?_alloc_lt _ _ _ (World.block_lt_of_cell? _ _ (((HB.out.cell (World.block_lt_of_cell? w _ hw280_1)).trans hw280_1)))).trans (((HB.out.cell (World.block_lt_of_cell? w _ hw280_1)).trans hw280_1)), (World.cell?_alloc_lt _ _ _ (World.block_lt_of_cell? _ _ (((HB.out.cell (World.block_lt_of_cell? w _ hw280_2)).trans hw280_2)))).trans (((HB.out.cell (World.block_lt_of_cell? w _ hw280_2)).trans hw280_2)), (World.cell?_alloc_lt _ _ _ (World.block_lt_of_cell? _ _ (((HB.out.cell (World.block_lt_of_cell? w _ hw280_3)).trans hw280_3)))).trans (((HB.out.cell (World.block_lt_of_cell? w _ hw280_3)).trans hw280_3))⟩ (fun hHeld => ?_)
    clear hK K; refine norm_ (a' := ?_) ?_ ?_
    rotate_left
    · show Act.put _ (some 45) _ = _
      simp only [Act.put, sA_, sB_, sC_, zL, zM]; rfl
    refine one_ (i := 19) (N := some 46) #[true, true, true, true, true, true, true, true, true, true, true, true, true, true, true, true, true, true, true, true, false] rfl rfl (one_of HT_.out (by kernel_rfl)) (by decide) (fun K hK => ?_)
    refine Kd.R_append_step k53 (w0 := w) w.heap.size (by rfl) (.tmp 27) (.tmp 45) 42 53 (.agg #[(.int .i64 0), (.int .i64 0), (.int .i64 0), (.int .u8 0)]) 32 rfl Try.underlying42 info53 rfl (by decide) (by omega) u5 x5_1 (⟨(rd_T66 l0_0 ((rd_T54 l1 x16_1).f0)).f0, wrap64 (((rd_T66 l0_0 (ji11)).f0) + ((rd_T66 l0_0 (ji11)).f1)), (rd_T54 l1 x16_1).f2, (rd_T54 l1 x16_1).f3⟩ : S53) [.int .i64 ((rd_T66 l0_0 ((rd_T54 l1 x16_1).f0)).f0), .int .i64 (wrap64 (((rd_T66 l0_0 (ji11)).f0) + ((rd_T66 l0_0 (ji11)).f1))), .int .i64 ((rd_T54 l1 x16_1).f2), .int .u8 ((rd_T54 l1 x16_1).f3)] (fun _ => True) (fun _ => False) rfl rfl ?aP (fun _ hk => hk.elim) ?aF ?aO ?aB ?aS ?aL ?_
    (case aP => exact k53_mkM _ _ _ (⟨(rd_T66 l0_0 ((rd_T54 l1 x16_1).f0)).f0, wrap64 (((rd_T66 l0_0 (ji11)).f0) + ((rd_T66 l0_0 (ji11)).f1)), (rd_T54 l1 x16_1).f2, (rd_T54 l1 x16_1).f3⟩ : S53))
    (case aB => exact (by repeat (first | (with_reducible first | exact HB.out | apply zJ | apply zG | apply zI | refine zE ?_ GE272.out | refine zE ?_ GE277.out | refine zE ?_ GE279.out) | exact HB.out)))
    (case aF => exact (fun _ _ => trivial))
    (case aO => exact (by (with_reducible repeat (first | apply Kd.R_alloc | apply Kd.R_drewN | apply Kd.R_drew)); exact HO_5.out))
    (case aS => exact (zP (by repeat (first | (with_reducible first | exact HB.out | apply zJ | apply zG | apply zI | refine zE ?_ GE272.out | refine zE ?_ GE277.out | refine zE ?_ GE279.out) | exact HB.out))))
    (case aL => have := LMc16.out; omega)
    intro v282 w29 ho hb hg hat
    rw [← Ny281.out] at ho; have n0_ := zC.mk (blk_grown (g := gb272) (o := .cells #[.slice (some ad278) l0_0.length c0_0, .slice A0_1 l0_1.length c0_1] 31 (0, 0)) (by (with_reducible repeat (first | refine zB ?_ _ | refine zD ?_ | refine zA ?_ _)); exact BK272.out) hg (Kd.R_ne HO_5.out BK272.out (by decide)))
    have n1_ := zC.mk (blk_grown (g := gb277) (o := .cells #[.int .i64 ((rd_T54 l1 x16_1).f0), .int .i64 ((rd_T54 l1 x16_1).f1), .int .i64 ((rd_T54 l1 x16_1).f2), .int .u8 ((rd_T54 l1 x16_1).f3)] 54 (0, 0)) (by (with_reducible repeat (first | refine zB ?_ _ | refine zD ?_ | refine zA ?_ _)); exact BK277.out) hg (Kd.R_ne HO_5.out BK277.out (by decide)))
    have n2_ := zC.mk (blk_grown (g := gb279) (o := .cells #[.int .i64 ((rd_T66 l0_0 (ji11)).f0), .int .i64 ((rd_T66 l0_0 (ji11)).f1), .int .i64 ((rd_T66 l0_0 (ji11)).f2), .int .u8 ((rd_T66 l0_0 (ji11)).f3)] 66 (0, 0)) (by (with_reducible repeat (first | refine zB ?_ _ | refine zD ?_ | refine zA ?_ _)); exact BK279.out) hg (Kd.R_ne HO_5.out BK279.out (by decide)))
    have n3_ := zC.mk (hb); have n4_ := zC.mk (ho); clear BK272; clear BK277; clear BK279; clear HB; clear HO_5; have BK272 := n0_; have BK277 := n1_; have BK279 := n2_; have HB := n3_; have HO283 := n4_; clear n0_ n1_ n2_ n3_ n4_; clear ho hb hg hat; refine hK.out _ _ ⟨(zF BK272.out 0).trans rfl, (zF BK272.out 1).trans rfl, (zF BK277.out 0).trans rfl, (zF BK277.out 1).trans rfl, (zF BK277.out 2).trans rfl, (zF BK277.out 3).trans rfl, (zF BK279.out 0).trans rfl, (zF BK279.out 1).trans rfl, (zF BK279.out 2).trans rfl, (zF BK279.out 3).trans rfl, ((HB.out.cell (World.block_lt_of_cell? w _ hw280_0)).trans hw280_0), ((HB.out.cell (World.block_lt_of_cell? w _ hw280_1)).trans hw280_1), ((HB.out.cell (World.block_lt_of_cell? w _ hw280_2)).trans hw280_2), ((HB.out.cell (World.block_lt_of_cell? w _ hw280_3)).trans hw280_3)⟩ (fun hHeld => ?_)
    clear hK K; refine norm_ (a' := ?_) ?_ ?_
    rotate_left
    · show Act.put _ (some 46) _ = _
      simp only [Act.put, sA_, sB_, sC_, zL, zM]; rfl
    refine pure_ (i := 20) (N := some 5) (v := ?_) (a' := ?_) #[true, true, true, true, true, true, true, true, true, true, true, true, true, true, true, true, true, true, true, true, true] rfl rfl (zN HT_.out (by kernel_rfl)) (fun _ _ _ h => h) (Or.inl ⟨by rfl, ?_⟩) ?_ ?_
    rotate_left
    · intro w'
      go_simp
      with_reducible rfl
    rotate_left
    · simp only [Act.put, sA_, sB_, sC_, zL, zM]
      rfl
    refine done_ (done_of HT_.out (by kernel_rfl)) ?_
    try go_wp2
    go_roundg k1
    case measure => have := HK1.out; omega
    case rel => exact ⟨(y281), (wrap64 (x16_1 + 1)), (by first | rfl | (simp; done) | (simp [*]; done)), H', ⟨by have := HK1.out; omega⟩, ⟨by (with_reducible repeat (first | apply Kd.R_alloc | apply Kd.R_drewN | apply Kd.R_drew)); exact HO283.out⟩, ⟨by (with_reducible repeat (first | refine zB ?_ _ | refine zD ?_ | refine zA ?_ _)); exact BK272.out⟩, ⟨by repeat (first | (with_reducible first | exact HB.out | apply zJ | apply zG | apply zI | refine zE ?_ GE272.out | refine zE ?_ GE277.out | refine zE ?_ GE279.out) | exact HB.out)⟩⟩
end Go.Proofs.Ytcnblneghbgjgaa.F
end
section
namespace Go.Proofs.Ytcnblneghbgjgaa.F
open Go.RowKit Go.Proofs.YtcnblneghbgjgaaW.PrintWords Go.Proofs.YtcnblneghbgjgaaW.PrintLast Go.Proofs.YtcnblneghbgjgaaW.PrintMore
attribute [local go_sem] max2_int min2_int max_two min_two max_three min_three max_four min_four   -- for this text's walks alone
set_option linter.unusedVariables false
set_option linter.unusedSimpArgs false
theorem eqA53 (d : Nat) (w : World) (x0 y0 : Int) (x1 y1 : Int) (x2 y2 : Int) (x3 y3 : Int) :
    (Op.equalIn (d + 2) 53 (.agg #[.int .i64 x0, .int .i64 x1, .int .i64 x2, .int .u8 x3]) (.agg #[.int .i64 y0, .int .i64 y1, .int .i64 y2, .int .u8 y3])).run Try.prog w = .ok (x0 == y0 && (x1 == y1 && (x2 == y2 && (x3 == y3)))) w := by
  refine eqA_of Try.underlying53 (by kernel_rfl) ?_
  refine eqf_cons (by rfl) (by go_simp; rfl) (by go_simp; rfl) (by go_simp) ?_
  refine eqf_cons (by rfl) (by go_simp; rfl) (by go_simp; rfl) (by go_simp) ?_
  refine eqf_cons (by rfl) (by go_simp; rfl) (by go_simp; rfl) (by go_simp) ?_
  exact eqf_last (by rfl) (by go_simp; rfl) (by go_simp; rfl) (by go_simp)
end Go.Proofs.Ytcnblneghbgjgaa.F
end
section
namespace Go.Proofs.Ytcnblneghbgjgaa.F
open Go.RowKit Go.Proofs.YtcnblneghbgjgaaW.PrintWords Go.Proofs.YtcnblneghbgjgaaW.PrintLast Go.Proofs.YtcnblneghbgjgaaW.PrintMore
attribute [local go_sem] max2_int min2_int max_two min_two max_three min_three max_four min_four   -- for this text's walks alone
set_option linter.unusedVariables false
set_option linter.unusedSimpArgs false
attribute [local go_sem high] eqA53
def stanzalaw16_Awake.f (k : Nat)  : Option (Bool) := (stanzahand03_Para.f k ([] : List (S63))).bind fun bt285 => ((lines_Break.f k bt285.1 bt285.2 3 8 0 0 0 0).bind fun bt291 => ((stanzahand03_Para.f k ([] : List (S63))).bind fun bt295 => ((lines_Rows.f k bt295.1 bt295.2 bt291.1).bind fun t301 => ((stanzahand03_Para.f k (([(⟨1, 0, 0, 2⟩ : S63), (⟨1, 0, 0, 0⟩ : S63)] : List (S63)))).bind fun bt307 => ((lines_Break.f k bt307.1 bt307.2 3 8 0 0 0 0).bind fun bt313 => (if (bt291.1.length : Int) = 0 then (if bt291.2 = true then (some false) else (if (t301.length : Int) = 1 then (if 0 < (t301.length : Int) then (if (((rd_T53 t301 0).f0) == 0 && (((rd_T53 t301 0).f1) == 0 && (((rd_T53 t301 0).f2) == 0 && (((rd_T53 t301 0).f3) == 2)))) = true then (if (bt313.1.length : Int) = 2 then (if 0 < (bt313.1.length : Int) then (if ((rd_T54 bt313.1 0).f3) = 2 then (if 1 < (bt313.1.length : Int) then (some (((rd_T54 bt313.1 1).f1) == 2)) else (none)) else (some false)) else (none)) else (some false)) else (some false)) else (none)) else (some false))) else (some false)))))))
theorem stanzalaw16_Awake.mono : ∀ k, LeO (stanzalaw16_Awake.f k ) (stanzalaw16_Awake.f (k + 1) ) := by
  intro  k
  unfold stanzalaw16_Awake.f
  repeat' first
      | (with_reducible exact lines_Break.mono _ _ _ _ _ _ _ _ _)
      | (with_reducible exact lines_Rows.mono _ _ _ _)
      | (with_reducible exact stanzahand03_Para.mono _ _)
      | (with_reducible exact LeO.refl _)
      | (with_reducible exact LeO.none _)
      | (with_reducible refine LeO.ite ?_ ?_)
      | (with_reducible refine LeO.bind ?_ (fun _ => ?_))
      | exact lines_Break.mono _ _ _ _ _ _ _ _ _
      | exact lines_Rows.mono _ _ _ _
      | exact stanzahand03_Para.mono _ _
      | exact LeO.none _
      | refine LeO.ite ?_ ?_
      | refine LeO.bind ?_ (fun _ => ?_)
def stanzalaw16_Awake.T2 : Bool × List (List Nat × List Nat) := (true, [([], []), ([], []), ([0, 1, 0], [0, 1]), ([2], [2]), ([3], [3]), ([3], [3]), ([4, 2, 0, 1, 2, 3, 4], [4]), ([5, 6, 0, 1, 2, 3, 4, 5, 6], [5])])
def stanzalaw16_Awake.B2 : List Nat := [0, 0, 3, 7, 15, 15, 31, 127]
theorem stanzalaw16_Awake.tab2 : rtab .any (opsOf Try.f9 2) = stanzalaw16_Awake.T2 := by kernel_rfl
theorem stanzalaw16_Awake.bits2 : waitsOk stanzalaw16_Awake.T2.2 stanzalaw16_Awake.B2 = true := by kernel_rfl
def stanzalaw16_Awake.T4 : Bool × List (List Nat × List Nat) := (true, [([], []), ([], []), ([0, 1], [0, 1]), ([2], [2]), ([], []), ([3, 4, 3], [3, 4]), ([5], [5]), ([6], [6]), ([6], [6]), ([7, 5, 0, 1, 2, 3, 4, 5, 6, 7], [7]), ([8, 9, 0, 1, 2, 3, 4, 5, 6, 7, 8, 9], [8])])
def stanzalaw16_Awake.B4 : List Nat := [0, 0, 3, 7, 0, 31, 63, 127, 127, 255, 1023]
theorem stanzalaw16_Awake.tab4 : rtab .any (opsOf Try.f9 4) = stanzalaw16_Awake.T4 := by kernel_rfl
theorem stanzalaw16_Awake.bits4 : waitsOk stanzalaw16_Awake.T4.2 stanzalaw16_Awake.B4 = true := by kernel_rfl
set_option maxHeartbeats 8000000 in
set_option maxRecDepth 100000 in
theorem stanzalaw16_Awake.calls (k : Nat)  (r : Bool) (w : World) (h : stanzalaw16_Awake.f k  = some r) (hrt_ : zC (r = true)) :
    Calls Try.prog 9 #[] w fun e w' => e = .returned (.bool r) ∧ Below w.heap.size w w' := by
  have hu35 := Try.underlying35; have hu63 := Try.underlying63; have hu53 := Try.underlying53; have HB := zC.mk (Below.refl w.heap.size w); have H : ((stanzahand03_Para.f k ([] : List (S63))).bind fun bt285 => ((lines_Break.f k bt285.1 bt285.2 3 8 0 0 0 0).bind fun bt291 => ((stanzahand03_Para.f k ([] : List (S63))).bind fun bt295 => ((lines_Rows.f k bt295.1 bt295.2 bt291.1).bind fun t301 => ((stanzahand03_Para.f k (([(⟨1, 0, 0, 2⟩ : S63), (⟨1, 0, 0, 0⟩ : S63)] : List (S63)))).bind fun bt307 => ((lines_Break.f k bt307.1 bt307.2 3 8 0 0 0 0).bind fun bt313 => (if (bt291.1.length : Int) = 0 then (if bt291.2 = true then (some false) else (if (t301.length : Int) = 1 then (if 0 < (t301.length : Int) then (if (((rd_T53 t301 0).f0) == 0 && (((rd_T53 t301 0).f1) == 0 && (((rd_T53 t301 0).f2) == 0 && (((rd_T53 t301 0).f3) == 2)))) = true then (if (bt313.1.length : Int) = 2 then (if 0 < (bt313.1.length : Int) then (if ((rd_T54 bt313.1 0).f3) = 2 then (if 1 < (bt313.1.length : Int) then (some (((rd_T54 bt313.1 1).f1) == 2)) else (none)) else (some false)) else (none)) else (some false)) else (some false)) else (none)) else (some false))) else (some false)))))))) = some r := h
  clear h; replace H := Option.bind_eq_some_iff.mp H; obtain ⟨⟨t285, t288⟩, A10, H⟩ := H; replace H : ((lines_Break.f k t285 t288 3 8 0 0 0 0).bind fun bt291 => ((stanzahand03_Para.f k ([] : List (S63))).bind fun bt295 => ((lines_Rows.f k bt295.1 bt295.2 bt291.1).bind fun t301 => ((stanzahand03_Para.f k (([(⟨1, 0, 0, 2⟩ : S63), (⟨1, 0, 0, 0⟩ : S63)] : List (S63)))).bind fun bt307 => ((lines_Break.f k bt307.1 bt307.2 3 8 0 0 0 0).bind fun bt313 => (if (bt291.1.length : Int) = 0 then (if bt291.2 = true then (some false) else (if (t301.length : Int) = 1 then (if 0 < (t301.length : Int) then (if (((rd_T53 t301 0).f0) == 0 && (((rd_T53 t301 0).f1) == 0 && (((rd_T53 t301 0).f2) == 0 && (((rd_T53 t301 0).f3) == 2)))) = true then (if (bt313.1.length : Int) = 2 then (if 0 < (bt313.1.length : Int) then (if ((rd_T54 bt313.1 0).f3) = 2 then (if 1 < (bt313.1.length : Int) then (some (((rd_T54 bt313.1 1).f1) == 2)) else (none)) else (some false)) else (none)) else (some false)) else (some false)) else (none)) else (some false))) else (some false))))))) = some r := H
  have A1 := zC.mk A10; clear A10; replace H := Option.bind_eq_some_iff.mp H; obtain ⟨⟨t291, t294⟩, A20, H⟩ := H; replace H : ((stanzahand03_Para.f k ([] : List (S63))).bind fun bt295 => ((lines_Rows.f k bt295.1 bt295.2 t291).bind fun t301 => ((stanzahand03_Para.f k (([(⟨1, 0, 0, 2⟩ : S63), (⟨1, 0, 0, 0⟩ : S63)] : List (S63)))).bind fun bt307 => ((lines_Break.f k bt307.1 bt307.2 3 8 0 0 0 0).bind fun bt313 => (if (t291.length : Int) = 0 then (if t294 = true then (some false) else (if (t301.length : Int) = 1 then (if 0 < (t301.length : Int) then (if (((rd_T53 t301 0).f0) == 0 && (((rd_T53 t301 0).f1) == 0 && (((rd_T53 t301 0).f2) == 0 && (((rd_T53 t301 0).f3) == 2)))) = true then (if (bt313.1.length : Int) = 2 then (if 0 < (bt313.1.length : Int) then (if ((rd_T54 bt313.1 0).f3) = 2 then (if 1 < (bt313.1.length : Int) then (some (((rd_T54 bt313.1 1).f1) == 2)) else (none)) else (some false)) else (none)) else (some false)) else (some false)) else (none)) else (some false))) else (some false)))))) = some r := H
  have A2 := zC.mk A20; clear A20; replace H := Option.bind_eq_some_iff.mp H; obtain ⟨⟨t295, t298⟩, A30, H⟩ := H; replace H : ((lines_Rows.f k t295 t298 t291).bind fun t301 => ((stanzahand03_Para.f k (([(⟨1, 0, 0, 2⟩ : S63), (⟨1, 0, 0, 0⟩ : S63)] : List (S63)))).bind fun bt307 => ((lines_Break.f k bt307.1 bt307.2 3 8 0 0 0 0).bind fun bt313 => (if (t291.length : Int) = 0 then (if t294 = true then (some false) else (if (t301.length : Int) = 1 then (if 0 < (t301.length : Int) then (if (((rd_T53 t301 0).f0) == 0 && (((rd_T53 t301 0).f1) == 0 && (((rd_T53 t301 0).f2) == 0 && (((rd_T53 t301 0).f3) == 2)))) = true then (if (bt313.1.length : Int) = 2 then (if 0 < (bt313.1.length : Int) then (if ((rd_T54 bt313.1 0).f3) = 2 then (if 1 < (bt313.1.length : Int) then (some (((rd_T54 bt313.1 1).f1) == 2)) else (none)) else (some false)) else (none)) else (some false)) else (some false)) else (none)) else (some false))) else (some false))))) = some r := H
  have A3 := zC.mk A30; clear A30; replace H := Option.bind_eq_some_iff.mp H; obtain ⟨t301, A40, H⟩ := H; replace H : ((stanzahand03_Para.f k (([(⟨1, 0, 0, 2⟩ : S63), (⟨1, 0, 0, 0⟩ : S63)] : List (S63)))).bind fun bt307 => ((lines_Break.f k bt307.1 bt307.2 3 8 0 0 0 0).bind fun bt313 => (if (t291.length : Int) = 0 then (if t294 = true then (some false) else (if (t301.length : Int) = 1 then (if 0 < (t301.length : Int) then (if (((rd_T53 t301 0).f0) == 0 && (((rd_T53 t301 0).f1) == 0 && (((rd_T53 t301 0).f2) == 0 && (((rd_T53 t301 0).f3) == 2)))) = true then (if (bt313.1.length : Int) = 2 then (if 0 < (bt313.1.length : Int) then (if ((rd_T54 bt313.1 0).f3) = 2 then (if 1 < (bt313.1.length : Int) then (some (((rd_T54 bt313.1 1).f1) == 2)) else (none)) else (some false)) else (none)) else (some false)) else (some false)) else (none)) else (some false))) else (some false)))) = some r := H
  have A4 := zC.mk A40; clear A40; obtain ⟨y304, hy304⟩ : ∃ y_ : List (S63), y_ = (([(⟨1, 0, 0, 2⟩ : S63), (⟨1, 0, 0, 0⟩ : S63)] : List (S63))) := ⟨_, rfl⟩; replace H : ((stanzahand03_Para.f k y304).bind fun bt307 => ((lines_Break.f k bt307.1 bt307.2 3 8 0 0 0 0).bind fun bt313 => (if (t291.length : Int) = 0 then (if t294 = true then (some false) else (if (t301.length : Int) = 1 then (if 0 < (t301.length : Int) then (if (((rd_T53 t301 0).f0) == 0 && (((rd_T53 t301 0).f1) == 0 && (((rd_T53 t301 0).f2) == 0 && (((rd_T53 t301 0).f3) == 2)))) = true then (if (bt313.1.length : Int) = 2 then (if 0 < (bt313.1.length : Int) then (if ((rd_T54 bt313.1 0).f3) = 2 then (if 1 < (bt313.1.length : Int) then (some (((rd_T54 bt313.1 1).f1) == 2)) else (none)) else (some false)) else (none)) else (some false)) else (some false)) else (none)) else (some false))) else (some false)))) = some r := by first | (rw [hy304]; with_reducible exact H) | (have H2_ := (Option.bind_some _ _).symm.trans H; rw [hy304]; with_reducible exact H2_) | (have H2_ := (Option.bind_some _ _).symm.trans H; with_reducible exact H2_) | with_reducible exact H | (rw [hy304]; exact H) | exact H
  have Ny304 := zC.mk hy304; clear hy304; replace H := Option.bind_eq_some_iff.mp H; obtain ⟨⟨t307, t310⟩, A50, H⟩ := H; replace H : ((lines_Break.f k t307 t310 3 8 0 0 0 0).bind fun bt313 => (if (t291.length : Int) = 0 then (if t294 = true then (some false) else (if (t301.length : Int) = 1 then (if 0 < (t301.length : Int) then (if (((rd_T53 t301 0).f0) == 0 && (((rd_T53 t301 0).f1) == 0 && (((rd_T53 t301 0).f2) == 0 && (((rd_T53 t301 0).f3) == 2)))) = true then (if (bt313.1.length : Int) = 2 then (if 0 < (bt313.1.length : Int) then (if ((rd_T54 bt313.1 0).f3) = 2 then (if 1 < (bt313.1.length : Int) then (some (((rd_T54 bt313.1 1).f1) == 2)) else (none)) else (some false)) else (none)) else (some false)) else (some false)) else (none)) else (some false))) else (some false))) = some r := H
  have A5 := zC.mk A50; clear A50; replace H := Option.bind_eq_some_iff.mp H; obtain ⟨⟨t313, t316⟩, A60, H⟩ := H; replace H : (if (t291.length : Int) = 0 then (if t294 = true then (some false) else (if (t301.length : Int) = 1 then (if 0 < (t301.length : Int) then (if (((rd_T53 t301 0).f0) == 0 && (((rd_T53 t301 0).f1) == 0 && (((rd_T53 t301 0).f2) == 0 && (((rd_T53 t301 0).f3) == 2)))) = true then (if (t313.length : Int) = 2 then (if 0 < (t313.length : Int) then (if ((rd_T54 t313 0).f3) = 2 then (if 1 < (t313.length : Int) then (some (((rd_T54 t313 1).f1) == 2)) else (none)) else (some false)) else (none)) else (some false)) else (some false)) else (none)) else (some false))) else (some false)) = some r := H; have A6 := zC.mk A60; clear A60; by_cases c7 : (t291.length : Int) = 0
  rotate_left
  · rw [if_neg c7] at H
    have c7b0 : ((t291.length : Int) == 0) = false := beq_eq_false_iff_ne.mpr c7
    have c7b1 : ((t291.length : Int) != 0) = true := bne_iff_ne.mpr c7
    have c7b2 : ¬ (t291 = []) := fun h_ => c7 (by rw [h_]; rfl)
    exact absurd ((Option.some.inj H).trans hrt_.out) (by decide)
  rw [if_pos c7] at H; have c7b0 : ((t291.length : Int) == 0) = true := beq_iff_eq.mpr c7
  have c7b1 : ((t291.length : Int) != 0) = false := bne_eq_false_iff_eq.mpr c7
  clear c7; by_cases c8 : t294 = true
  · subst c8
    have H1 : (some false) = some r := by rw [if_pos rfl] at H; exact H
    clear H; have H := H1; clear H1; exact absurd ((Option.some.inj H).trans hrt_.out) (by decide)
  replace c8 := Bool.eq_false_iff.mpr c8; subst c8; have H1 : (if (t301.length : Int) = 1 then (if 0 < (t301.length : Int) then (if (((rd_T53 t301 0).f0) == 0 && (((rd_T53 t301 0).f1) == 0 && (((rd_T53 t301 0).f2) == 0 && (((rd_T53 t301 0).f3) == 2)))) = true then (if (t313.length : Int) = 2 then (if 0 < (t313.length : Int) then (if ((rd_T54 t313 0).f3) = 2 then (if 1 < (t313.length : Int) then (some (((rd_T54 t313 1).f1) == 2)) else (none)) else (some false)) else (none)) else (some false)) else (some false)) else (none)) else (some false)) = some r := by rw [if_neg (show ¬ (false = true) by decide)] at H; exact H
  clear H; have H := H1; clear H1; by_cases c9 : (t301.length : Int) = 1
  rotate_left
  · rw [if_neg c9] at H
    have c9b0 : ((t301.length : Int) == 1) = false := beq_eq_false_iff_ne.mpr c9
    have c9b1 : ((t301.length : Int) != 1) = true := bne_iff_ne.mpr c9
    exact absurd ((Option.some.inj H).trans hrt_.out) (by decide)
  rw [if_pos c9] at H; have c9b0 : ((t301.length : Int) == 1) = true := beq_iff_eq.mpr c9
  have c9b1 : ((t301.length : Int) != 1) = false := bne_eq_false_iff_eq.mpr c9
  clear c9; by_cases c10 : 0 < (t301.length : Int)
  rotate_left
  · rw [if_neg c10] at H
    exact absurd H (by simp)
  rw [if_pos c10] at H; have c10b0 : decide (0 < (t301.length : Int)) = true := decide_eq_true c10
  have c10b1 : decide (0 < t301.length) = true := decide_eq_true (by omega)
  clear c10; by_cases c11 : (((rd_T53 t301 0).f0) == 0 && (((rd_T53 t301 0).f1) == 0 && (((rd_T53 t301 0).f2) == 0 && (((rd_T53 t301 0).f3) == 2)))) = true
  rotate_left
  · rw [if_neg c11] at H
    have c11b0 : (((rd_T53 t301 0).f0) == 0 && (((rd_T53 t301 0).f1) == 0 && (((rd_T53 t301 0).f2) == 0 && (((rd_T53 t301 0).f3) == 2)))) = false := by simpa using c11
    (try (have c11b1 : decide (((rd_T53 t301 0).f0) = 0 && (((rd_T53 t301 0).f1) == 0 && (((rd_T53 t301 0).f2) == 0 && (((rd_T53 t301 0).f3) == 2)))) = false := by simpa using c11))
    (try (have c11b2 : (((rd_T53 t301 0).f0) == 0 && (((rd_T53 t301 0).f1) == 0 && (((rd_T53 t301 0).f2) == 0 && (((rd_T53 t301 0).f3) == 2)))) = false := by simpa using c11))
    (try (have c11b3 : ¬ (((rd_T53 t301 0).f0) = 0 && (((rd_T53 t301 0).f1) == 0 && (((rd_T53 t301 0).f2) == 0 && (((rd_T53 t301 0).f3) == 2)))) := by simpa using c11))
    clear c11; exact absurd ((Option.some.inj H).trans hrt_.out) (by decide)
  rw [if_pos c11] at H; have c11b0 : (((rd_T53 t301 0).f0) == 0 && (((rd_T53 t301 0).f1) == 0 && (((rd_T53 t301 0).f2) == 0 && (((rd_T53 t301 0).f3) == 2)))) = true := c11
  (try (have c11b1 : decide (((rd_T53 t301 0).f0) = 0 && (((rd_T53 t301 0).f1) == 0 && (((rd_T53 t301 0).f2) == 0 && (((rd_T53 t301 0).f3) == 2)))) = true := by simpa using c11))
  (try (have c11b2 : (((rd_T53 t301 0).f0) == 0 && (((rd_T53 t301 0).f1) == 0 && (((rd_T53 t301 0).f2) == 0 && (((rd_T53 t301 0).f3) == 2)))) = true := by simpa using c11))
  clear c11; by_cases c12 : (t313.length : Int) = 2
  rotate_left
  · rw [if_neg c12] at H
    have c12b0 : ((t313.length : Int) == 2) = false := beq_eq_false_iff_ne.mpr c12
    have c12b1 : ((t313.length : Int) != 2) = true := bne_iff_ne.mpr c12
    exact absurd ((Option.some.inj H).trans hrt_.out) (by decide)
  rw [if_pos c12] at H; have c12b0 : ((t313.length : Int) == 2) = true := beq_iff_eq.mpr c12
  have c12b1 : ((t313.length : Int) != 2) = false := bne_eq_false_iff_eq.mpr c12
  clear c12; by_cases c13 : 0 < (t313.length : Int)
  rotate_left
  · rw [if_neg c13] at H
    exact absurd H (by simp)
  rw [if_pos c13] at H; have c13b0 : decide (0 < (t313.length : Int)) = true := decide_eq_true c13
  have c13b1 : decide (0 < t313.length) = true := decide_eq_true (by omega)
  clear c13; by_cases c14 : ((rd_T54 t313 0).f3) = 2
  rotate_left
  · rw [if_neg c14] at H
    have c14b0 : (((rd_T54 t313 0).f3) == 2) = false := beq_eq_false_iff_ne.mpr c14
    have c14b1 : (((rd_T54 t313 0).f3) != 2) = true := bne_iff_ne.mpr c14
    exact absurd ((Option.some.inj H).trans hrt_.out) (by decide)
  rw [if_pos c14] at H; have c14b0 : (((rd_T54 t313 0).f3) == 2) = true := beq_iff_eq.mpr c14
  have c14b1 : (((rd_T54 t313 0).f3) != 2) = false := bne_eq_false_iff_eq.mpr c14
  clear c14; by_cases c15 : 1 < (t313.length : Int)
  rotate_left
  · rw [if_neg c15] at H
    exact absurd H (by simp)
  rw [if_pos c15] at H; have c15b0 : decide (1 < (t313.length : Int)) = true := decide_eq_true c15
  have c15b1 : decide (1 < t313.length) = true := decide_eq_true (by omega)
  clear c15; obtain rfl := Option.some.inj H
  go_enter Try.func9, Try.ntmps9
  try go_wp2_with (first | ((with_reducible refine gate_dst (N := 1) rfl ?_); (try (refine gate_guard (by rfl) ?_; dsimp only)); refine box_event ?hg (N := 1) ?hd (cs := #[.int .i64 0, .int .i64 0, .int .u8 0, .int .i64 0, .int .i64 0, .float .f64 0]) (t := 35) ?hr ?_; (case hd => rfl); (case hg => rfl); (case hr => first | (go_simp; done) | (go_simp; rfl)); intro gb284 hg w16 hbox hb; have n0_ := zC.mk (zQ (by repeat (first | (with_reducible first | exact HB.out | apply zJ | apply zG | apply zI) | exact HB.out)) hb); have n1_ := zC.mk (hbox); have n2_ := zC.mk ((by rw [hg]; exact (zP (by repeat (first | (with_reducible first | exact HB.out | apply zJ | apply zG | apply zI) | exact HB.out))) : w.heap.size ≤ gb284)); have n3_ := zC.mk ((by rw [hg]; exact (zP (by repeat (first | (with_reducible first | exact HB.out | apply zJ | apply zG | apply zI) | exact HB.out))) : w.heap.size ≤ gb284)); clear HB; have HB := n0_; have BK284 := n1_; have GW284 := n2_; have GE284 := n3_; clear n0_ n1_ n2_ n3_; clear hb hbox hg; have hcz17_0 : w16.cell? ⟨gb284, 0, none⟩ = some (.int .i64 0) := (zF BK284.out 0).trans rfl; have hcz17_1 : w16.cell? ⟨gb284, 1, none⟩ = some (.int .i64 0) := (zF BK284.out 1).trans rfl; have hcz17_2 : w16.cell? ⟨gb284, 2, none⟩ = some (.int .u8 0) := (zF BK284.out 2).trans rfl; have hcz17_3 : w16.cell? ⟨gb284, 3, none⟩ = some (.int .i64 0) := (zF BK284.out 3).trans rfl; have hcz17_4 : w16.cell? ⟨gb284, 4, none⟩ = some (.int .i64 0) := (zF BK284.out 4).trans rfl; have hcz17_5 : w16.cell? ⟨gb284, 5, none⟩ = some (.float .f64 0) := (zF BK284.out 5).trans rfl; have hfz17_0 := zH BK284.out 0; have hfz17_1 := zH BK284.out 1; have hfz17_2 := zH BK284.out 2; have hfz17_3 := zH BK284.out 3; have hfz17_4 := zH BK284.out 4; have hfz17_5 := zH BK284.out 5) | ((with_reducible refine gate_store (t := 35) (p := 1) rfl ?_); refine store_event (t := 35) (p := 1) (v := ?vo_w18) (w1 := ((((((w16.setCell ⟨gb284, 0, none⟩ (.int .i64 3)).setCell ⟨gb284, 1, none⟩ (.int .i64 8)).setCell ⟨gb284, 2, none⟩ (.int .u8 0)).setCell ⟨gb284, 3, none⟩ (.int .i64 0)).setCell ⟨gb284, 4, none⟩ (.int .i64 0)).setCell ⟨gb284, 5, none⟩ (.float .f64 0))) ?hg ?ho ?hn ?hr ?_; (case ho => rfl); (case hg => rfl); (case hn => rfl); (case hr => first | (go_simp; done) | (go_simp; rfl)); intro w18 hw; have n0_ : zC (w18.heap[gb284]? = some (.cells #[.int .i64 3, .int .i64 8, .int .u8 0, .int .i64 0, .int .i64 0, .float .f64 0] 35 (0, 0))) := ⟨(by rw [hw]; exact (by (with_reducible repeat (first | refine zB ?_ _ | refine zD ?_ | refine zA ?_ _)); refine blk_put (cs := #[.int .i64 3, .int .i64 8, .int .u8 0, .int .i64 0, .int .i64 0, .float .f64 0]) ?_ 5 _ rfl; (with_reducible repeat (first | refine zB ?_ _ | refine zD ?_ | refine zA ?_ _)); refine blk_put (cs := #[.int .i64 3, .int .i64 8, .int .u8 0, .int .i64 0, .int .i64 0, .float .f64 0]) ?_ 4 _ rfl; (with_reducible repeat (first | refine zB ?_ _ | refine zD ?_ | refine zA ?_ _)); refine blk_put (cs := #[.int .i64 3, .int .i64 8, .int .u8 0, .int .i64 0, .int .i64 0, .float .f64 0]) ?_ 3 _ rfl; (with_reducible repeat (first | refine zB ?_ _ | refine zD ?_ | refine zA ?_ _)); refine blk_put (cs := #[.int .i64 3, .int .i64 8, .int .u8 0, .int .i64 0, .int .i64 0, .float .f64 0]) ?_ 2 _ rfl; (with_reducible repeat (first | refine zB ?_ _ | refine zD ?_ | refine zA ?_ _)); refine blk_put (cs := #[.int .i64 3, .int .i64 0, .int .u8 0, .int .i64 0, .int .i64 0, .float .f64 0]) ?_ 1 _ rfl; (with_reducible repeat (first | refine zB ?_ _ | refine zD ?_ | refine zA ?_ _)); refine blk_put (cs := #[.int .i64 0, .int .i64 0, .int .u8 0, .int .i64 0, .int .i64 0, .float .f64 0]) ?_ 0 _ rfl; (with_reducible repeat (first | refine zB ?_ _ | refine zD ?_ | refine zA ?_ _)); exact BK284.out))⟩; have n1_ : zC (Below w.heap.size w w18) := ⟨(by rw [hw]; exact (by repeat (first | (with_reducible first | exact HB.out | apply zJ | apply zG | apply zI | refine zE ?_ GE284.out) | exact HB.out)))⟩; clear hw; clear BK284; clear HB; have BK284 := n0_; have HB := n1_; clear n0_ n1_))
  have n0_ := zC.mk (zD BK284.out); have n1_ := zC.mk (zI HB.out); clear BK284; clear HB; have BK284 := n0_; have HB := n1_; clear n0_ n1_; refine start_ (n := 8) (S := fun w' => w'.cell? ⟨gb284, 0, none⟩ = some (.int .i64 3) ∧ w'.cell? ⟨gb284, 1, none⟩ = some (.int .i64 8) ∧ w'.cell? ⟨gb284, 2, none⟩ = some (.int .u8 0) ∧ w'.cell? ⟨gb284, 3, none⟩ = some (.int .i64 0) ∧ w'.cell? ⟨gb284, 4, none⟩ = some (.int .i64 0) ∧ w'.cell? ⟨gb284, 5, none⟩ = some (.float .f64 0)) (ds := []) #[false, false, false, false, false, false, false, false] (by kernel_rfl) rfl rfl ⟨(zF BK284.out 0).trans rfl, (zF BK284.out 1).trans rfl, (zF BK284.out 2).trans rfl, (zF BK284.out 3).trans rfl, (zF BK284.out 4).trans rfl, (zF BK284.out 5).trans rfl⟩ (fun hHeld => ?_); refine with_tabW stanzalaw16_Awake.tab2 stanzalaw16_Awake.bits2 (fun HT_ HW_ => ?_)
  generalize w18.drew = w19 at BK284 HB hHeld ⊢
  refine take_ (i := 1) (N := some 10) (v := ?_) (a' := ?_) #[false, true, false, false, false, false, false, false] rfl rfl (take_ofW HT_.out HW_.out (by kernel_rfl)) (fun _ _ _ h => h) (Or.inl ⟨by rfl, ?_⟩) hHeld ?_ ?_
  rotate_left
  · rintro w' ⟨s0, s1, s2, s3, s4, s5⟩
    go_simp
    with_reducible rfl
  rotate_left
  · simp only [Act.put, sA_, sB_, sC_, zL, zM]
    rfl
  refine one_ (i := 0) (N := some 9) #[true, true, false, false, false, false, false, false] rfl rfl (one_of HT_.out (by kernel_rfl)) (by decide) (fun K hK => ?_)
  refine goes_ Try.func10 (by kernel_rfl) rfl #[.slice none 0 0] (by rfl) rfl rfl (by (try simp only [List.map_toArray, List.map_cons, List.map_nil]); first | done | rfl | (simp only [List.length_drop, List.length_take]; rfl)) ?_
  refine (stanzahand03_Para.calls k _ _ ([] : List (S63)) t285 t288 _ ?side1 ?side2 A1.out).mono ?_
  (case side1 => exact Kd.C_nil _ _)
  (case side2 => exact Nat.le_refl _)
  rintro e w20 ⟨v286, v289, rfl, ho0, ho1, hb⟩
  refine ⟨_, rfl, ?_⟩
  have n0_ := zC.mk (Kd.R_lower ho0 (zP (by repeat (first | (with_reducible first | exact HB.out | apply zJ | apply zG | apply zI | refine zE ?_ GE284.out) | exact HB.out))))
  have n1_ := zC.mk (Kd.R_lower ho1 (zP (by repeat (first | (with_reducible first | exact HB.out | apply zJ | apply zG | apply zI | refine zE ?_ GE284.out) | exact HB.out))))
  have n2_ := zC.mk (zK (g := gb284) (o := .cells #[.int .i64 3, .int .i64 8, .int .u8 0, .int .i64 0, .int .i64 0, .float .f64 0] 35 (0, 0)) (by (with_reducible repeat (first | refine zB ?_ _ | refine zD ?_ | refine zA ?_ _)); exact BK284.out) hb)
  have n3_ := zC.mk (zQ (by repeat (first | (with_reducible first | exact HB.out | apply zJ | apply zG | apply zI | refine zE ?_ GE284.out) | exact HB.out)) hb)
  clear BK284 HB; have HO287 := n0_; have HO290 := n1_; have BK284 := n2_; have HB := n3_; clear n0_ n1_ n2_ n3_; (try clear hb)
  (try clear hb2)
  (try clear hk)
  (try clear hi)
  (try clear ho0)
  (try clear ho1)
  obtain ⟨Ao21, co21, eo21⟩ := Kd.R_slice HO287.out; (first | subst eo21 | (injection eo21 with f1_ f2_ f3_; have f4_ := f1_.symm; have f5_ := f3_.symm; clear f1_ f2_ f3_; subst f4_; subst f5_))
  obtain ⟨Ao22, co22, eo22⟩ := Kd.R_slice HO290.out; (first | subst eo22 | (injection eo22 with f1_ f2_ f3_; have f4_ := f1_.symm; have f5_ := f3_.symm; clear f1_ f2_ f3_; subst f4_; subst f5_))
  refine hK.out _ _ ⟨(zF BK284.out 0).trans rfl, (zF BK284.out 1).trans rfl, (zF BK284.out 2).trans rfl, (zF BK284.out 3).trans rfl, (zF BK284.out 4).trans rfl, (zF BK284.out 5).trans rfl⟩ (fun hHeld => ?_)
  clear hK K; refine norm_ (a' := ?_) ?_ ?_
  rotate_left
  · show Act.put _ (some 9) _ = _
    simp only [Act.put, sA_, sB_, sC_, zL, zM]; rfl
  refine one_ (i := 2) (N := some 11) #[true, true, true, false, false, false, false, false] rfl rfl (one_of HT_.out (by kernel_rfl)) (by decide) (fun K hK => ?_)
  refine goes_ Try.func12 (by kernel_rfl) rfl #[.agg #[.slice Ao21 t285.length co21, .slice Ao22 t288.length co22], .agg #[.int .i64 3, .int .i64 8, .int .u8 0, .int .i64 0, .int .i64 0, .float .f64 0]] (by rfl) rfl rfl (by (try simp only [List.map_toArray, List.map_cons, List.map_nil]); first | done | rfl | (simp only [List.length_drop, List.length_take]; rfl)) ?_
  with_reducible refine (lines_Break.calls k _ _ t285 _ _ t288 3 8 0 0 0 0 t291 false _ ?side1 ?side2 ?side3 ?side4 A2.out).mono ?_
  (case side1 => repeat (first | exact (Kd.R_reads' HO287.out).2.2 | (with_reducible refine Kd.C_alloc ?_ _) | (with_reducible refine Kd.C_drewN ?_ _) | (with_reducible refine Kd.C_drew ?_)))
  (case side2 => exact (Kd.R_reads' HO287.out).2.1)
  (case side3 => repeat (first | exact (Kd.R_reads' HO290.out).2.2 | (with_reducible refine Kd.C_alloc ?_ _) | (with_reducible refine Kd.C_drewN ?_ _) | (with_reducible refine Kd.C_drew ?_)))
  (case side4 => exact (Kd.R_reads' HO290.out).2.1)
  rintro e w23 ⟨v292, rfl, ho0, hb⟩
  refine ⟨_, rfl, ?_⟩
  have n0_ := zC.mk (Kd.R_below (by (with_reducible repeat (first | apply Kd.R_alloc | apply Kd.R_drewN | apply Kd.R_drew)); exact HO287.out) hb)
  have n1_ := zC.mk (Kd.R_below (by (with_reducible repeat (first | apply Kd.R_alloc | apply Kd.R_drewN | apply Kd.R_drew)); exact HO290.out) hb)
  have n2_ := zC.mk (Kd.R_lower ho0 (zP (by repeat (first | (with_reducible first | exact HB.out | apply zJ | apply zG | apply zI | refine zE ?_ GE284.out) | exact HB.out))))
  have n3_ := zC.mk (zK (g := gb284) (o := .cells #[.int .i64 3, .int .i64 8, .int .u8 0, .int .i64 0, .int .i64 0, .float .f64 0] 35 (0, 0)) (by (with_reducible repeat (first | refine zB ?_ _ | refine zD ?_ | refine zA ?_ _)); exact BK284.out) hb)
  have n4_ := zC.mk (zQ (by repeat (first | (with_reducible first | exact HB.out | apply zJ | apply zG | apply zI | refine zE ?_ GE284.out) | exact HB.out)) hb)
  clear HO287 HO290 BK284 HB; have HO287 := n0_; have HO290 := n1_; have HO293 := n2_; have BK284 := n3_; have HB := n4_; clear n0_ n1_ n2_ n3_ n4_; (try clear hb)
  (try clear hb2)
  (try clear hk)
  (try clear hi)
  (try clear ho0)
  refine hK.out _ _ ⟨(zF BK284.out 0).trans rfl, (zF BK284.out 1).trans rfl, (zF BK284.out 2).trans rfl, (zF BK284.out 3).trans rfl, (zF BK284.out 4).trans rfl, (zF BK284.out 5).trans rfl⟩ (fun hHeld => ?_)
  clear hK K; refine norm_ (a' := ?_) ?_ ?_
  rotate_left
  · show Act.put _ (some 11) _ = _
    simp only [Act.put, sA_, sB_, sC_, zL, zM]; rfl
  refine pure_ (i := 3) (N := some 8) (v := ?_) (a' := ?_) (tf_ 4 8) rfl rfl (zN HT_.out (by kernel_rfl)) (fun _ _ _ h => h) (Or.inl ⟨by rfl, ?_⟩) ?_ ?_
  rotate_left
  · intro w'
    go_simp
    with_reducible rfl
  rotate_left
  · simp only [Act.put, sA_, sB_, sC_, zL, zM]
    rfl
  refine pure_ (i := 4) (N := some 12) (v := ?_) (a' := ?_) (tf_ 5 8) rfl rfl (zN HT_.out (by kernel_rfl)) (fun _ _ _ h => h) (Or.inl ⟨by rfl, ?_⟩) ?_ ?_
  rotate_left
  · intro w'
    go_simp
    with_reducible rfl
  rotate_left
  · simp only [Act.put, sA_, sB_, sC_, zL, zM]
    rfl
  refine pure_ (i := 5) (N := some 13) (v := ?_) (a' := ?_) (tf_ 6 8) rfl rfl (zN HT_.out (by kernel_rfl)) (fun _ _ _ h => h) (Or.inl ⟨by rfl, ?_⟩) ?_ ?_
  rotate_left
  · intro w'
    go_simp
    with_reducible rfl
  rotate_left
  · simp only [Act.put, sA_, sB_, sC_, zL, zM]
    rfl
  refine pure_ (i := 6) (N := some 2) (v := ?_) (a' := ?_) (tf_ 7 8) rfl rfl (zN HT_.out (by kernel_rfl)) (fun _ _ _ h => h) (Or.inl ⟨by rfl, ?_⟩) ?_ ?_
  rotate_left
  · intro w'
    go_simp
    with_reducible rfl
  rotate_left
  · simp only [Act.put, sA_, sB_, sC_, zL, zM]
    rfl
  refine pure_ (i := 7) (N := some 3) (v := ?_) (a' := ?_) #[true, true, true, true, true, true, true, true] rfl rfl (zN HT_.out (by kernel_rfl)) (fun _ _ _ h => h) (Or.inl ⟨by rfl, ?_⟩) ?_ ?_
  rotate_left
  · intro w'
    go_simp
    with_reducible rfl
  rotate_left
  · simp only [Act.put, sA_, sB_, sC_, zL, zM]
    rfl
  refine done_ (done_of HT_.out (by kernel_rfl)) ?_
  try go_wp2_with (first | ((with_reducible refine gate_callee (f := 10) rfl ?_); refine goesL_ (some 14) rfl rfl Try.func10 (by kernel_rfl) rfl #[.slice none 0 0] rfl (by (try simp only [List.map_toArray, List.map_cons, List.map_nil]); first | done | rfl | (simp only [List.length_drop, List.length_take]; rfl)) ?_; (refine (stanzahand03_Para.calls k _ _ ([] : List (S63)) t295 t298 _ ?side1 ?side2 A3.out).mono ?_); (case side1 => exact Kd.C_nil _ _); (case side2 => exact Nat.le_refl _); rintro e w24 ⟨v296, v299, rfl, ho0, ho1, hb⟩; refine ⟨_, rfl, ?_⟩; have n0_ := zC.mk (Kd.R_elder' (by (with_reducible repeat (first | apply Kd.R_alloc | apply Kd.R_drewN | apply Kd.R_drew)); exact HO287.out) (Kd.R_base ho0) hb); have n1_ := zC.mk (Kd.R_elder' (by (with_reducible repeat (first | apply Kd.R_alloc | apply Kd.R_drewN | apply Kd.R_drew)); exact HO290.out) (Kd.R_base ho1) hb); have n2_ := zC.mk (Kd.R_below (by (with_reducible repeat (first | apply Kd.R_alloc | apply Kd.R_drewN | apply Kd.R_drew)); exact HO293.out) hb); have n3_ := zC.mk (Kd.R_lower (Kd.R_new' ho0 (Kd.R_lt (by (with_reducible repeat (first | apply Kd.R_alloc | apply Kd.R_drewN | apply Kd.R_drew)); exact HO287.out))) (zP (by repeat (first | (with_reducible first | exact HB.out | apply zJ | apply zG | apply zI | refine zE ?_ GE284.out) | exact HB.out)))); have n4_ := zC.mk (Kd.R_lower (Kd.R_new' ho1 (Kd.R_lt (by (with_reducible repeat (first | apply Kd.R_alloc | apply Kd.R_drewN | apply Kd.R_drew)); exact HO290.out))) (zP (by repeat (first | (with_reducible first | exact HB.out | apply zJ | apply zG | apply zI | refine zE ?_ GE284.out) | exact HB.out)))); have n5_ := zC.mk (zK (g := gb284) (o := .cells #[.int .i64 3, .int .i64 8, .int .u8 0, .int .i64 0, .int .i64 0, .float .f64 0] 35 (0, 0)) (by (with_reducible repeat (first | refine zB ?_ _ | refine zD ?_ | refine zA ?_ _)); exact BK284.out) hb); have n6_ := zC.mk (zQ (by repeat (first | (with_reducible first | exact HB.out | apply zJ | apply zG | apply zI | refine zE ?_ GE284.out) | exact HB.out)) hb); clear HO287; clear HO290; clear HO293; clear BK284; clear HB; have HO287 := n0_; have HO290 := n1_; have HO293 := n2_; have HO297 := n3_; have HO300 := n4_; have BK284 := n5_; have HB := n6_; clear n0_ n1_ n2_ n3_ n4_ n5_ n6_; (try clear hb); (try clear hb2); (try clear hk); (try clear hi); (try clear ho0); (try clear ho1); obtain ⟨Ao25, co25, eo25⟩ := Kd.R_slice HO297.out; subst eo25; obtain ⟨Ao26, co26, eo26⟩ := Kd.R_slice HO300.out; subst eo26; obtain ⟨Ao27, co27, eo27⟩ := Kd.R_slice HO293.out; subst eo27) | ((with_reducible refine gate_callee (f := 16) rfl ?_); refine goesL_ (some 16) rfl rfl Try.func16 (by kernel_rfl) rfl #[.agg #[.slice Ao25 t295.length co25, .slice Ao26 t298.length co26], .slice Ao27 t291.length co27] rfl (by (try simp only [List.map_toArray, List.map_cons, List.map_nil]); first | done | rfl | (simp only [List.length_drop, List.length_take]; rfl)) ?_; (with_reducible refine (lines_Rows.calls k _ _ t295 _ _ t298 _ _ t291 t301 _ ?side1 ?side2 ?side3 ?side4 ?side5 ?side6 A4.out).mono ?_); (case side1 => repeat (first | exact (Kd.R_reads' HO297.out).2.2 | (with_reducible refine Kd.C_alloc ?_ _) | (with_reducible refine Kd.C_drewN ?_ _) | (with_reducible refine Kd.C_drew ?_))); (case side2 => exact (Kd.R_reads' HO297.out).2.1); (case side3 => repeat (first | exact (Kd.R_reads' HO300.out).2.2 | (with_reducible refine Kd.C_alloc ?_ _) | (with_reducible refine Kd.C_drewN ?_ _) | (with_reducible refine Kd.C_drew ?_))); (case side4 => exact (Kd.R_reads' HO300.out).2.1); (case side5 => repeat (first | exact (Kd.R_reads' HO293.out).2.2 | (with_reducible refine Kd.C_alloc ?_ _) | (with_reducible refine Kd.C_drewN ?_ _) | (with_reducible refine Kd.C_drew ?_))); (case side6 => exact (Kd.R_reads' HO293.out).2.1); rintro e w28 ⟨v302, rfl, ho0, hb⟩; refine ⟨_, rfl, ?_⟩; have n0_ := zC.mk (Kd.R_below (by (with_reducible repeat (first | apply Kd.R_alloc | apply Kd.R_drewN | apply Kd.R_drew)); exact HO287.out) hb); have n1_ := zC.mk (Kd.R_below (by (with_reducible repeat (first | apply Kd.R_alloc | apply Kd.R_drewN | apply Kd.R_drew)); exact HO290.out) hb); have n2_ := zC.mk (Kd.R_below (by (with_reducible repeat (first | apply Kd.R_alloc | apply Kd.R_drewN | apply Kd.R_drew)); exact HO293.out) hb); have n3_ := zC.mk (Kd.R_below (by (with_reducible repeat (first | apply Kd.R_alloc | apply Kd.R_drewN | apply Kd.R_drew)); exact HO297.out) hb); have n4_ := zC.mk (Kd.R_below (by (with_reducible repeat (first | apply Kd.R_alloc | apply Kd.R_drewN | apply Kd.R_drew)); exact HO300.out) hb); have n5_ := zC.mk (Kd.R_lower ho0 (zP (by repeat (first | (with_reducible first | exact HB.out | apply zJ | apply zG | apply zI | refine zE ?_ GE284.out) | exact HB.out)))); have n6_ := zC.mk (zK (g := gb284) (o := .cells #[.int .i64 3, .int .i64 8, .int .u8 0, .int .i64 0, .int .i64 0, .float .f64 0] 35 (0, 0)) (by (with_reducible repeat (first | refine zB ?_ _ | refine zD ?_ | refine zA ?_ _)); exact BK284.out) hb); have n7_ := zC.mk (zQ (by repeat (first | (with_reducible first | exact HB.out | apply zJ | apply zG | apply zI | refine zE ?_ GE284.out) | exact HB.out)) hb); clear HO287; clear HO290; clear HO293; clear HO297; clear HO300; clear BK284; clear HB; have HO287 := n0_; have HO290 := n1_; have HO293 := n2_; have HO297 := n3_; have HO300 := n4_; have HO303 := n5_; have BK284 := n6_; have HB := n7_; clear n0_ n1_ n2_ n3_ n4_ n5_ n6_ n7_; (try clear hb); (try clear hb2); (try clear hk); (try clear hi); (try clear ho0)))
  have n0_ := zC.mk (Kd.R_drew HO287.out); have n1_ := zC.mk (Kd.R_drew HO290.out); have n2_ := zC.mk (Kd.R_drew HO293.out); have n3_ := zC.mk (Kd.R_drew HO297.out); have n4_ := zC.mk (Kd.R_drew HO300.out); have n5_ := zC.mk (Kd.R_drew HO303.out); have n6_ := zC.mk (zD BK284.out); have n7_ := zC.mk (zI HB.out); clear HO287; clear HO290; clear HO293; clear HO297; clear HO300; clear HO303; clear BK284; clear HB; have HO287 := n0_; have HO290 := n1_; have HO293 := n2_; have HO297 := n3_; have HO300 := n4_; have HO303 := n5_; have BK284 := n6_; have HB := n7_; clear n0_ n1_ n2_ n3_ n4_ n5_ n6_ n7_; refine start_ (n := 11) (S := fun w' => w'.cell? ⟨gb284, 0, none⟩ = some (.int .i64 3) ∧ w'.cell? ⟨gb284, 1, none⟩ = some (.int .i64 8) ∧ w'.cell? ⟨gb284, 2, none⟩ = some (.int .u8 0) ∧ w'.cell? ⟨gb284, 3, none⟩ = some (.int .i64 0) ∧ w'.cell? ⟨gb284, 4, none⟩ = some (.int .i64 0) ∧ w'.cell? ⟨gb284, 5, none⟩ = some (.float .f64 0)) (ds := []) #[false, false, false, false, false, false, false, false, false, false, false] (by kernel_rfl) rfl rfl ⟨(zF BK284.out 0).trans rfl, (zF BK284.out 1).trans rfl, (zF BK284.out 2).trans rfl, (zF BK284.out 3).trans rfl, (zF BK284.out 4).trans rfl, (zF BK284.out 5).trans rfl⟩ (fun hHeld => ?_); refine with_tabW stanzalaw16_Awake.tab4 stanzalaw16_Awake.bits4 (fun HT_ HW_ => ?_)
  generalize w28.drew = w29 at HO287 HO290 HO293 HO297 HO300 HO303 BK284 HB hHeld ⊢
  refine pure_ (i := 0) (N := some 18) (v := ?_) (a' := ?_) (tf_ 1 11) rfl rfl (zN HT_.out (by kernel_rfl)) (fun _ _ _ h => h) (Or.inl ⟨by rfl, ?_⟩) ?_ ?_
  rotate_left
  · intro w'
    go_simp
    with_reducible rfl
  rotate_left
  · simp only [Act.put, sA_, sB_, sC_, zL, zM]
    rfl
  refine pure_ (i := 1) (N := some 19) (v := ?_) (a' := ?_) (tf_ 2 11) rfl rfl (zN HT_.out (by kernel_rfl)) (fun _ _ _ h => h) (Or.inl ⟨by rfl, ?_⟩) ?_ ?_
  rotate_left
  · intro w'
    go_simp
    with_reducible rfl
  rotate_left
  · simp only [Act.put, sA_, sB_, sC_, zL, zM]
    rfl
  refine take_ (i := 4) (N := some 22) (v := ?_) (a' := ?_) #[true, true, false, false, true, false, false, false, false, false, false] rfl rfl (take_ofW HT_.out HW_.out (by kernel_rfl)) (fun _ _ _ h => h) (Or.inl ⟨by rfl, ?_⟩) hHeld ?_ ?_
  rotate_left
  · rintro w' ⟨s0, s1, s2, s3, s4, s5⟩
    go_simp
    with_reducible rfl
  rotate_left
  · simp only [Act.put, sA_, sB_, sC_, zL, zM]
    rfl
  refine one_ (i := 2) (N := some 20) #[true, true, true, false, true, false, false, false, false, false, false] rfl rfl (one_of HT_.out (by kernel_rfl)) (by decide) (fun K hK => ?_)
  refine Kd.R_lit_step k63 _ 63 ?hg (N := 20) ?hd (xs := ([(⟨1, 0, 0, 2⟩ : S63), (⟨1, 0, 0, 0⟩ : S63)] : List (S63))) (inner := [.int .u8 1, .int .u8 0, .int .u8 0, .int .u8 2, .int .u8 1, .int .u8 0, .int .u8 0, .int .u8 0]) (ok := fun _ => True) (okp := fun _ => True) ?hr ?hp (fun _ hk => hk) trivial (Below.refl _ _) (Nat.le_refl _) (by simp) ?_; (case hd => rfl); (case hg => rfl); (case hr => first | (go_simp; done) | (go_simp; rfl)); (case hp => exact (Reps.c4 (show Kd.M k63 _ _ _ (⟨1, 0, 0, 2⟩ : S63) [.int .u8 1, .int .u8 0, .int .u8 0, .int .u8 2] from (k63_mkM _ _ _ (⟨1, 0, 0, 2⟩ : S63) )) (Reps.c4 (show Kd.M k63 _ _ _ (⟨1, 0, 0, 0⟩ : S63) [.int .u8 1, .int .u8 0, .int .u8 0, .int .u8 0] from (k63_mkM _ _ _ (⟨1, 0, 0, 0⟩ : S63) )) (Reps.none _ _))))
  intro v305 w30 ho31 hb hg_ hnew_
  clear hg_ hnew_; (first | rw [← Ny304.out] at ho31 | (simp only [Int.reduceToNat] at ho31; rw [← Ny304.out] at ho31))
  have n0_ := zC.mk (Kd.R_below (by (with_reducible repeat (first | apply Kd.R_alloc | apply Kd.R_drewN | apply Kd.R_drew)); exact HO287.out) hb)
  have n1_ := zC.mk (Kd.R_below (by (with_reducible repeat (first | apply Kd.R_alloc | apply Kd.R_drewN | apply Kd.R_drew)); exact HO290.out) hb)
  have n2_ := zC.mk (Kd.R_below (by (with_reducible repeat (first | apply Kd.R_alloc | apply Kd.R_drewN | apply Kd.R_drew)); exact HO293.out) hb)
  have n3_ := zC.mk (Kd.R_below (by (with_reducible repeat (first | apply Kd.R_alloc | apply Kd.R_drewN | apply Kd.R_drew)); exact HO297.out) hb)
  have n4_ := zC.mk (Kd.R_below (by (with_reducible repeat (first | apply Kd.R_alloc | apply Kd.R_drewN | apply Kd.R_drew)); exact HO300.out) hb)
  have n5_ := zC.mk (Kd.R_below (by (with_reducible repeat (first | apply Kd.R_alloc | apply Kd.R_drewN | apply Kd.R_drew)); exact HO303.out) hb)
  have n6_ := zC.mk (Kd.R_lower ho31 (zP (by repeat (first | (with_reducible first | exact HB.out | apply zJ | apply zG | apply zI | refine zE ?_ GE284.out) | exact HB.out))))
  have n7_ := zC.mk (zK (g := gb284) (o := .cells #[.int .i64 3, .int .i64 8, .int .u8 0, .int .i64 0, .int .i64 0, .float .f64 0] 35 (0, 0)) (by (with_reducible repeat (first | refine zB ?_ _ | refine zD ?_ | refine zA ?_ _)); exact BK284.out) hb)
  have n8_ := zC.mk (zQ (by repeat (first | (with_reducible first | exact HB.out | apply zJ | apply zG | apply zI | refine zE ?_ GE284.out) | exact HB.out)) hb)
  clear HO287 HO290 HO293 HO297 HO300 HO303 BK284 HB; have HO287 := n0_; have HO290 := n1_; have HO293 := n2_; have HO297 := n3_; have HO300 := n4_; have HO303 := n5_; have HO306 := n6_; have BK284 := n7_; have HB := n8_; clear n0_ n1_ n2_ n3_ n4_ n5_ n6_ n7_ n8_; clear hb ho31; obtain ⟨Ao32, co32, eo32⟩ := Kd.R_slice HO306.out; (first | subst eo32 | (injection eo32 with f1_ f2_ f3_; have f4_ := f1_.symm; have f5_ := f3_.symm; clear f1_ f2_ f3_; subst f4_; subst f5_))
  refine hK.out _ _ ⟨(zF BK284.out 0).trans rfl, (zF BK284.out 1).trans rfl, (zF BK284.out 2).trans rfl, (zF BK284.out 3).trans rfl, (zF BK284.out 4).trans rfl, (zF BK284.out 5).trans rfl⟩ (fun hHeld => ?_)
  clear hK K; refine norm_ (a' := ?_) ?_ ?_
  rotate_left
  · show Act.put _ (some 20) _ = _
    simp only [Act.put, sA_, sB_, sC_, zL, zM]; rfl
  refine one_ (i := 3) (N := some 21) #[true, true, true, true, true, false, false, false, false, false, false] rfl rfl (one_of HT_.out (by kernel_rfl)) (by decide) (fun K hK => ?_)
  refine goes_ Try.func10 (by kernel_rfl) rfl #[.slice Ao32 y304.length co32] (by rfl) rfl rfl (by (try simp only [List.map_toArray, List.map_cons, List.map_nil]); first | done | rfl | (simp only [List.length_drop, List.length_take]; rfl)) ?_
  with_reducible refine (stanzahand03_Para.calls k _ _ y304 t307 t310 _ ?side1 ?side2 A5.out).mono ?_
  (case side1 => repeat (first | exact (Kd.R_reads' HO306.out).2.2 | (with_reducible refine Kd.C_alloc ?_ _) | (with_reducible refine Kd.C_drewN ?_ _) | (with_reducible refine Kd.C_drew ?_)))
  (case side2 => exact (Kd.R_reads' HO306.out).2.1)
  rintro e w33 ⟨v308, v311, rfl, ho0, ho1, hb⟩
  refine ⟨_, rfl, ?_⟩
  have n0_ := zC.mk (Kd.R_elder' (by (with_reducible repeat (first | apply Kd.R_alloc | apply Kd.R_drewN | apply Kd.R_drew)); exact HO287.out) (Kd.R_base ho0) hb)
  have n1_ := zC.mk (Kd.R_elder' (by (with_reducible repeat (first | apply Kd.R_alloc | apply Kd.R_drewN | apply Kd.R_drew)); exact HO290.out) (Kd.R_base ho1) hb)
  have n2_ := zC.mk (Kd.R_below (by (with_reducible repeat (first | apply Kd.R_alloc | apply Kd.R_drewN | apply Kd.R_drew)); exact HO293.out) hb)
  have n3_ := zC.mk (Kd.R_elder' (by (with_reducible repeat (first | apply Kd.R_alloc | apply Kd.R_drewN | apply Kd.R_drew)); exact HO297.out) (Kd.R_base ho0) hb)
  have n4_ := zC.mk (Kd.R_elder' (by (with_reducible repeat (first | apply Kd.R_alloc | apply Kd.R_drewN | apply Kd.R_drew)); exact HO300.out) (Kd.R_base ho1) hb)
  have n5_ := zC.mk (Kd.R_below (by (with_reducible repeat (first | apply Kd.R_alloc | apply Kd.R_drewN | apply Kd.R_drew)); exact HO303.out) hb)
  have n6_ := zC.mk (Kd.R_below (by (with_reducible repeat (first | apply Kd.R_alloc | apply Kd.R_drewN | apply Kd.R_drew)); exact HO306.out) hb)
  have n7_ := zC.mk (Kd.R_lower (Kd.R_new' (Kd.R_new' ho0 (Kd.R_lt (by (with_reducible repeat (first | apply Kd.R_alloc | apply Kd.R_drewN | apply Kd.R_drew)); exact HO287.out))) (Kd.R_lt (by (with_reducible repeat (first | apply Kd.R_alloc | apply Kd.R_drewN | apply Kd.R_drew)); exact HO297.out))) (zP (by repeat (first | (with_reducible first | exact HB.out | apply zJ | apply zG | apply zI | refine zE ?_ GE284.out) | exact HB.out))))
  have n8_ := zC.mk (Kd.R_lower (Kd.R_new' (Kd.R_new' ho1 (Kd.R_lt (by (with_reducible repeat (first | apply Kd.R_alloc | apply Kd.R_drewN | apply Kd.R_drew)); exact HO290.out))) (Kd.R_lt (by (with_reducible repeat (first | apply Kd.R_alloc | apply Kd.R_drewN | apply Kd.R_drew)); exact HO300.out))) (zP (by repeat (first | (with_reducible first | exact HB.out | apply zJ | apply zG | apply zI | refine zE ?_ GE284.out) | exact HB.out))))
  have n9_ := zC.mk (zK (g := gb284) (o := .cells #[.int .i64 3, .int .i64 8, .int .u8 0, .int .i64 0, .int .i64 0, .float .f64 0] 35 (0, 0)) (by (with_reducible repeat (first | refine zB ?_ _ | refine zD ?_ | refine zA ?_ _)); exact BK284.out) hb)
  have n10_ := zC.mk (zQ (by repeat (first | (with_reducible first | exact HB.out | apply zJ | apply zG | apply zI | refine zE ?_ GE284.out) | exact HB.out)) hb)
  clear HO287 HO290 HO293 HO297 HO300 HO303 HO306 BK284 HB; have HO287 := n0_; have HO290 := n1_; have HO293 := n2_; have HO297 := n3_; have HO300 := n4_; have HO303 := n5_; have HO306 := n6_; have HO309 := n7_; have HO312 := n8_; have BK284 := n9_; have HB := n10_; clear n0_ n1_ n2_ n3_ n4_ n5_ n6_ n7_ n8_ n9_ n10_; (try clear hb)
  (try clear hb2)
  (try clear hk)
  (try clear hi)
  (try clear ho0)
  (try clear ho1)
  obtain ⟨Ao34, co34, eo34⟩ := Kd.R_slice HO309.out; (first | subst eo34 | (injection eo34 with f1_ f2_ f3_; have f4_ := f1_.symm; have f5_ := f3_.symm; clear f1_ f2_ f3_; subst f4_; subst f5_))
  obtain ⟨Ao35, co35, eo35⟩ := Kd.R_slice HO312.out; (first | subst eo35 | (injection eo35 with f1_ f2_ f3_; have f4_ := f1_.symm; have f5_ := f3_.symm; clear f1_ f2_ f3_; subst f4_; subst f5_))
  refine hK.out _ _ ⟨(zF BK284.out 0).trans rfl, (zF BK284.out 1).trans rfl, (zF BK284.out 2).trans rfl, (zF BK284.out 3).trans rfl, (zF BK284.out 4).trans rfl, (zF BK284.out 5).trans rfl⟩ (fun hHeld => ?_)
  clear hK K; refine norm_ (a' := ?_) ?_ ?_
  rotate_left
  · show Act.put _ (some 21) _ = _
    simp only [Act.put, sA_, sB_, sC_, zL, zM]; rfl
  refine one_ (i := 5) (N := some 23) #[true, true, true, true, true, true, false, false, false, false, false] rfl rfl (one_of HT_.out (by kernel_rfl)) (by decide) (fun K hK => ?_)
  refine goes_ Try.func12 (by kernel_rfl) rfl #[.agg #[.slice Ao34 t307.length co34, .slice Ao35 t310.length co35], .agg #[.int .i64 3, .int .i64 8, .int .u8 0, .int .i64 0, .int .i64 0, .float .f64 0]] (by rfl) rfl rfl (by (try simp only [List.map_toArray, List.map_cons, List.map_nil]); first | done | rfl | (simp only [List.length_drop, List.length_take]; rfl)) ?_
  with_reducible refine (lines_Break.calls k _ _ t307 _ _ t310 3 8 0 0 0 0 t313 t316 _ ?side1 ?side2 ?side3 ?side4 A6.out).mono ?_
  (case side1 => repeat (first | exact (Kd.R_reads' HO309.out).2.2 | (with_reducible refine Kd.C_alloc ?_ _) | (with_reducible refine Kd.C_drewN ?_ _) | (with_reducible refine Kd.C_drew ?_)))
  (case side2 => exact (Kd.R_reads' HO309.out).2.1)
  (case side3 => repeat (first | exact (Kd.R_reads' HO312.out).2.2 | (with_reducible refine Kd.C_alloc ?_ _) | (with_reducible refine Kd.C_drewN ?_ _) | (with_reducible refine Kd.C_drew ?_)))
  (case side4 => exact (Kd.R_reads' HO312.out).2.1)
  rintro e w36 ⟨v314, rfl, ho0, hb⟩
  refine ⟨_, rfl, ?_⟩
  have n0_ := zC.mk (Kd.R_below (by (with_reducible repeat (first | apply Kd.R_alloc | apply Kd.R_drewN | apply Kd.R_drew)); exact HO287.out) hb)
  have n1_ := zC.mk (Kd.R_below (by (with_reducible repeat (first | apply Kd.R_alloc | apply Kd.R_drewN | apply Kd.R_drew)); exact HO290.out) hb)
  have n2_ := zC.mk (Kd.R_elder' (by (with_reducible repeat (first | apply Kd.R_alloc | apply Kd.R_drewN | apply Kd.R_drew)); exact HO293.out) (Kd.R_base ho0) hb)
  have n3_ := zC.mk (Kd.R_below (by (with_reducible repeat (first | apply Kd.R_alloc | apply Kd.R_drewN | apply Kd.R_drew)); exact HO297.out) hb)
  have n4_ := zC.mk (Kd.R_below (by (with_reducible repeat (first | apply Kd.R_alloc | apply Kd.R_drewN | apply Kd.R_drew)); exact HO300.out) hb)
  have n5_ := zC.mk (Kd.R_below (by (with_reducible repeat (first | apply Kd.R_alloc | apply Kd.R_drewN | apply Kd.R_drew)); exact HO303.out) hb)
  have n6_ := zC.mk (Kd.R_below (by (with_reducible repeat (first | apply Kd.R_alloc | apply Kd.R_drewN | apply Kd.R_drew)); exact HO306.out) hb)
  have n7_ := zC.mk (Kd.R_below (by (with_reducible repeat (first | apply Kd.R_alloc | apply Kd.R_drewN | apply Kd.R_drew)); exact HO309.out) hb)
  have n8_ := zC.mk (Kd.R_below (by (with_reducible repeat (first | apply Kd.R_alloc | apply Kd.R_drewN | apply Kd.R_drew)); exact HO312.out) hb)
  have n9_ := zC.mk (Kd.R_lower (Kd.R_new' ho0 (Kd.R_lt (by (with_reducible repeat (first | apply Kd.R_alloc | apply Kd.R_drewN | apply Kd.R_drew)); exact HO293.out))) (zP (by repeat (first | (with_reducible first | exact HB.out | apply zJ | apply zG | apply zI | refine zE ?_ GE284.out) | exact HB.out))))
  have n10_ := zC.mk (zK (g := gb284) (o := .cells #[.int .i64 3, .int .i64 8, .int .u8 0, .int .i64 0, .int .i64 0, .float .f64 0] 35 (0, 0)) (by (with_reducible repeat (first | refine zB ?_ _ | refine zD ?_ | refine zA ?_ _)); exact BK284.out) hb)
  have n11_ := zC.mk (zQ (by repeat (first | (with_reducible first | exact HB.out | apply zJ | apply zG | apply zI | refine zE ?_ GE284.out) | exact HB.out)) hb)
  clear HO287 HO290 HO293 HO297 HO300 HO303 HO306 HO309 HO312 BK284 HB; have HO287 := n0_; have HO290 := n1_; have HO293 := n2_; have HO297 := n3_; have HO300 := n4_; have HO303 := n5_; have HO306 := n6_; have HO309 := n7_; have HO312 := n8_; have HO315 := n9_; have BK284 := n10_; have HB := n11_; clear n0_ n1_ n2_ n3_ n4_ n5_ n6_ n7_ n8_ n9_ n10_ n11_; (try clear hb)
  (try clear hb2)
  (try clear hk)
  (try clear hi)
  (try clear ho0)
  refine hK.out _ _ ⟨(zF BK284.out 0).trans rfl, (zF BK284.out 1).trans rfl, (zF BK284.out 2).trans rfl, (zF BK284.out 3).trans rfl, (zF BK284.out 4).trans rfl, (zF BK284.out 5).trans rfl⟩ (fun hHeld => ?_)
  clear hK K; refine norm_ (a' := ?_) ?_ ?_
  rotate_left
  · show Act.put _ (some 23) _ = _
    simp only [Act.put, sA_, sB_, sC_, zL, zM]; rfl
  refine pure_ (i := 6) (N := some 17) (v := ?_) (a' := ?_) (tf_ 7 11) rfl rfl (zN HT_.out (by kernel_rfl)) (fun _ _ _ h => h) (Or.inl ⟨by rfl, ?_⟩) ?_ ?_
  rotate_left
  · intro w'
    go_simp
    with_reducible rfl
  rotate_left
  · simp only [Act.put, sA_, sB_, sC_, zL, zM]
    rfl
  refine pure_ (i := 7) (N := some 24) (v := ?_) (a' := ?_) (tf_ 8 11) rfl rfl (zN HT_.out (by kernel_rfl)) (fun _ _ _ h => h) (Or.inl ⟨by rfl, ?_⟩) ?_ ?_
  rotate_left
  · intro w'
    go_simp
    with_reducible rfl
  rotate_left
  · simp only [Act.put, sA_, sB_, sC_, zL, zM]
    rfl
  refine pure_ (i := 8) (N := some 25) (v := ?_) (a' := ?_) (tf_ 9 11) rfl rfl (zN HT_.out (by kernel_rfl)) (fun _ _ _ h => h) (Or.inl ⟨by rfl, ?_⟩) ?_ ?_
  rotate_left
  · intro w'
    go_simp
    with_reducible rfl
  rotate_left
  · simp only [Act.put, sA_, sB_, sC_, zL, zM]
    rfl
  refine pure_ (i := 9) (N := some 5) (v := ?_) (a' := ?_) (tf_ 10 11) rfl rfl (zN HT_.out (by kernel_rfl)) (fun _ _ _ h => h) (Or.inl ⟨by rfl, ?_⟩) ?_ ?_
  rotate_left
  · intro w'
    go_simp
    with_reducible rfl
  rotate_left
  · simp only [Act.put, sA_, sB_, sC_, zL, zM]
    rfl
  refine pure_ (i := 10) (N := some 6) (v := ?_) (a' := ?_) #[true, true, true, true, true, true, true, true, true, true, true] rfl rfl (zN HT_.out (by kernel_rfl)) (fun _ _ _ h => h) (Or.inl ⟨by rfl, ?_⟩) ?_ ?_
  rotate_left
  · intro w'
    go_simp
    with_reducible rfl
  rotate_left
  · simp only [Act.put, sA_, sB_, sC_, zL, zM]
    rfl
  refine done_ (done_of HT_.out (by kernel_rfl)) ?_
  obtain ⟨Ao37, co37, eo37⟩ := Kd.R_slice HO303.out; subst eo37; have p317 : 0 ≤ (0 : Int) := (by omega)
  have q317 : 0 < (t301.length : Int) := of_decide_eq_true (by first | (with_reducible assumption) | assumption)
  obtain ⟨ad317, e317, hx317_0, hx317_1, hx317_2, hx317_3⟩ := at_T53 (Kd.R_reads' HO303.out).2.2 0 p317 q317; cases e317
  have qi317 : (0 < t301.length) = True := eq_true (by omega)
  (try rw [show ((0 : Int)).toNat = 0 from rfl] at hx317_0)
  (try rw [show 0 * 4 = 0 from rfl] at hx317_0)
  (try rw [Addr.add_zero'] at hx317_0)
  (try rw [show ((0 : Int)).toNat = 0 from rfl] at hx317_1)
  (try rw [show 0 * 4 = 0 from rfl] at hx317_1)
  (try rw [Addr.add_zero'] at hx317_1)
  (try rw [show ((0 : Int)).toNat = 0 from rfl] at hx317_2)
  (try rw [show 0 * 4 = 0 from rfl] at hx317_2)
  (try rw [Addr.add_zero'] at hx317_2)
  (try rw [show ((0 : Int)).toNat = 0 from rfl] at hx317_3)
  (try rw [show 0 * 4 = 0 from rfl] at hx317_3)
  (try rw [Addr.add_zero'] at hx317_3)
  replace p317 := eq_true p317; replace q317 := eq_true q317; obtain ⟨Ao38, co38, eo38⟩ := Kd.R_slice HO315.out; subst eo38; have p318 : 0 ≤ (0 : Int) := (by omega)
  have q318 : 0 < (t313.length : Int) := of_decide_eq_true (by first | (with_reducible assumption) | assumption)
  obtain ⟨ad318, e318, hx318_0, hx318_1, hx318_2, hx318_3⟩ := at_T54 (Kd.R_reads' HO315.out).2.2 0 p318 q318; cases e318
  have qi318 : (0 < t313.length) = True := eq_true (by omega)
  (try rw [show ((0 : Int)).toNat = 0 from rfl] at hx318_0)
  (try rw [show 0 * 4 = 0 from rfl] at hx318_0)
  (try rw [Addr.add_zero'] at hx318_0)
  (try rw [show ((0 : Int)).toNat = 0 from rfl] at hx318_1)
  (try rw [show 0 * 4 = 0 from rfl] at hx318_1)
  (try rw [Addr.add_zero'] at hx318_1)
  (try rw [show ((0 : Int)).toNat = 0 from rfl] at hx318_2)
  (try rw [show 0 * 4 = 0 from rfl] at hx318_2)
  (try rw [Addr.add_zero'] at hx318_2)
  (try rw [show ((0 : Int)).toNat = 0 from rfl] at hx318_3)
  (try rw [show 0 * 4 = 0 from rfl] at hx318_3)
  (try rw [Addr.add_zero'] at hx318_3)
  replace p318 := eq_true p318; replace q318 := eq_true q318; have p319 : 0 ≤ (1 : Int) := (by omega)
  have q319 : 1 < (t313.length : Int) := of_decide_eq_true (by first | (with_reducible assumption) | assumption)
  obtain ⟨ad319, e319, hx319_0, hx319_1, hx319_2, hx319_3⟩ := at_T54 (Kd.R_reads' HO315.out).2.2 1 p319 q319; obtain rfl : ad318 = ad319 := (by injection e319)
  (try simp only [show (1 : Int).toNat = 1 from rfl, Nat.reduceMul, Nat.reduceEqDiff, Go.Addr.add, ↓reduceIte] at hx319_0)
  (try simp only [show (1 : Int).toNat = 1 from rfl, Nat.reduceMul, Nat.reduceEqDiff, Go.Addr.add, ↓reduceIte] at hx319_1)
  (try simp only [show (1 : Int).toNat = 1 from rfl, Nat.reduceMul, Nat.reduceEqDiff, Go.Addr.add, ↓reduceIte] at hx319_2)
  (try simp only [show (1 : Int).toNat = 1 from rfl, Nat.reduceMul, Nat.reduceEqDiff, Go.Addr.add, ↓reduceIte] at hx319_3)
  have qi319 : (1 < t313.length) = True := eq_true (by omega)
  (try rw [show ((1 : Int)).toNat = 1 from rfl] at hx319_0)
  (try rw [show 1 * 4 = 4 from rfl] at hx319_0)
  (try rw [show ((1 : Int)).toNat = 1 from rfl] at hx319_1)
  (try rw [show 1 * 4 = 4 from rfl] at hx319_1)
  (try rw [show ((1 : Int)).toNat = 1 from rfl] at hx319_2)
  (try rw [show 1 * 4 = 4 from rfl] at hx319_2)
  (try rw [show ((1 : Int)).toNat = 1 from rfl] at hx319_3)
  (try rw [show 1 * 4 = 4 from rfl] at hx319_3)
  replace p319 := eq_true p319; replace q319 := eq_true q319; try go_wp2
  go_ret
  exact ⟨by first | rfl | (simp [errW_none, errW_some] <;> rfl) | (simp [*, errW_none, errW_some] <;> rfl), by repeat (first | (with_reducible first | exact HB.out | apply zJ | apply zG | apply zI | refine zE ?_ GE284.out) | exact HB.out)⟩
end Go.Proofs.Ytcnblneghbgjgaa.F
end
section
namespace Go.Proofs.Ytcnblneghbgjgaa.F
open Go.RowKit Go.Proofs.YtcnblneghbgjgaaW.PrintWords Go.Proofs.YtcnblneghbgjgaaW.PrintLast Go.Proofs.YtcnblneghbgjgaaW.PrintMore
attribute [local go_sem] max2_int min2_int max_two min_two max_three min_three max_four min_four   -- for this text's walks alone
set_option linter.unusedVariables false
set_option linter.unusedSimpArgs false
def stanzahand03_Config.f (a0_0 : Int) (a0_1 : Int) (a0_2 : Int) (a0_3 : Int) (a0_4 : Int) (a0_5 : Nat) : Option (Int × Int × Int × Int × Int × Nat) := some (wrap64 (1 + (wrap64 (a0_0))), wrap64 (1 + (wrap64 (Int.tmod a0_1 64))), Int.tmod a0_2 2, wrap64 (a0_3), wrap64 (a0_4), a0_5)
set_option maxHeartbeats 8000000 in
set_option maxRecDepth 100000 in
theorem stanzahand03_Config.calls (a0_0 : Int) (a0_1 : Int) (a0_2 : Int) (a0_3 : Int) (a0_4 : Int) (a0_5 : Nat) (r1 : Int) (r2 : Int) (r3 : Int) (r4 : Int) (r5 : Int) (r6 : Nat) (w : World) (h : stanzahand03_Config.f a0_0 a0_1 a0_2 a0_3 a0_4 a0_5 = some (r1, r2, r3, r4, r5, r6)) :
    Calls Try.prog 11 #[.agg #[.int .u8 a0_0, .int .u8 a0_1, .int .u8 a0_2, .int .u16 a0_3, .int .u16 a0_4, .float .f64 a0_5]] w fun e w' => e = .returned (.agg #[.int .i64 r1, .int .i64 r2, .int .u8 r3, .int .i64 r4, .int .i64 r5, .float .f64 r6]) ∧ Below w.heap.size w w' := by
  have hu26 := Try.underlying26; have hu35 := Try.underlying35; have HB := zC.mk (Below.refl w.heap.size w); have H : (some (wrap64 (1 + (wrap64 (a0_0))), wrap64 (1 + (wrap64 (Int.tmod a0_1 64))), Int.tmod a0_2 2, wrap64 (a0_3), wrap64 (a0_4), a0_5)) = some (r1, r2, r3, r4, r5, r6) := h
  clear h; simp only [Option.some.injEq, Prod.mk.injEq] at H; obtain ⟨rfl, rfl, rfl, rfl, rfl, rfl⟩ := H; go_enter Try.func11, Try.ntmps11
  go_wp2_with (first | ((with_reducible refine gate_dst (N := 1) rfl ?_); refine box_event ?hg (N := 1) ?hd (cs := #[.int .u8 a0_0, .int .u8 a0_1, .int .u8 a0_2, .int .u16 a0_3, .int .u16 a0_4, .float .f64 a0_5]) (t := 26) ?hr ?_; (case hd => rfl); (case hg => rfl); (case hr => first | (go_simp; done) | (go_simp; rfl)); intro gb320 hg w2 hbox hb; have n0_ := zC.mk (zQ (by repeat (first | (with_reducible first | exact HB.out | apply zJ | apply zG | apply zI) | exact HB.out)) hb); have n1_ := zC.mk (hbox); have n2_ := zC.mk ((by rw [hg]; exact (zP (by repeat (first | (with_reducible first | exact HB.out | apply zJ | apply zG | apply zI) | exact HB.out))) : w.heap.size ≤ gb320)); have n3_ := zC.mk ((by rw [hg]; exact (zP (by repeat (first | (with_reducible first | exact HB.out | apply zJ | apply zG | apply zI) | exact HB.out))) : w.heap.size ≤ gb320)); clear HB; have HB := n0_; have BK320 := n1_; have GW320 := n2_; have GE320 := n3_; clear n0_ n1_ n2_ n3_; clear hb hbox hg) | ((with_reducible refine gate_dst (N := 2) rfl ?_); refine box_event ?hg (N := 2) ?hd (cs := #[.int .i64 0, .int .i64 0, .int .u8 0, .int .i64 0, .int .i64 0, .float .f64 0]) (t := 35) ?hr ?_; (case hd => rfl); (case hg => rfl); (case hr => first | (go_simp; done) | (go_simp; rfl)); intro gb321 hg w3 hbox hb; have n0_ := zC.mk (zK (g := gb320) (o := .cells #[.int .u8 a0_0, .int .u8 a0_1, .int .u8 a0_2, .int .u16 a0_3, .int .u16 a0_4, .float .f64 a0_5] 26 (0, 0)) (by (with_reducible repeat (first | refine zB ?_ _ | refine zD ?_ | refine zA ?_ _)); exact BK320.out) hb); have n1_ := zC.mk (zQ (by repeat (first | (with_reducible first | exact HB.out | apply zJ | apply zG | apply zI | refine zE ?_ GE320.out) | exact HB.out)) hb); have n2_ := zC.mk (hbox); have n3_ := zC.mk ((by rw [hg]; exact (zP (by repeat (first | (with_reducible first | exact HB.out | apply zJ | apply zG | apply zI | refine zE ?_ GE320.out) | exact HB.out))) : w.heap.size ≤ gb321)); have n4_ := zC.mk ((by rw [hg]; exact (zP (by repeat (first | (with_reducible first | exact HB.out | apply zJ | apply zG | apply zI | refine zE ?_ GE320.out) | exact HB.out))) : w.heap.size ≤ gb321)); have n5_ := zC.mk ((by rw [hg]; exact Nat.ne_of_lt (blk_lt (g := gb320) (o := .cells #[.int .u8 a0_0, .int .u8 a0_1, .int .u8 a0_2, .int .u16 a0_3, .int .u16 a0_4, .float .f64 a0_5] 26 (0, 0)) (by (with_reducible repeat (first | refine zB ?_ _ | refine zD ?_ | refine zA ?_ _)); exact BK320.out)) : gb320 ≠ gb321)); have n6_ := zC.mk ((by rw [hg]; exact Nat.ne_of_gt (blk_lt (g := gb320) (o := .cells #[.int .u8 a0_0, .int .u8 a0_1, .int .u8 a0_2, .int .u16 a0_3, .int .u16 a0_4, .float .f64 a0_5] 26 (0, 0)) (by (with_reducible repeat (first | refine zB ?_ _ | refine zD ?_ | refine zA ?_ _)); exact BK320.out)) : gb321 ≠ gb320)); clear BK320; clear HB; have BK320 := n0_; have HB := n1_; have BK321 := n2_; have GW321 := n3_; have GE321 := n4_; have NB320_321 := n5_; have NB321_320 := n6_; clear n0_ n1_ n2_ n3_ n4_ n5_ n6_; clear hb hbox hg; have hnb4 := NB320_321.out; have hnc4 := NB321_320.out; have hcz5_0 : w3.cell? ⟨gb320, 0, none⟩ = some (.int .u8 a0_0) := (zF BK320.out 0).trans rfl; have hcz5_1 : w3.cell? ⟨gb320, 1, none⟩ = some (.int .u8 a0_1) := (zF BK320.out 1).trans rfl; have hcz5_2 : w3.cell? ⟨gb320, 2, none⟩ = some (.int .u8 a0_2) := (zF BK320.out 2).trans rfl; have hcz5_3 : w3.cell? ⟨gb320, 3, none⟩ = some (.int .u16 a0_3) := (zF BK320.out 3).trans rfl; have hcz5_4 : w3.cell? ⟨gb320, 4, none⟩ = some (.int .u16 a0_4) := (zF BK320.out 4).trans rfl; have hcz5_5 : w3.cell? ⟨gb320, 5, none⟩ = some (.float .f64 a0_5) := (zF BK320.out 5).trans rfl; have hfz5_0 := zH BK320.out 0; have hfz5_1 := zH BK320.out 1; have hfz5_2 := zH BK320.out 2; have hfz5_3 := zH BK320.out 3; have hfz5_4 := zH BK320.out 4; have hfz5_5 := zH BK320.out 5; have hcz6_0 : w3.cell? ⟨gb321, 0, none⟩ = some (.int .i64 0) := (zF BK321.out 0).trans rfl; have hcz6_1 : w3.cell? ⟨gb321, 1, none⟩ = some (.int .i64 0) := (zF BK321.out 1).trans rfl; have hcz6_2 : w3.cell? ⟨gb321, 2, none⟩ = some (.int .u8 0) := (zF BK321.out 2).trans rfl; have hcz6_3 : w3.cell? ⟨gb321, 3, none⟩ = some (.int .i64 0) := (zF BK321.out 3).trans rfl; have hcz6_4 : w3.cell? ⟨gb321, 4, none⟩ = some (.int .i64 0) := (zF BK321.out 4).trans rfl; have hcz6_5 : w3.cell? ⟨gb321, 5, none⟩ = some (.float .f64 0) := (zF BK321.out 5).trans rfl; have hfz6_0 := zH BK321.out 0; have hfz6_1 := zH BK321.out 1; have hfz6_2 := zH BK321.out 2; have hfz6_3 := zH BK321.out 3; have hfz6_4 := zH BK321.out 4; have hfz6_5 := zH BK321.out 5) | ((with_reducible refine gate_store (t := 35) (p := 2) rfl ?_); refine store_event (t := 35) (p := 2) (v := ?vo_w7) (w1 := ((((((w3.setCell ⟨gb321, 0, none⟩ (.int .i64 (wrap64 (1 + (wrap64 (a0_0)))))).setCell ⟨gb321, 1, none⟩ (.int .i64 (wrap64 (1 + (wrap64 (Int.tmod a0_1 64)))))).setCell ⟨gb321, 2, none⟩ (.int .u8 (Int.tmod a0_2 2))).setCell ⟨gb321, 3, none⟩ (.int .i64 (wrap64 (a0_3)))).setCell ⟨gb321, 4, none⟩ (.int .i64 (wrap64 (a0_4)))).setCell ⟨gb321, 5, none⟩ (.float .f64 a0_5))) ?hg ?ho ?hn ?hr ?_; (case ho => rfl); (case hg => rfl); (case hn => rfl); (case hr => first | (go_simp; done) | (go_simp; rfl)); intro w7 hw; have n0_ : zC (w7.heap[gb320]? = some (.cells #[.int .u8 a0_0, .int .u8 a0_1, .int .u8 a0_2, .int .u16 a0_3, .int .u16 a0_4, .float .f64 a0_5] 26 (0, 0))) := ⟨(by rw [hw]; exact (by (with_reducible repeat (first | refine zB ?_ _ | refine zD ?_ | refine zA ?_ _)); refine zO ?_ NB320_321.out _; (with_reducible repeat (first | refine zB ?_ _ | refine zD ?_ | refine zA ?_ _)); refine zO ?_ NB320_321.out _; (with_reducible repeat (first | refine zB ?_ _ | refine zD ?_ | refine zA ?_ _)); refine zO ?_ NB320_321.out _; (with_reducible repeat (first | refine zB ?_ _ | refine zD ?_ | refine zA ?_ _)); refine zO ?_ NB320_321.out _; (with_reducible repeat (first | refine zB ?_ _ | refine zD ?_ | refine zA ?_ _)); refine zO ?_ NB320_321.out _; (with_reducible repeat (first | refine zB ?_ _ | refine zD ?_ | refine zA ?_ _)); refine zO ?_ NB320_321.out _; (with_reducible repeat (first | refine zB ?_ _ | refine zD ?_ | refine zA ?_ _)); exact BK320.out))⟩; have n1_ : zC (w7.heap[gb321]? = some (.cells #[.int .i64 (wrap64 (1 + (wrap64 (a0_0)))), .int .i64 (wrap64 (1 + (wrap64 (Int.tmod a0_1 64)))), .int .u8 (Int.tmod a0_2 2), .int .i64 (wrap64 (a0_3)), .int .i64 (wrap64 (a0_4)), .float .f64 a0_5] 35 (0, 0))) := ⟨(by rw [hw]; exact (by (with_reducible repeat (first | refine zB ?_ _ | refine zD ?_ | refine zA ?_ _)); refine blk_put (cs := #[.int .i64 (wrap64 (1 + (wrap64 (a0_0)))), .int .i64 (wrap64 (1 + (wrap64 (Int.tmod a0_1 64)))), .int .u8 (Int.tmod a0_2 2), .int .i64 (wrap64 (a0_3)), .int .i64 (wrap64 (a0_4)), .float .f64 0]) ?_ 5 _ rfl; (with_reducible repeat (first | refine zB ?_ _ | refine zD ?_ | refine zA ?_ _)); refine blk_put (cs := #[.int .i64 (wrap64 (1 + (wrap64 (a0_0)))), .int .i64 (wrap64 (1 + (wrap64 (Int.tmod a0_1 64)))), .int .u8 (Int.tmod a0_2 2), .int .i64 (wrap64 (a0_3)), .int .i64 0, .float .f64 0]) ?_ 4 _ rfl; (with_reducible repeat (first | refine zB ?_ _ | refine zD ?_ | refine zA ?_ _)); refine blk_put (cs := #[.int .i64 (wrap64 (1 + (wrap64 (a0_0)))), .int .i64 (wrap64 (1 + (wrap64 (Int.tmod a0_1 64)))), .int .u8 (Int.tmod a0_2 2), .int .i64 0, .int .i64 0, .float .f64 0]) ?_ 3 _ rfl; (with_reducible repeat (first | refine zB ?_ _ | refine zD ?_ | refine zA ?_ _)); refine blk_put (cs := #[.int .i64 (wrap64 (1 + (wrap64 (a0_0)))), .int .i64 (wrap64 (1 + (wrap64 (Int.tmod a0_1 64)))), .int .u8 0, .int .i64 0, .int .i64 0, .float .f64 0]) ?_ 2 _ rfl; (with_reducible repeat (first | refine zB ?_ _ | refine zD ?_ | refine zA ?_ _)); refine blk_put (cs := #[.int .i64 (wrap64 (1 + (wrap64 (a0_0)))), .int .i64 0, .int .u8 0, .int .i64 0, .int .i64 0, .float .f64 0]) ?_ 1 _ rfl; (with_reducible repeat (first | refine zB ?_ _ | refine zD ?_ | refine zA ?_ _)); refine blk_put (cs := #[.int .i64 0, .int .i64 0, .int .u8 0, .int .i64 0, .int .i64 0, .float .f64 0]) ?_ 0 _ rfl; (with_reducible repeat (first | refine zB ?_ _ | refine zD ?_ | refine zA ?_ _)); exact BK321.out))⟩; have n2_ : zC (Below w.heap.size w w7) := ⟨(by rw [hw]; exact (by repeat (first | (with_reducible first | exact HB.out | apply zJ | apply zG | apply zI | refine zE ?_ GE320.out | refine zE ?_ GE321.out) | exact HB.out)))⟩; clear hw; clear BK320; clear BK321; clear HB; have BK320 := n0_; have BK321 := n1_; have HB := n2_; clear n0_ n1_ n2_))
  refine bodyPost_ret (results_cell_row rfl _ _ gb321 35 #[.int .i64 (wrap64 (1 + (wrap64 (a0_0)))), .int .i64 (wrap64 (1 + (wrap64 (Int.tmod a0_1 64)))), .int .u8 (Int.tmod a0_2 2), .int .i64 (wrap64 (a0_3)), .int .i64 (wrap64 (a0_4)), .float .f64 a0_5] (0, 0) _ rfl (by (with_reducible repeat (first | refine zB ?_ _ | refine zD ?_ | refine zA ?_ _)); exact BK321.out) Try.underlying35 rfl (by kernel_rfl)) rfl ?_
  exact ⟨by first | rfl | (simp [errW_none, errW_some] <;> rfl) | (simp [*, errW_none, errW_some] <;> rfl), by repeat (first | (with_reducible first | exact HB.out | apply zJ | apply zG | apply zI | refine zE ?_ GE320.out | refine zE ?_ GE321.out) | exact HB.out)⟩
end Go.Proofs.Ytcnblneghbgjgaa.F
end
section
namespace Go.Proofs.Ytcnblneghbgjgaa.F
open Go.RowKit Go.Proofs.YtcnblneghbgjgaaW.PrintWords Go.Proofs.YtcnblneghbgjgaaW.PrintLast Go.Proofs.YtcnblneghbgjgaaW.PrintMore
attribute [local go_sem] max2_int min2_int max_two min_two max_three min_three max_four min_four   -- for this text's walks alone
set_option linter.unusedVariables false
set_option linter.unusedSimpArgs false
def items_Bytes.l0 : Nat → Int → List (S66) → Int → Int → Option (Int)
  | 0, _, _, _, _ => none
  | k + 1, x3, x7, x8, x9 => if x9 < x8 then (if 0 ≤ x9 then (if x9 < (x7.length : Int) then (items_Bytes.l0 k (wrap64 (x3 + ((rd_T66 x7 x9).f1))) x7 x8 (wrap64 (x9 + 1))) else (none)) else (none)) else (some x3)
def items_Bytes.f (k : Nat) (l0_0 : List (S66)) (l0_1 : List Int) : Option (Int) := items_Bytes.l0 k 0 l0_0 (l0_0.length : Int) 0
theorem items_Bytes.mono_l : ∀ k, (∀ y0 y1 y2 y3, LeO (items_Bytes.l0 k y0 y1 y2 y3) (items_Bytes.l0 (k + 1) y0 y1 y2 y3))
  | 0 => fun _ _ _ _ r h => by simp [items_Bytes.l0] at h
  | k + 1 => by
    have ih0 := items_Bytes.mono_l k
    · intro y0 y1 y2 y3
      unfold items_Bytes.l0
      repeat' first
      | (with_reducible exact ih0 _ _ _ _)
      | (with_reducible exact LeO.refl _)
      | (with_reducible exact LeO.none _)
      | (with_reducible refine LeO.ite ?_ ?_)
      | (with_reducible refine LeO.bind ?_ (fun _ => ?_))
      | exact ih0 _ _ _ _
      | exact LeO.none _
      | refine LeO.ite ?_ ?_
      | refine LeO.bind ?_ (fun _ => ?_)
theorem items_Bytes.mono : ∀ a0 a1 k, LeO (items_Bytes.f k a0 a1) (items_Bytes.f (k + 1) a0 a1) := by
  intro a0 a1 k
  have ih0 := items_Bytes.mono_l k; unfold items_Bytes.f
  repeat' first
      | (with_reducible exact ih0 _ _ _ _)
      | (with_reducible exact LeO.refl _)
      | (with_reducible exact LeO.none _)
      | (with_reducible refine LeO.ite ?_ ?_)
      | (with_reducible refine LeO.bind ?_ (fun _ => ?_))
      | exact ih0 _ _ _ _
      | exact LeO.none _
      | refine LeO.ite ?_ ?_
      | refine LeO.bind ?_ (fun _ => ?_)
set_option maxHeartbeats 8000000 in
set_option maxRecDepth 100000 in
theorem items_Bytes.calls (k : Nat) (A0_0 : Option Addr) (c0_0 : Nat) (l0_0 : List (S66)) (A0_1 : Option Addr) (c0_1 : Nat) (l0_1 : List Int) (r : Int) (w : World) (hr0_0 : Kd.C k66 w A0_0 l0_0.length l0_0) (hc0_0 : l0_0.length ≤ c0_0) (hr0_1 : Kd.C (Kd.int .u8) w A0_1 l0_1.length l0_1) (hc0_1 : l0_1.length ≤ c0_1) (h : items_Bytes.f k l0_0 l0_1 = some r) :
    Calls Try.prog 22 #[.agg #[.slice A0_0 l0_0.length c0_0, .slice A0_1 l0_1.length c0_1]] w fun e w' => e = .returned (.int .i64 r) ∧ Below w.heap.size w w' := by
  have hu31 := Try.underlying31; have hu66 := Try.underlying66; have HR0_0 := zC.mk hr0_0; have HC0_0 := zC.mk hc0_0; clear hr0_0 hc0_0; have HR0_1 := zC.mk hr0_1; have HC0_1 := zC.mk hc0_1; clear hr0_1 hc0_1; have HB := zC.mk (Below.refl w.heap.size w); have H : (items_Bytes.l0 k 0 l0_0 (l0_0.length : Int) 0) = some r := h
  clear h; have H' := zC.mk H
  clear H; go_enter Try.func22, Try.ntmps22
  go_wp2_with (first | ((with_reducible refine gate_dst (N := 1) rfl ?_); refine box_event ?hg (N := 1) ?hd (cs := #[.slice A0_0 l0_0.length c0_0, .slice A0_1 l0_1.length c0_1]) (t := 31) ?hr ?_; (case hd => rfl); (case hg => rfl); (case hr => first | (go_simp; done) | (go_simp; rfl)); intro gb642 hg w2 hbox hb; have n0_ := zC.mk (zQ (by repeat (first | (with_reducible first | exact HB.out | apply zJ | apply zG | apply zI) | exact HB.out)) hb); have n1_ := zC.mk (hbox); have n2_ := zC.mk ((by rw [hg]; exact (zP (by repeat (first | (with_reducible first | exact HB.out | apply zJ | apply zG | apply zI) | exact HB.out))) : w.heap.size ≤ gb642)); have n3_ := zC.mk ((by rw [hg]; exact (zP (by repeat (first | (with_reducible first | exact HB.out | apply zJ | apply zG | apply zI) | exact HB.out))) : w.heap.size ≤ gb642)); clear HB; have HB := n0_; have BK642 := n1_; have GW642 := n2_; have GE642 := n3_; clear n0_ n1_ n2_ n3_; clear hb hbox hg; have hcz3_0 : w2.cell? ⟨gb642, 0, none⟩ = some (.slice A0_0 l0_0.length c0_0) := (zF BK642.out 0).trans rfl; have hcz3_1 : w2.cell? ⟨gb642, 1, none⟩ = some (.slice A0_1 l0_1.length c0_1) := (zF BK642.out 1).trans rfl; have hfz3_0 := zH BK642.out 0; have hfz3_1 := zH BK642.out 1))
  go_loopg [3, 9] k (fun kq v3 v9 w' => ∃ (x3_1 : Int) (x9_1 : Int), v3 = .int .i64 x3_1 ∧ v9 = .int .i64 x9_1 ∧ zC (items_Bytes.l0 kq x3_1 l0_0 (l0_0.length : Int) x9_1 = some r) ∧ zC (kq ≤ k) ∧ zC (w'.heap[gb642]? = some (.cells #[(.slice A0_0 l0_0.length c0_0), (.slice A0_1 l0_1.length c0_1)] 31 (0, 0))) ∧ zC (Below w.heap.size w w'))
  case atStart => exact ⟨(0), (0), (by first | rfl | (simp; done) | (simp [*]; done)), (by first | rfl | (simp; done) | (simp [*]; done)), H', ⟨Nat.le_refl _⟩, ⟨by (with_reducible repeat (first | refine zB ?_ _ | refine zD ?_ | refine zA ?_ _)); exact BK642.out⟩, ⟨by repeat (first | (with_reducible first | exact HB.out | apply zJ | apply zG | apply zI | refine zE ?_ GE642.out) | exact HB.out)⟩⟩
  clear H'; try clear c2
  try clear p2
  try clear hcz3_0
  try clear hcz3_1
  try clear hfz3_0
  try clear hfz3_1
  obtain ⟨x3_1, x9_1, rfl, rfl, HA, HK1, BK642, HB⟩ := hrel; cases gk with
  | zero => exact absurd HA.out (by simp [items_Bytes.l0])
  | succ k1 =>
    have H := HA.out; clear HA; simp only [items_Bytes.l0] at H; by_cases c4 : x9_1 < (l0_0.length : Int)
    rotate_left
    · rw [if_neg c4] at H
      have c4b0 : decide (x9_1 < (l0_0.length : Int)) = false := decide_eq_false c4
      clear c4; obtain rfl := Option.some.inj H
      go_wp2
      go_ret
      exact ⟨by first | rfl | (simp [errW_none, errW_some] <;> rfl) | (simp [*, errW_none, errW_some] <;> rfl), by repeat (first | (with_reducible first | exact HB.out | apply zJ | apply zG | apply zI | refine zE ?_ GE642.out) | exact HB.out)⟩
    rw [if_pos c4] at H; have c4b0 : decide (x9_1 < (l0_0.length : Int)) = true := decide_eq_true c4
    clear c4; by_cases c5 : 0 ≤ x9_1
    rotate_left
    · rw [if_neg c5] at H
      exact absurd H (by simp)
    rw [if_pos c5] at H; have c5b0 : decide (0 ≤ x9_1) = true := decide_eq_true c5
    clear c5; by_cases c6 : x9_1 < (l0_0.length : Int)
    rotate_left
    · rw [if_neg c6] at H
      exact absurd H (by simp)
    rw [if_pos c6] at H; have c6b0 : decide (x9_1 < (l0_0.length : Int)) = true := decide_eq_true c6
    clear c6; have H' := zC.mk H
    clear H; have p643 : 0 ≤ (x9_1 : Int) := of_decide_eq_true (by first | (with_reducible assumption) | assumption)
    have q643 : x9_1 < (l0_0.length : Int) := of_decide_eq_true (by first | (with_reducible assumption) | assumption)
    obtain ⟨ad643, e643, hx643_0, hx643_1, hx643_2, hx643_3⟩ := at_T66 HR0_0.out x9_1 p643 q643; cases e643
    replace hx643_0 := (HB.out.cell (World.block_lt_of_cell? w _ hx643_0)).trans hx643_0; replace hx643_1 := (HB.out.cell (World.block_lt_of_cell? w _ hx643_1)).trans hx643_1; replace hx643_2 := (HB.out.cell (World.block_lt_of_cell? w _ hx643_2)).trans hx643_2; replace hx643_3 := (HB.out.cell (World.block_lt_of_cell? w _ hx643_3)).trans hx643_3; replace p643 := eq_true p643; replace q643 := eq_true q643; go_wp2_with (first | ((with_reducible refine gate_dst (N := 5) rfl ?_); refine box_event ?hg (N := 5) ?hd (cs := #[.int .i64 0, .int .i64 0, .int .i64 0, .int .u8 0]) (t := 66) ?hr ?_; (case hd => rfl); (case hg => rfl); (case hr => first | (go_simp; done) | (go_simp; rfl)); intro gb644 hg w7 hbox hb; have n0_ := zC.mk (zK (g := gb642) (o := .cells #[.slice (some ad643) l0_0.length c0_0, .slice A0_1 l0_1.length c0_1] 31 (0, 0)) (by (with_reducible repeat (first | refine zB ?_ _ | refine zD ?_ | refine zA ?_ _)); exact BK642.out) hb); have n1_ := zC.mk (zQ (by repeat (first | (with_reducible first | exact HB.out | apply zJ | apply zG | apply zI | refine zE ?_ GE642.out) | exact HB.out)) hb); have n2_ := zC.mk (hbox); have n3_ := zC.mk ((by rw [hg]; exact (zP (by repeat (first | (with_reducible first | exact HB.out | apply zJ | apply zG | apply zI | refine zE ?_ GE642.out) | exact HB.out))) : w.heap.size ≤ gb644)); have n4_ := zC.mk ((by rw [hg]; exact (zP (by repeat (first | (with_reducible first | exact HB.out | apply zJ | apply zG | apply zI | refine zE ?_ GE642.out) | exact HB.out))) : w.heap.size ≤ gb644)); have n5_ := zC.mk ((by rw [hg]; exact Nat.ne_of_lt (blk_lt (g := gb642) (o := .cells #[.slice (some ad643) l0_0.length c0_0, .slice A0_1 l0_1.length c0_1] 31 (0, 0)) (by (with_reducible repeat (first | refine zB ?_ _ | refine zD ?_ | refine zA ?_ _)); exact BK642.out)) : gb642 ≠ gb644)); have n6_ := zC.mk ((by rw [hg]; exact Nat.ne_of_gt (blk_lt (g := gb642) (o := .cells #[.slice (some ad643) l0_0.length c0_0, .slice A0_1 l0_1.length c0_1] 31 (0, 0)) (by (with_reducible repeat (first | refine zB ?_ _ | refine zD ?_ | refine zA ?_ _)); exact BK642.out)) : gb644 ≠ gb642)); clear BK642; clear HB; have BK642 := n0_; have HB := n1_; have BK644 := n2_; have GW644 := n3_; have GE644 := n4_; have NB642_644 := n5_; have NB644_642 := n6_; clear n0_ n1_ n2_ n3_ n4_ n5_ n6_; clear hb hbox hg; have hnb8 := NB644_642.out; have hnc8 := NB642_644.out; have hcz9_0 : w7.cell? ⟨gb644, 0, none⟩ = some (.int .i64 0) := (zF BK644.out 0).trans rfl; have hcz9_1 : w7.cell? ⟨gb644, 1, none⟩ = some (.int .i64 0) := (zF BK644.out 1).trans rfl; have hcz9_2 : w7.cell? ⟨gb644, 2, none⟩ = some (.int .i64 0) := (zF BK644.out 2).trans rfl; have hcz9_3 : w7.cell? ⟨gb644, 3, none⟩ = some (.int .u8 0) := (zF BK644.out 3).trans rfl; have hfz9_0 := zH BK644.out 0; have hfz9_1 := zH BK644.out 1; have hfz9_2 := zH BK644.out 2; have hfz9_3 := zH BK644.out 3) | ((with_reducible refine gate_store (t := 66) (p := 5) rfl ?_); refine store_event (t := 66) (p := 5) (v := ?vo_w10) (w1 := ((((w7.setCell ⟨gb644, 0, none⟩ (.int .i64 ((rd_T66 l0_0 x9_1).f0))).setCell ⟨gb644, 1, none⟩ (.int .i64 ((rd_T66 l0_0 x9_1).f1))).setCell ⟨gb644, 2, none⟩ (.int .i64 ((rd_T66 l0_0 x9_1).f2))).setCell ⟨gb644, 3, none⟩ (.int .u8 ((rd_T66 l0_0 x9_1).f3)))) ?hg ?ho ?hn ?hr ?_; (case ho => rfl); (case hg => rfl); (case hn => rfl); (case hr => first | (go_simp; done) | (go_simp; rfl)); intro w10 hw; have n0_ : zC (w10.heap[gb642]? = some (.cells #[.slice (some ad643) l0_0.length c0_0, .slice A0_1 l0_1.length c0_1] 31 (0, 0))) := ⟨(by rw [hw]; exact (by (with_reducible repeat (first | refine zB ?_ _ | refine zD ?_ | refine zA ?_ _)); refine zO ?_ NB642_644.out _; (with_reducible repeat (first | refine zB ?_ _ | refine zD ?_ | refine zA ?_ _)); refine zO ?_ NB642_644.out _; (with_reducible repeat (first | refine zB ?_ _ | refine zD ?_ | refine zA ?_ _)); refine zO ?_ NB642_644.out _; (with_reducible repeat (first | refine zB ?_ _ | refine zD ?_ | refine zA ?_ _)); refine zO ?_ NB642_644.out _; (with_reducible repeat (first | refine zB ?_ _ | refine zD ?_ | refine zA ?_ _)); exact BK642.out))⟩; have n1_ : zC (w10.heap[gb644]? = some (.cells #[.int .i64 ((rd_T66 l0_0 x9_1).f0), .int .i64 ((rd_T66 l0_0 x9_1).f1), .int .i64 ((rd_T66 l0_0 x9_1).f2), .int .u8 ((rd_T66 l0_0 x9_1).f3)] 66 (0, 0))) := ⟨(by rw [hw]; exact (by (with_reducible repeat (first | refine zB ?_ _ | refine zD ?_ | refine zA ?_ _)); refine blk_put (cs := #[.int .i64 ((rd_T66 l0_0 x9_1).f0), .int .i64 ((rd_T66 l0_0 x9_1).f1), .int .i64 ((rd_T66 l0_0 x9_1).f2), .int .u8 0]) ?_ 3 _ rfl; (with_reducible repeat (first | refine zB ?_ _ | refine zD ?_ | refine zA ?_ _)); refine blk_put (cs := #[.int .i64 ((rd_T66 l0_0 x9_1).f0), .int .i64 ((rd_T66 l0_0 x9_1).f1), .int .i64 0, .int .u8 0]) ?_ 2 _ rfl; (with_reducible repeat (first | refine zB ?_ _ | refine zD ?_ | refine zA ?_ _)); refine blk_put (cs := #[.int .i64 ((rd_T66 l0_0 x9_1).f0), .int .i64 0, .int .i64 0, .int .u8 0]) ?_ 1 _ rfl; (with_reducible repeat (first | refine zB ?_ _ | refine zD ?_ | refine zA ?_ _)); refine blk_put (cs := #[.int .i64 0, .int .i64 0, .int .i64 0, .int .u8 0]) ?_ 0 _ rfl; (with_reducible repeat (first | refine zB ?_ _ | refine zD ?_ | refine zA ?_ _)); exact BK644.out))⟩; have n2_ : zC (Below w.heap.size w w10) := ⟨(by rw [hw]; exact (by repeat (first | (with_reducible first | exact HB.out | apply zJ | apply zG | apply zI | refine zE ?_ GE642.out | refine zE ?_ GE644.out) | exact HB.out)))⟩; clear hw; clear BK642; clear BK644; clear HB; have BK642 := n0_; have BK644 := n1_; have HB := n2_; clear n0_ n1_ n2_; have hcz11_0 : w10.cell? ⟨gb644, 0, none⟩ = some (.int .i64 ((rd_T66 l0_0 x9_1).f0)) := (zF BK644.out 0).trans rfl; have hcz11_1 : w10.cell? ⟨gb644, 1, none⟩ = some (.int .i64 ((rd_T66 l0_0 x9_1).f1)) := (zF BK644.out 1).trans rfl; have hcz11_2 : w10.cell? ⟨gb644, 2, none⟩ = some (.int .i64 ((rd_T66 l0_0 x9_1).f2)) := (zF BK644.out 2).trans rfl; have hcz11_3 : w10.cell? ⟨gb644, 3, none⟩ = some (.int .u8 ((rd_T66 l0_0 x9_1).f3)) := (zF BK644.out 3).trans rfl; have hfz11_0 := zH BK644.out 0; have hfz11_1 := zH BK644.out 1; have hfz11_2 := zH BK644.out 2; have hfz11_3 := zH BK644.out 3))
    go_roundg k1
    case measure => have := HK1.out; omega
    case rel => exact ⟨(wrap64 (x3_1 + ((rd_T66 l0_0 x9_1).f1))), (wrap64 (x9_1 + 1)), (by first | rfl | (simp; done) | (simp [*]; done)), (by first | rfl | (simp; done) | (simp [*]; done)), H', ⟨by have := HK1.out; omega⟩, ⟨by (with_reducible repeat (first | refine zB ?_ _ | refine zD ?_ | refine zA ?_ _)); exact BK642.out⟩, ⟨by repeat (first | (with_reducible first | exact HB.out | apply zJ | apply zG | apply zI | refine zE ?_ GE642.out | refine zE ?_ GE644.out) | exact HB.out)⟩⟩
end Go.Proofs.Ytcnblneghbgjgaa.F
end
