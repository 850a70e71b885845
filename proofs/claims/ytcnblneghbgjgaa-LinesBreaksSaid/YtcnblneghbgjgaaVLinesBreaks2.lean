/- Printed by a program: Lean functions that answer as the Go functions do, and the proofs of it. -/
import Derived.Test.YtcnblneghbgjgaaXLinesBreaks0
import Derived.Test.YtcnblneghbgjgaaVLinesBreaks0
section
namespace Go.Proofs.Ytcnblneghbgjgaa.F
open Go.RowKit Go.Proofs.YtcnblneghbgjgaaW.PrintWords Go.Proofs.YtcnblneghbgjgaaW.PrintLast Go.Proofs.YtcnblneghbgjgaaW.PrintMore
attribute [local go_sem] max2_int min2_int max_two min_two max_three min_three max_four min_four   -- for this text's walks alone
set_option linter.unusedVariables false
set_option linter.unusedSimpArgs false
def r3_Next.l0 : Nat → Int → Int → Option (Int)
 | 0, _, _ => none
 | k + 1, x2, x7 => if x2 = 0 then (none) else (if (Int.tmod x7 x2) = 0 then (some x7) else (r3_Next.l0 k x2 (wrap64 (x7 + 1))))
def r3_Next.f (k : Nat) (a0_0 : Int) (a0_1 : Int) (a0_2 : Int) (a0_3 : Int) (a1 : Int) (a2 : Int) : Option (Int) := if a0_3 = 2 then (r3_Next.l0 k a2 (wrap64 (a1 + 1))) else (some (wrap64 (a1 + a0_2)))
theorem r3_Next.mono_l : ∀ k, (∀ y0 y1, LeO (r3_Next.l0 k y0 y1) (r3_Next.l0 (k + 1) y0 y1))
 | 0 => fun _ _ r h => by simp [r3_Next.l0] at h
 | k + 1 => by
  have ih0 := r3_Next.mono_l k
  ·intro y0 y1
   unfold r3_Next.l0
   repeat' (with_reducible first | exact ih0 _ _ | exact LeO.refl _ | exact LeO.none _ | refine LeO.ite ?_ ?_ | refine LeO.bind ?_ (fun _ => ?_))
theorem r3_Next.mono : ∀ a0 a1 a2 a3 a4 a5 k, LeO (r3_Next.f k a0 a1 a2 a3 a4 a5) (r3_Next.f (k + 1) a0 a1 a2 a3 a4 a5) := by
 intro a0 a1 a2 a3 a4 a5 k
 have ih0 := r3_Next.mono_l k; unfold r3_Next.f
 repeat' (with_reducible first | exact ih0 _ _ | exact LeO.refl _ | exact LeO.none _ | refine LeO.ite ?_ ?_ | refine LeO.bind ?_ (fun _ => ?_))
set_option maxHeartbeats 8000000 in
set_option maxRecDepth 100000 in
theorem r3_Next.calls (k : Nat) (a0_0 : Int) (a0_1 : Int) (a0_2 : Int) (a0_3 : Int) (a1 : Int) (a2 : Int) (r : Int) (w : World) (h : r3_Next.f k a0_0 a0_1 a0_2 a0_3 a1 a2 = some r) :
  Calls Try.prog 54 #[.agg #[.int .i64 a0_0, .int .i64 a0_1, .int .i64 a0_2, .int .u8 a0_3], .int .i64 a1, .int .i64 a2] w fun e w' => e = .returned (.int .i64 r) ∧ Below w.heap.size w w' := by
 have hu66 := Try.underlying66; have HB := zA.mk (Below.refl w.heap.size w); have H : (if a0_3 = 2 then (r3_Next.l0 k a2 (wrap64 (a1 + 1))) else (some (wrap64 (a1 + a0_2)))) = some r := h
 clear h; by_cases c4 : a0_3 = 2
 rotate_left
 ·rw [if_neg c4] at H
  have c4b0 : (a0_3 == 2) = false := beq_eq_false_iff_ne.mpr c4
  have c4b1 : (a0_3 != 2) = true := bne_iff_ne.mpr c4
  obtain rfl := Option.some.inj H
  go_enter Try.func54, Try.ntmps54
  go_wp2_with (first | ((with_reducible refine gate_dst (N := 3) rfl ?_); refine box_event ?hg (N := 3) ?hd (cs := #[.int .i64 a0_0, .int .i64 a0_1, .int .i64 a0_2, .int .u8 a0_3]) (t := 66) ?hr ?_; (case hd => rfl); (case hg => rfl); (case hr => first | (go_simp; done) | (go_simp; rfl)); intro gb327 hg w9 hbox hb; have BK327 := zA.mk (hbox); have GW327 := zA.mk ((by rw [hg]; exact (zH (aL HB)) : w.heap.size ≤ gb327)); replace HB := zA.mk (zD (aL HB) hb); have GE327 := GW327; clear hb hbox hg; obtain ⟨hcz10_0, hcz10_1, hcz10_2, hcz10_3, hfz10_0, hfz10_1, hfz10_2, hfz10_3⟩ := aC4 BK327))
  go_ret
  exact ⟨aX, aL HB⟩
 rw [if_pos c4] at H; have c4b0 : (a0_3 == 2) = true := beq_iff_eq.mpr c4
 have c4b1 : (a0_3 != 2) = false := bne_eq_false_iff_eq.mpr c4
 clear c4; have H' := zA.mk H
 clear H; go_enter Try.func54, Try.ntmps54
 go_wp2_with (first | ((with_reducible refine gate_dst (N := 3) rfl ?_); refine box_event ?hg (N := 3) ?hd (cs := #[.int .i64 a0_0, .int .i64 a0_1, .int .i64 a0_2, .int .u8 a0_3]) (t := 66) ?hr ?_; (case hd => rfl); (case hg => rfl); (case hr => first | (go_simp; done) | (go_simp; rfl)); intro gb327 hg w5 hbox hb; have BK327 := zA.mk (hbox); have GW327 := zA.mk ((by rw [hg]; exact (zH (aL HB)) : w.heap.size ≤ gb327)); replace HB := zA.mk (zD (aL HB) hb); have GE327 := GW327; clear hb hbox hg; obtain ⟨hcz6_0, hcz6_1, hcz6_2, hcz6_3, hfz6_0, hfz6_1, hfz6_2, hfz6_3⟩ := aC4 BK327))
 go_loopg [7] k (fun kq v7 w' => ∃ (x7_1 : Int), v7 = .int .i64 x7_1 ∧ zA (r3_Next.l0 kq a2 x7_1 = some r) ∧ zA (kq ≤ k) ∧ zA (w'.heap[gb327]? = some (.cells #[.int .i64 a0_0, .int .i64 a0_1, .int .i64 a0_2, .int .u8 a0_3] 66 (0, 0))) ∧ zA (Below w.heap.size w w'))
 case atStart => exact ⟨(wrap64 (a1 + 1)), aZ, H', ⟨Nat.le_refl _⟩, ⟨aB BK327⟩, ⟨aL HB⟩⟩
 clear H'; obtain ⟨x7_1, rfl, HA, HK1, BK327, HB⟩ := hrel; cases gk with
 | zero => exact absurd HA.out (by simp [r3_Next.l0])
 | succ k1 =>
  have H := HA.out; clear HA; simp only [r3_Next.l0] at H; by_cases c7 : a2 = 0
  ·rw [if_pos c7] at H
   exact absurd H (by simp)
  rw [if_neg c7] at H; have c7b0 : (a2 == 0) = false := beq_eq_false_iff_ne.mpr c7
  have c7b1 : (a2 != 0) = true := bne_iff_ne.mpr c7
  by_cases c8 : (Int.tmod x7_1 a2) = 0
  ·rw [if_pos c8] at H
   have c8b0 : ((Int.tmod x7_1 a2) == 0) = true := beq_iff_eq.mpr c8
   have c8b1 : ((Int.tmod x7_1 a2) != 0) = false := bne_eq_false_iff_eq.mpr c8
   clear c8; obtain rfl := Option.some.inj H
   go_wp2
   go_ret
   exact ⟨aX, aL HB⟩
  rw [if_neg c8] at H; have c8b0 : ((Int.tmod x7_1 a2) == 0) = false := beq_eq_false_iff_ne.mpr c8
  have c8b1 : ((Int.tmod x7_1 a2) != 0) = true := bne_iff_ne.mpr c8
  have H' := zA.mk H
  clear H; go_wp2
  go_roundg k1
  case measure => have := HK1.out; omega
  case rel => exact ⟨(wrap64 (x7_1 + 1)), aZ, H', ⟨by have := HK1.out; omega⟩, ⟨aB BK327⟩, ⟨aL HB⟩⟩
def r3_Columns.l0 : Nat → Int → Int → Int → List Int → Int → List (S66) → List Int → Option (List Int)
 | 0, _, _, _, _, _, _, _ => none
 | k + 1, x2, x3, x9, x10, x11, x329000, x329001 => if x11 < x2 then (if 0 ≤ x11 then (if x11 < (x329000.length : Int) then ((r3_Next.f k ((rd_T66 x329000 x11).f0) ((rd_T66 x329000 x11).f1) ((rd_T66 x329000 x11).f2) ((rd_T66 x329000 x11).f3) x9 x3).bind fun t333 => (if x10.length < 17592186044416 then (r3_Columns.l0 k x2 x3 t333 (x10 ++ [t333]) (wrap64 (x11 + 1)) x329000 x329001) else (none))) else (none)) else (none)) else (some x10)
def r3_Columns.f (k : Nat) (l0_0 : List (S66)) (l0_1 : List Int) (a1 : Int) (a2 : Int) (a3 : Int) : Option (List Int) := r3_Columns.l0 k a2 a3 0 (([0] : List Int)) a1 l0_0 l0_1
theorem r3_Columns.mono_l : ∀ k, (∀ y0 y1 y2 y3 y4 y5 y6, LeO (r3_Columns.l0 k y0 y1 y2 y3 y4 y5 y6) (r3_Columns.l0 (k + 1) y0 y1 y2 y3 y4 y5 y6))
 | 0 => fun _ _ _ _ _ _ _ r h => by simp [r3_Columns.l0] at h
 | k + 1 => by
  have ih0 := r3_Columns.mono_l k
  ·intro y0 y1 y2 y3 y4 y5 y6
   unfold r3_Columns.l0
   repeat' (with_reducible first | exact ih0 _ _ _ _ _ _ _ | exact r3_Next.mono _ _ _ _ _ _ _ | exact LeO.refl _ | exact LeO.none _ | refine LeO.ite ?_ ?_ | refine LeO.bind ?_ (fun _ => ?_))
theorem r3_Columns.mono : ∀ a0 a1 a2 a3 a4 k, LeO (r3_Columns.f k a0 a1 a2 a3 a4) (r3_Columns.f (k + 1) a0 a1 a2 a3 a4) := by
 intro a0 a1 a2 a3 a4 k
 have ih0 := r3_Columns.mono_l k; unfold r3_Columns.f
 repeat' (with_reducible first | exact ih0 _ _ _ _ _ _ _ | exact r3_Next.mono _ _ _ _ _ _ _ | exact LeO.refl _ | exact LeO.none _ | refine LeO.ite ?_ ?_ | refine LeO.bind ?_ (fun _ => ?_))
set_option maxHeartbeats 8000000 in
set_option maxRecDepth 100000 in
theorem r3_Columns.calls (k : Nat) (A0_0 : Option Addr) (c0_0 : Nat) (l0_0 : List (S66)) (A0_1 : Option Addr) (c0_1 : Nat) (l0_1 : List Int) (a1 : Int) (a2 : Int) (a3 : Int) (r : List Int) (w : World) (hr0_0 : Kd.C k66 w A0_0 l0_0.length l0_0) (hc0_0 : l0_0.length ≤ c0_0) (hr0_1 : Kd.C (Kd.int .u8) w A0_1 l0_1.length l0_1) (hc0_1 : l0_1.length ≤ c0_1) (h : r3_Columns.f k l0_0 l0_1 a1 a2 a3 = some r) :
  Calls Try.prog 44 #[.agg #[.slice A0_0 l0_0.length c0_0, .slice A0_1 l0_1.length c0_1], .int .i64 a1, .int .i64 a2, .int .i64 a3] w fun e w' => ∃ v0_ : Value, e = .returned (v0_) ∧ Kd.R (Kd.int .i64) 3 w' w.heap.size (fun _ => True) v0_ r ∧ Below w.heap.size w w' := by
 have hu31 := Try.underlying31; have hu66 := Try.underlying66; have HR0_0 := zA.mk hr0_0; have HC0_0 := zA.mk hc0_0; clear hr0_0 hc0_0; have HR0_1 := zA.mk hr0_1; have HC0_1 := zA.mk hc0_1; clear hr0_1 hc0_1; have HB := zA.mk (Below.refl w.heap.size w); have H : (r3_Columns.l0 k a2 a3 0 (([0] : List Int)) a1 l0_0 l0_1) = some r := h
 clear h; obtain ⟨y329, hy329⟩ : ∃ y_ : List Int, y_ = (([0] : List Int)) := ⟨_, rfl⟩; replace H : (r3_Columns.l0 k a2 a3 0 y329 a1 l0_0 l0_1) = some r := by first | (rw [hy329]; with_reducible exact H) | (have H2_ := (Option.bind_some _ _).symm.trans H; rw [hy329]; with_reducible exact H2_) | (have H2_ := (Option.bind_some _ _).symm.trans H; with_reducible exact H2_) | with_reducible exact H | (rw [hy329]; exact H) | exact H
 have Ny329 := zA.mk hy329; clear hy329; have H' := zA.mk H
 clear H; go_enter Try.func44, Try.ntmps44
 go_wp2_with (first | ((with_reducible refine gate_dst (N := 4) rfl ?_); refine box_event ?hg (N := 4) ?hd (cs := #[.slice A0_0 l0_0.length c0_0, .slice A0_1 l0_1.length c0_1]) (t := 31) ?hr ?_; (case hd => rfl); (case hg => rfl); (case hr => first | (go_simp; done) | (go_simp; rfl)); intro gb328 hg w5 hbox hb; have BK328 := zA.mk (hbox); have GW328 := zA.mk ((by rw [hg]; exact (zH (aL HB)) : w.heap.size ≤ gb328)); replace HB := zA.mk (zD (aL HB) hb); have GE328 := GW328; clear hb hbox hg) | ((with_reducible refine gate_dst (N := 12) rfl ?_); refine Kd.R_lit (Kd.int .i64) _ 3 ?hg (N := 12) ?hd (xs := ([0] : List Int)) (inner := [.int .i64 0]) (ok := fun _ => True) (okp := fun _ => True) ?hr ?hp (fun _ hk => hk) trivial (Below.refl _ _) (Nat.le_refl _) (by simp) ?_; (case hd => rfl); (case hg => rfl); (case hr => first | (go_simp; done) | (go_simp; rfl)); (case hp => exact (Reps.one (show Kd.M (Kd.int .i64) _ _ _ 0 [.int .i64 0] from rfl) (Reps.none _ _))); intro v330 w6 ho7 hb hg_ hnew_; clear hg_ hnew_; (first | rw [← Ny329.out] at ho7 | (simp only [Int.reduceToNat] at ho7; rw [← Ny329.out] at ho7)); have HO331 := zA.mk (Kd.zU ho7 (zH (aL HB))); replace BK328 := zA.mk (zC (aB BK328) hb); replace HB := zA.mk (zD (aL HB) hb); clear hb ho7))
 go_loopg [9, 10, 11] k (fun kq v9 v10 v11 w' => ∃ (x9_1 : Int) (x10_1 : List Int) (x11_1 : Int), v9 = .int .i64 x9_1 ∧ v11 = .int .i64 x11_1 ∧ zA (r3_Columns.l0 kq a2 a3 x9_1 x10_1 x11_1 l0_0 l0_1 = some r) ∧ zA (kq ≤ k) ∧ zA (Kd.R (Kd.int .i64) 3 w' w.heap.size (fun _ => True) v10 x10_1) ∧ zA (w'.heap[gb328]? = some (.cells #[(.slice A0_0 l0_0.length c0_0), (.slice A0_1 l0_1.length c0_1)] 31 (0, 0))) ∧ zA (Below w.heap.size w w'))
 case atStart => exact ⟨(0), (y329), (a1), aZ, aZ, H', ⟨Nat.le_refl _⟩, ⟨aR HO331⟩, ⟨aB BK328⟩, ⟨aL HB⟩⟩
 clear H'; obtain ⟨x9_1, x10_1, x11_1, rfl, rfl, HA, HK1, HO_10, BK328, HB⟩ := hrel; cases gk with
 | zero => exact absurd HA.out (by simp [r3_Columns.l0])
 | succ k1 =>
  have H := HA.out; clear HA; simp only [r3_Columns.l0] at H; by_cases c8 : x11_1 < a2
  rotate_left
  ·rw [if_neg c8] at H
   have c8b0 : decide (x11_1 < a2) = false := decide_eq_false c8
   clear c8; obtain rfl := Option.some.inj H
   go_wp2
   go_ret
   exact ⟨_, aX, aR HO_10, aL HB⟩
  rw [if_pos c8] at H; have c8b0 : decide (x11_1 < a2) = true := decide_eq_true c8
  clear c8; by_cases c9 : 0 ≤ x11_1
  rotate_left
  ·rw [if_neg c9] at H
   exact absurd H (by simp)
  rw [if_pos c9] at H; have c9b0 : decide (0 ≤ x11_1) = true := decide_eq_true c9
  clear c9; by_cases c10 : x11_1 < (l0_0.length : Int)
  rotate_left
  ·rw [if_neg c10] at H
   exact absurd H (by simp)
  rw [if_pos c10] at H; have c10b0 : decide (x11_1 < (l0_0.length : Int)) = true := decide_eq_true c10
  clear c10; replace H := Option.bind_eq_some_iff.mp H; obtain ⟨t333, A110, H⟩ := H; replace H : (if x10_1.length < 17592186044416 then (r3_Columns.l0 k1 a2 a3 t333 (x10_1 ++ [t333]) (wrap64 (x11_1 + 1)) l0_0 l0_1) else (none)) = some r := H; have A11 := zA.mk A110; clear A110; by_cases c12 : x10_1.length < 17592186044416
  rotate_left
  ·rw [if_neg c12] at H
   exact absurd H (by simp)
  rw [if_pos c12] at H; have LMc12 := zA.mk c12; clear c12; obtain ⟨y334, hy334⟩ : ∃ y_ : List Int, y_ = (x10_1 ++ [t333]) := ⟨_, rfl⟩; replace H : (r3_Columns.l0 k1 a2 a3 t333 y334 (wrap64 (x11_1 + 1)) l0_0 l0_1) = some r := by first | (rw [hy334]; with_reducible exact H) | (have H2_ := (Option.bind_some _ _).symm.trans H; rw [hy334]; with_reducible exact H2_) | (have H2_ := (Option.bind_some _ _).symm.trans H; with_reducible exact H2_) | with_reducible exact H | (rw [hy334]; exact H) | exact H
  have Ny334 := zA.mk hy334; clear hy334; have H' := zA.mk H
  clear H; obtain ⟨hcz13_0, hcz13_1, hfz13_0, hfz13_1⟩ := aC2 BK328; have p332 : 0 ≤ (x11_1 : Int) := aD
  have q332 : x11_1 < (l0_0.length : Int) := aD
  obtain ⟨ad332, e332, hx332_0, hx332_1, hx332_2, hx332_3⟩ := at_T66 HR0_0.out x11_1 p332 q332; cases e332
  replace hx332_0 := (HB.out.cell (World.block_lt_of_cell? w _ hx332_0)).trans hx332_0; replace hx332_1 := (HB.out.cell (World.block_lt_of_cell? w _ hx332_1)).trans hx332_1; replace hx332_2 := (HB.out.cell (World.block_lt_of_cell? w _ hx332_2)).trans hx332_2; replace hx332_3 := (HB.out.cell (World.block_lt_of_cell? w _ hx332_3)).trans hx332_3; replace p332 := eq_true p332; replace q332 := eq_true q332; go_wp2_with (first | ((with_reducible refine gate_callee (f := 54) rfl ?_); refine goesL_ (some 26) rfl rfl Try.func54 (by kernel_rfl) rfl #[.agg #[.int .i64 ((rd_T66 l0_0 x11_1).f0), .int .i64 ((rd_T66 l0_0 x11_1).f1), .int .i64 ((rd_T66 l0_0 x11_1).f2), .int .u8 ((rd_T66 l0_0 x11_1).f3)], .int .i64 x9_1, .int .i64 a3] rfl aT ?_; (with_reducible refine (r3_Next.calls k1 ((rd_T66 l0_0 x11_1).f0) ((rd_T66 l0_0 x11_1).f1) ((rd_T66 l0_0 x11_1).f2) ((rd_T66 l0_0 x11_1).f3) x9_1 a3 t333 _ A11.out).mono ?_); rintro e w14 ⟨rfl, hb⟩; refine ⟨_, rfl, ?_⟩; replace HO_10 := zA.mk (Kd.zR (aR HO_10) hb); replace BK328 := zA.mk (zC (aB BK328) hb); replace HB := zA.mk (zD (aL HB) hb); (try clear hb); (try clear hb2); (try clear hk); (try clear hi)) | ((with_reducible refine gate_builtin (b := .append) (xs := #[.tmp 27, .tmp 29]) rfl ?_); at_builtin; refine Kd.R_append (Kd.int .i64) (w0 := w) w.heap.size rfl (.tmp 27) (.tmp 29) 47 3 (.int .i64 0) 8 rfl Try.underlying47 info3 rfl (by decide) (by omega) u10 x10_1 t333 [.int .i64 t333] (fun _ => True) (fun _ => False) rfl rfl ?aP (fun _ hk => hk.elim) ?aF ?aO ?aB ?aS ?aL ?_; (case aP => exact rfl); (case aB => exact (aL HB)); (case aF => exact (fun _ _ => trivial)); (case aO => exact (aR HO_10)); (case aS => exact (zH (aL HB))); (case aL => have := LMc12.out; omega); intro v335 w15 ho hb hg hat; rw [← Ny334.out] at ho; replace BK328 := zA.mk (blk_grown (g := gb328) (o := .cells #[.slice (some ad332) l0_0.length c0_0, .slice A0_1 l0_1.length c0_1] 31 (0, 0)) (aB BK328) hg (Kd.R_ne HO_10.out BK328.out (by decide))); replace HB := zA.mk (hb); have HO336 := zA.mk (ho); clear HO_10; clear ho hb hg hat))
  go_roundg k1
  case measure => have := HK1.out; omega
  case rel => exact ⟨(t333), (y334), (wrap64 (x11_1 + 1)), aZ, aZ, H', ⟨by have := HK1.out; omega⟩, ⟨aR HO336⟩, ⟨aB BK328⟩, ⟨aL HB⟩⟩
def r3_Empty.f (a0_0 : Int) (a0_1 : Int) (a0_2 : Int) (a0_3 : Int) : Option (Bool) := if a0_3 = 1 then (some true) else (if a0_3 = 0 then (some (a0_2 == 0)) else (some false))
set_option maxHeartbeats 8000000 in
set_option maxRecDepth 100000 in
theorem r3_Empty.calls (a0_0 : Int) (a0_1 : Int) (a0_2 : Int) (a0_3 : Int) (r : Bool) (w : World) (h : r3_Empty.f a0_0 a0_1 a0_2 a0_3 = some r) :
  Calls Try.prog 55 #[.agg #[.int .i64 a0_0, .int .i64 a0_1, .int .i64 a0_2, .int .u8 a0_3]] w fun e w' => e = .returned (.bool r) ∧ Below w.heap.size w w' := by
 have hu66 := Try.underlying66; have HB := zA.mk (Below.refl w.heap.size w); have H : (if a0_3 = 1 then (some true) else (if a0_3 = 0 then (some (a0_2 == 0)) else (some false))) = some r := h
 clear h; by_cases c2 : a0_3 = 1
 ·rw [if_pos c2] at H
  have c2b0 : (a0_3 == 1) = true := beq_iff_eq.mpr c2
  have c2b1 : (a0_3 != 1) = false := bne_eq_false_iff_eq.mpr c2
  clear c2; obtain rfl := Option.some.inj H
  go_enter Try.func55, Try.ntmps55
  go_wp2_with (first | ((with_reducible refine gate_dst (N := 1) rfl ?_); refine box_event ?hg (N := 1) ?hd (cs := #[.int .i64 a0_0, .int .i64 a0_1, .int .i64 a0_2, .int .u8 a0_3]) (t := 66) ?hr ?_; (case hd => rfl); (case hg => rfl); (case hr => first | (go_simp; done) | (go_simp; rfl)); intro gb337 hg w3 hbox hb; have BK337 := zA.mk (hbox); have GW337 := zA.mk ((by rw [hg]; exact (zH (aL HB)) : w.heap.size ≤ gb337)); replace HB := zA.mk (zD (aL HB) hb); have GE337 := GW337; clear hb hbox hg; obtain ⟨hcz4_0, hcz4_1, hcz4_2, hcz4_3, hfz4_0, hfz4_1, hfz4_2, hfz4_3⟩ := aC4 BK337))
  go_ret
  exact ⟨aX, aL HB⟩
 rw [if_neg c2] at H; have c2b0 : (a0_3 == 1) = false := beq_eq_false_iff_ne.mpr c2
 have c2b1 : (a0_3 != 1) = true := bne_iff_ne.mpr c2
 by_cases c5 : a0_3 = 0
 ·rw [if_pos c5] at H
  have c5b0 : (a0_3 == 0) = true := beq_iff_eq.mpr c5
  have c5b1 : (a0_3 != 0) = false := bne_eq_false_iff_eq.mpr c5
  clear c5; obtain rfl := Option.some.inj H
  go_enter Try.func55, Try.ntmps55
  go_wp2_with (first | ((with_reducible refine gate_dst (N := 1) rfl ?_); refine box_event ?hg (N := 1) ?hd (cs := #[.int .i64 a0_0, .int .i64 a0_1, .int .i64 a0_2, .int .u8 a0_3]) (t := 66) ?hr ?_; (case hd => rfl); (case hg => rfl); (case hr => first | (go_simp; done) | (go_simp; rfl)); intro gb337 hg w6 hbox hb; have BK337 := zA.mk (hbox); have GW337 := zA.mk ((by rw [hg]; exact (zH (aL HB)) : w.heap.size ≤ gb337)); replace HB := zA.mk (zD (aL HB) hb); have GE337 := GW337; clear hb hbox hg; obtain ⟨hcz7_0, hcz7_1, hcz7_2, hcz7_3, hfz7_0, hfz7_1, hfz7_2, hfz7_3⟩ := aC4 BK337))
  go_ret
  exact ⟨aX, aL HB⟩
 rw [if_neg c5] at H; have c5b0 : (a0_3 == 0) = false := beq_eq_false_iff_ne.mpr c5
 have c5b1 : (a0_3 != 0) = true := bne_iff_ne.mpr c5
 obtain rfl := Option.some.inj H
 go_enter Try.func55, Try.ntmps55
 go_wp2_with (first | ((with_reducible refine gate_dst (N := 1) rfl ?_); refine box_event ?hg (N := 1) ?hd (cs := #[.int .i64 a0_0, .int .i64 a0_1, .int .i64 a0_2, .int .u8 a0_3]) (t := 66) ?hr ?_; (case hd => rfl); (case hg => rfl); (case hr => first | (go_simp; done) | (go_simp; rfl)); intro gb337 hg w8 hbox hb; have BK337 := zA.mk (hbox); have GW337 := zA.mk ((by rw [hg]; exact (zH (aL HB)) : w.heap.size ≤ gb337)); replace HB := zA.mk (zD (aL HB) hb); have GE337 := GW337; clear hb hbox hg; obtain ⟨hcz9_0, hcz9_1, hcz9_2, hcz9_3, hfz9_0, hfz9_1, hfz9_2, hfz9_3⟩ := aC4 BK337))
 go_ret
 exact ⟨aX, aL HB⟩
def r3_Trim.l0 : Nat → Int → Int → Int → List (S66) → List Int → Option (Int)
 | 0, _, _, _, _, _ => none
 | k + 1, x2, x7, x8, x339000, x339001 => if x8 < x2 then (if 0 ≤ x8 then (if x8 < (x339000.length : Int) then ((r3_Empty.f ((rd_T66 x339000 x8).f0) ((rd_T66 x339000 x8).f1) ((rd_T66 x339000 x8).f2) ((rd_T66 x339000 x8).f3)).bind fun t340 => (if t340 = true then (r3_Trim.l0 k x2 x7 (wrap64 (x8 + 1)) x339000 x339001) else (r3_Trim.l0 k x2 (wrap64 (x8 + 1)) (wrap64 (x8 + 1)) x339000 x339001))) else (none)) else (none)) else (some x7)
def r3_Trim.f (k : Nat) (l0_0 : List (S66)) (l0_1 : List Int) (a1 : Int) (a2 : Int) : Option (Int) := r3_Trim.l0 k a2 a1 a1 l0_0 l0_1
theorem r3_Trim.mono_l : ∀ k, (∀ y0 y1 y2 y3 y4, LeO (r3_Trim.l0 k y0 y1 y2 y3 y4) (r3_Trim.l0 (k + 1) y0 y1 y2 y3 y4))
 | 0 => fun _ _ _ _ _ r h => by simp [r3_Trim.l0] at h
 | k + 1 => by
  have ih0 := r3_Trim.mono_l k
  ·intro y0 y1 y2 y3 y4
   unfold r3_Trim.l0
   repeat' (with_reducible first | exact ih0 _ _ _ _ _ | exact LeO.refl _ | exact LeO.none _ | refine LeO.ite ?_ ?_ | refine LeO.bind ?_ (fun _ => ?_))
theorem r3_Trim.mono : ∀ a0 a1 a2 a3 k, LeO (r3_Trim.f k a0 a1 a2 a3) (r3_Trim.f (k + 1) a0 a1 a2 a3) := by
 intro a0 a1 a2 a3 k
 have ih0 := r3_Trim.mono_l k; unfold r3_Trim.f
 repeat' (with_reducible first | exact ih0 _ _ _ _ _ | exact LeO.refl _ | exact LeO.none _ | refine LeO.ite ?_ ?_ | refine LeO.bind ?_ (fun _ => ?_))
set_option maxHeartbeats 8000000 in
set_option maxRecDepth 100000 in
theorem r3_Trim.calls (k : Nat) (A0_0 : Option Addr) (c0_0 : Nat) (l0_0 : List (S66)) (A0_1 : Option Addr) (c0_1 : Nat) (l0_1 : List Int) (a1 : Int) (a2 : Int) (r : Int) (w : World) (hr0_0 : Kd.C k66 w A0_0 l0_0.length l0_0) (hc0_0 : l0_0.length ≤ c0_0) (hr0_1 : Kd.C (Kd.int .u8) w A0_1 l0_1.length l0_1) (hc0_1 : l0_1.length ≤ c0_1) (h : r3_Trim.f k l0_0 l0_1 a1 a2 = some r) :
  Calls Try.prog 45 #[.agg #[.slice A0_0 l0_0.length c0_0, .slice A0_1 l0_1.length c0_1], .int .i64 a1, .int .i64 a2] w fun e w' => e = .returned (.int .i64 r) ∧ Below w.heap.size w w' := by
 have hu31 := Try.underlying31; have hu66 := Try.underlying66; have HR0_0 := zA.mk hr0_0; have HC0_0 := zA.mk hc0_0; clear hr0_0 hc0_0; have HR0_1 := zA.mk hr0_1; have HC0_1 := zA.mk hc0_1; clear hr0_1 hc0_1; have HB := zA.mk (Below.refl w.heap.size w); have H : (r3_Trim.l0 k a2 a1 a1 l0_0 l0_1) = some r := h
 clear h; have H' := zA.mk H
 clear H; go_enter Try.func45, Try.ntmps45
 go_wp2_with (first | ((with_reducible refine gate_dst (N := 3) rfl ?_); refine box_event ?hg (N := 3) ?hd (cs := #[.slice A0_0 l0_0.length c0_0, .slice A0_1 l0_1.length c0_1]) (t := 31) ?hr ?_; (case hd => rfl); (case hg => rfl); (case hr => first | (go_simp; done) | (go_simp; rfl)); intro gb338 hg w4 hbox hb; have BK338 := zA.mk (hbox); have GW338 := zA.mk ((by rw [hg]; exact (zH (aL HB)) : w.heap.size ≤ gb338)); replace HB := zA.mk (zD (aL HB) hb); have GE338 := GW338; clear hb hbox hg))
 go_loopg [7, 8] k (fun kq v7 v8 w' => ∃ (x7_1 : Int) (x8_1 : Int), v7 = .int .i64 x7_1 ∧ v8 = .int .i64 x8_1 ∧ zA (r3_Trim.l0 kq a2 x7_1 x8_1 l0_0 l0_1 = some r) ∧ zA (kq ≤ k) ∧ zA (w'.heap[gb338]? = some (.cells #[(.slice A0_0 l0_0.length c0_0), (.slice A0_1 l0_1.length c0_1)] 31 (0, 0))) ∧ zA (Below w.heap.size w w'))
 case atStart => exact ⟨(a1), (a1), aZ, aZ, H', ⟨Nat.le_refl _⟩, ⟨aB BK338⟩, ⟨aL HB⟩⟩
 clear H'; obtain ⟨x7_1, x8_1, rfl, rfl, HA, HK1, BK338, HB⟩ := hrel; cases gk with
 | zero => exact absurd HA.out (by simp [r3_Trim.l0])
 | succ k1 =>
  have H := HA.out; clear HA; simp only [r3_Trim.l0] at H; by_cases c5 : x8_1 < a2
  rotate_left
  ·rw [if_neg c5] at H
   have c5b0 : decide (x8_1 < a2) = false := decide_eq_false c5
   clear c5; obtain rfl := Option.some.inj H
   go_wp2
   go_ret
   exact ⟨aX, aL HB⟩
  rw [if_pos c5] at H; have c5b0 : decide (x8_1 < a2) = true := decide_eq_true c5
  clear c5; by_cases c6 : 0 ≤ x8_1
  rotate_left
  ·rw [if_neg c6] at H
   exact absurd H (by simp)
  rw [if_pos c6] at H; have c6b0 : decide (0 ≤ x8_1) = true := decide_eq_true c6
  clear c6; by_cases c7 : x8_1 < (l0_0.length : Int)
  rotate_left
  ·rw [if_neg c7] at H
   exact absurd H (by simp)
  rw [if_pos c7] at H; have c7b0 : decide (x8_1 < (l0_0.length : Int)) = true := decide_eq_true c7
  clear c7; replace H := Option.bind_eq_some_iff.mp H; obtain ⟨t340, A80, H⟩ := H; replace H : (if t340 = true then (r3_Trim.l0 k1 a2 x7_1 (wrap64 (x8_1 + 1)) l0_0 l0_1) else (r3_Trim.l0 k1 a2 (wrap64 (x8_1 + 1)) (wrap64 (x8_1 + 1)) l0_0 l0_1)) = some r := H; have A8 := zA.mk A80; clear A80; by_cases c9 : t340 = true
  ·subst c9
   have H1 : (r3_Trim.l0 k1 a2 x7_1 (wrap64 (x8_1 + 1)) l0_0 l0_1) = some r := by rw [if_pos rfl] at H; exact H
   clear H; have H := H1; clear H1; have H' := zA.mk H
   clear H; obtain ⟨hcz10_0, hcz10_1, hfz10_0, hfz10_1⟩ := aC2 BK338; have p339 : 0 ≤ (x8_1 : Int) := aD
   have q339 : x8_1 < (l0_0.length : Int) := aD
   obtain ⟨ad339, e339, hx339_0, hx339_1, hx339_2, hx339_3⟩ := at_T66 HR0_0.out x8_1 p339 q339; cases e339
   replace hx339_0 := (HB.out.cell (World.block_lt_of_cell? w _ hx339_0)).trans hx339_0; replace hx339_1 := (HB.out.cell (World.block_lt_of_cell? w _ hx339_1)).trans hx339_1; replace hx339_2 := (HB.out.cell (World.block_lt_of_cell? w _ hx339_2)).trans hx339_2; replace hx339_3 := (HB.out.cell (World.block_lt_of_cell? w _ hx339_3)).trans hx339_3; replace p339 := eq_true p339; replace q339 := eq_true q339; go_wp2_with (first | ((with_reducible refine gate_callee (f := 55) rfl ?_); refine goesL_ (some 21) rfl rfl Try.func55 (by kernel_rfl) rfl #[.agg #[.int .i64 ((rd_T66 l0_0 x8_1).f0), .int .i64 ((rd_T66 l0_0 x8_1).f1), .int .i64 ((rd_T66 l0_0 x8_1).f2), .int .u8 ((rd_T66 l0_0 x8_1).f3)]] rfl aT ?_; (with_reducible refine (r3_Empty.calls ((rd_T66 l0_0 x8_1).f0) ((rd_T66 l0_0 x8_1).f1) ((rd_T66 l0_0 x8_1).f2) ((rd_T66 l0_0 x8_1).f3) true _ A8.out).mono ?_); rintro e w11 ⟨rfl, hb⟩; refine ⟨_, rfl, ?_⟩; replace BK338 := zA.mk (zC (aB BK338) hb); replace HB := zA.mk (zD (aL HB) hb); (try clear hb); (try clear hb2); (try clear hk); (try clear hi)))
   go_roundg k1
   case measure => have := HK1.out; omega
   case rel => exact ⟨(x7_1), (wrap64 (x8_1 + 1)), aZ, aZ, H', ⟨by have := HK1.out; omega⟩, ⟨aB BK338⟩, ⟨aL HB⟩⟩
  replace c9 := Bool.eq_false_iff.mpr c9; subst c9; have H1 : (r3_Trim.l0 k1 a2 (wrap64 (x8_1 + 1)) (wrap64 (x8_1 + 1)) l0_0 l0_1) = some r := by rw [if_neg (show ¬ (false = true) by decide)] at H; exact H
  clear H; have H := H1; clear H1; have H' := zA.mk H
  clear H; obtain ⟨hcz12_0, hcz12_1, hfz12_0, hfz12_1⟩ := aC2 BK338; have p339 : 0 ≤ (x8_1 : Int) := aD
  have q339 : x8_1 < (l0_0.length : Int) := aD
  obtain ⟨ad339, e339, hx339_0, hx339_1, hx339_2, hx339_3⟩ := at_T66 HR0_0.out x8_1 p339 q339; cases e339
  replace hx339_0 := (HB.out.cell (World.block_lt_of_cell? w _ hx339_0)).trans hx339_0; replace hx339_1 := (HB.out.cell (World.block_lt_of_cell? w _ hx339_1)).trans hx339_1; replace hx339_2 := (HB.out.cell (World.block_lt_of_cell? w _ hx339_2)).trans hx339_2; replace hx339_3 := (HB.out.cell (World.block_lt_of_cell? w _ hx339_3)).trans hx339_3; replace p339 := eq_true p339; replace q339 := eq_true q339; go_wp2_with (first | ((with_reducible refine gate_callee (f := 55) rfl ?_); refine goesL_ (some 21) rfl rfl Try.func55 (by kernel_rfl) rfl #[.agg #[.int .i64 ((rd_T66 l0_0 x8_1).f0), .int .i64 ((rd_T66 l0_0 x8_1).f1), .int .i64 ((rd_T66 l0_0 x8_1).f2), .int .u8 ((rd_T66 l0_0 x8_1).f3)]] rfl aT ?_; (with_reducible refine (r3_Empty.calls ((rd_T66 l0_0 x8_1).f0) ((rd_T66 l0_0 x8_1).f1) ((rd_T66 l0_0 x8_1).f2) ((rd_T66 l0_0 x8_1).f3) false _ A8.out).mono ?_); rintro e w13 ⟨rfl, hb⟩; refine ⟨_, rfl, ?_⟩; replace BK338 := zA.mk (zC (aB BK338) hb); replace HB := zA.mk (zD (aL HB) hb); (try clear hb); (try clear hb2); (try clear hk); (try clear hi)))
  go_roundg k1
  case measure => have := HK1.out; omega
  case rel => exact ⟨(wrap64 (x8_1 + 1)), (wrap64 (x8_1 + 1)), aZ, aZ, H', ⟨by have := HK1.out; omega⟩, ⟨aB BK338⟩, ⟨aL HB⟩⟩
def r3_Cells.f (k : Nat) (l0_0 : List (S66)) (l0_1 : List Int) (a1 : Int) (a2 : Int) (a3 : Int) (a4 : Int) : Option (Int) := (r3_Trim.f k l0_0 l0_1 a1 a2).bind fun t342 => ((r3_Columns.f k l0_0 l0_1 a1 t342 a4).bind fun t343 => (if 0 ≤ (wrap64 ((t343.length : Int) - 1)) then (if (wrap64 ((t343.length : Int) - 1)) < (t343.length : Int) then (if a3 = 3 then (some (wrap64 ((rd t343 (wrap64 ((t343.length : Int) - 1))) + 1))) else (some (rd t343 (wrap64 ((t343.length : Int) - 1))))) else (none)) else (none)))
theorem r3_Cells.mono : ∀ a0 a1 a2 a3 a4 a5 k, LeO (r3_Cells.f k a0 a1 a2 a3 a4 a5) (r3_Cells.f (k + 1) a0 a1 a2 a3 a4 a5) := by
 intro a0 a1 a2 a3 a4 a5 k
 unfold r3_Cells.f
 repeat' (with_reducible first | exact r3_Columns.mono _ _ _ _ _ _ | exact r3_Trim.mono _ _ _ _ _ | exact LeO.refl _ | exact LeO.none _ | refine LeO.ite ?_ ?_ | refine LeO.bind ?_ (fun _ => ?_))
def r3_Cells.T1 : Bool × List (List Nat × List Nat) := (true, [([], []), ([], []), ([], []), ([], []), ([], []), ([2, 3, 4], [2, 3, 4]), ([], []), ([0, 1, 5, 6, 5], [0, 1, 5, 6]), ([7, 7, 0, 1, 2, 3, 4, 5, 6, 7], [7])])
def r3_Cells.B1 : List Nat := [0, 0, 0, 0, 0, 28, 0, 127, 255]
theorem r3_Cells.tab1 : rtab .any (opsOf Try.f32 1) = r3_Cells.T1 := by kernel_rfl
theorem r3_Cells.bits1 : waitsOk r3_Cells.T1.2 r3_Cells.B1 = true := by kernel_rfl
set_option maxHeartbeats 8000000 in
set_option maxRecDepth 100000 in
theorem r3_Cells.calls (k : Nat) (A0_0 : Option Addr) (c0_0 : Nat) (l0_0 : List (S66)) (A0_1 : Option Addr) (c0_1 : Nat) (l0_1 : List Int) (a1 : Int) (a2 : Int) (a3 : Int) (a4 : Int) (r : Int) (w : World) (hr0_0 : Kd.C k66 w A0_0 l0_0.length l0_0) (hc0_0 : l0_0.length ≤ c0_0) (hr0_1 : Kd.C (Kd.int .u8) w A0_1 l0_1.length l0_1) (hc0_1 : l0_1.length ≤ c0_1) (h : r3_Cells.f k l0_0 l0_1 a1 a2 a3 a4 = some r) :
  Calls Try.prog 32 #[.agg #[.slice A0_0 l0_0.length c0_0, .slice A0_1 l0_1.length c0_1], .int .i64 a1, .int .i64 a2, .int .u8 a3, .int .i64 a4] w fun e w' => e = .returned (.int .i64 r) ∧ Below w.heap.size w w' := by
 have hu31 := Try.underlying31; have HR0_0 := zA.mk hr0_0; have HC0_0 := zA.mk hc0_0; clear hr0_0 hc0_0; have HR0_1 := zA.mk hr0_1; have HC0_1 := zA.mk hc0_1; clear hr0_1 hc0_1; have HB := zA.mk (Below.refl w.heap.size w); have H : ((r3_Trim.f k l0_0 l0_1 a1 a2).bind fun t342 => ((r3_Columns.f k l0_0 l0_1 a1 t342 a4).bind fun t343 => (if 0 ≤ (wrap64 ((t343.length : Int) - 1)) then (if (wrap64 ((t343.length : Int) - 1)) < (t343.length : Int) then (if a3 = 3 then (some (wrap64 ((rd t343 (wrap64 ((t343.length : Int) - 1))) + 1))) else (some (rd t343 (wrap64 ((t343.length : Int) - 1))))) else (none)) else (none)))) = some r := h
 clear h; replace H := Option.bind_eq_some_iff.mp H; obtain ⟨t342, A60, H⟩ := H; replace H : ((r3_Columns.f k l0_0 l0_1 a1 t342 a4).bind fun t343 => (if 0 ≤ (wrap64 ((t343.length : Int) - 1)) then (if (wrap64 ((t343.length : Int) - 1)) < (t343.length : Int) then (if a3 = 3 then (some (wrap64 ((rd t343 (wrap64 ((t343.length : Int) - 1))) + 1))) else (some (rd t343 (wrap64 ((t343.length : Int) - 1))))) else (none)) else (none))) = some r := H
 have A6 := zA.mk A60; clear A60; replace H := Option.bind_eq_some_iff.mp H; obtain ⟨t343, A70, H⟩ := H; replace H : (if 0 ≤ (wrap64 ((t343.length : Int) - 1)) then (if (wrap64 ((t343.length : Int) - 1)) < (t343.length : Int) then (if a3 = 3 then (some (wrap64 ((rd t343 (wrap64 ((t343.length : Int) - 1))) + 1))) else (some (rd t343 (wrap64 ((t343.length : Int) - 1))))) else (none)) else (none)) = some r := H; have A7 := zA.mk A70; clear A70; obtain ⟨ji8, hji8⟩ : ∃ j_ : Int, (wrap64 ((t343.length : Int) - 1)) = j_ := ⟨_, rfl⟩; replace H : (if 0 ≤ (ji8) then (if (ji8) < (t343.length : Int) then (if a3 = 3 then (some (wrap64 ((rd t343 (ji8)) + 1))) else (some (rd t343 (ji8)))) else (none)) else (none)) = some r := by first | (rw [hji8] at H; exact H) | (simp only [hji8] at H ⊢; exact H)
 (try rw [hji8] at A6)
 (try rw [hji8] at A7)
 have hji8w : (IntKind.i64.wrap ((t343.length : Int) - 1)) = ji8 := (i64_w _).trans hji8
 by_cases c9 : 0 ≤ (ji8)
 rotate_left
 ·rw [if_neg c9] at H
  exact absurd H (by simp)
 rw [if_pos c9] at H; have c9b0 : decide (0 ≤ (ji8)) = true := decide_eq_true c9
 clear c9; by_cases c10 : (ji8) < (t343.length : Int)
 rotate_left
 ·rw [if_neg c10] at H
  exact absurd H (by simp)
 rw [if_pos c10] at H; have c10b0 : decide ((ji8) < (t343.length : Int)) = true := decide_eq_true c10
 clear c10; by_cases c11 : a3 = 3
 ·rw [if_pos c11] at H
  have c11b0 : (a3 == 3) = true := beq_iff_eq.mpr c11
  have c11b1 : (a3 != 3) = false := bne_eq_false_iff_eq.mpr c11
  clear c11; obtain rfl := Option.some.inj H
  go_enter Try.func32, Try.ntmps32
  try go_wp2_with (first | ((with_reducible refine gate_dst (N := 5) rfl ?_); refine box_event ?hg (N := 5) ?hd (cs := #[.slice A0_0 l0_0.length c0_0, .slice A0_1 l0_1.length c0_1]) (t := 31) ?hr ?_; (case hd => rfl); (case hg => rfl); (case hr => first | (go_simp; done) | (go_simp; rfl)); intro gb341 hg w12 hbox hb; have BK341 := zA.mk (hbox); have GW341 := zA.mk ((by rw [hg]; exact (zH (aL HB)) : w.heap.size ≤ gb341)); replace HB := zA.mk (zD (aL HB) hb); have GE341 := GW341; clear hb hbox hg))
  replace BK341 := zA.mk (zF BK341.out); replace HB := zA.mk (below_drew1 HB.out); refine start_ (n := 9) (S := fun w' => w'.cell? ⟨gb341, 0, none⟩ = some (.slice A0_0 l0_0.length c0_0) ∧ w'.cell? ⟨gb341, 1, none⟩ = some (.slice A0_1 l0_1.length c0_1)) (ds := []) #[false, false, false, false, false, false, false, false, false] (by kernel_rfl) rfl rfl ⟨(zB BK341.out 0).trans rfl, (zB BK341.out 1).trans rfl⟩ (fun hHeld => ?_); refine with_tabW r3_Cells.tab1 r3_Cells.bits1 (fun HT_ HW_ => ?_)
  generalize w12.drew = w13 at BK341 HB hHeld ⊢
  refine aP 1 (some 14) (tb_ 2 9) HT_ ?_
  refine aP 3 (some 16) (tb_ 10 9) HT_ ?_
  refine aP 4 (some 17) (tb_ 26 9) HT_ ?_
  refine aP 6 (some 19) (tb_ 90 9) HT_ ?_
  refine take_ (i := 0) (N := some 13) (v := ?_) (a' := ?_) (tb_ 91 9) rfl rfl (take_ofW HT_.out HW_.out (by kernel_rfl)) (fun _ _ _ h => h) (Or.inl ⟨by rfl, ?_⟩) hHeld ?_ ?_
  rotate_left
  ·rintro w' ⟨s0, s1⟩
   go_simp
   with_reducible rfl
  rotate_left
  ·simp only [Act.put, sA_, sB_, sC_, i64_w, i32_w]
   rfl
  refine take_ (i := 2) (N := some 15) (v := ?_) (a' := ?_) (tb_ 95 9) rfl rfl (take_ofW HT_.out HW_.out (by kernel_rfl)) (fun _ _ _ h => h) (Or.inl ⟨by rfl, ?_⟩) hHeld ?_ ?_
  rotate_left
  ·rintro w' ⟨s0, s1⟩
   go_simp
   with_reducible rfl
  rotate_left
  ·simp only [Act.put, sA_, sB_, sC_, i64_w, i32_w]
   rfl
  refine one_ (i := 5) (N := some 18) (tb_ 127 9) rfl rfl (one_of HT_.out (by kernel_rfl)) (by decide) (fun K hK => ?_)
  refine goes_ Try.func45 (by kernel_rfl) rfl #[.agg #[.slice A0_0 l0_0.length c0_0, .slice A0_1 l0_1.length c0_1], .int .i64 a1, .int .i64 a2] (by rfl) rfl rfl aT ?_
  with_reducible refine (r3_Trim.calls k _ _ l0_0 _ _ l0_1 a1 a2 t342 _ ?side1 ?side2 ?side3 ?side4 A6.out).mono ?_
  (case side1 => exact aA HR0_0 HB)
  (case side2 => exact HC0_0.out)
  (case side3 => exact aA HR0_1 HB)
  (case side4 => exact HC0_1.out)
  rintro e w14 ⟨rfl, hb⟩
  refine ⟨_, rfl, ?_⟩
  replace BK341 := zA.mk (zC (aB BK341) hb); replace HB := zA.mk (zD (aL HB) hb); (try clear hb)
  (try clear hb2)
  (try clear hk)
  (try clear hi)
  refine hK.out _ _ ⟨(zB BK341.out 0).trans rfl, (zB BK341.out 1).trans rfl⟩ (fun hHeld => ?_)
  clear hK K; refine norm_ (a' := ?_) ?_ ?_
  rotate_left
  ·show Act.put _ (some 18) _ = _
   simp only [Act.put, sA_, sB_, sC_, i64_w, i32_w]; rfl
  refine one_ (i := 7) (N := some 20) (tb_ 255 9) rfl rfl (one_of HT_.out (by kernel_rfl)) (by decide) (fun K hK => ?_)
  refine goes_ Try.func44 (by kernel_rfl) rfl #[.agg #[.slice A0_0 l0_0.length c0_0, .slice A0_1 l0_1.length c0_1], .int .i64 a1, .int .i64 t342, .int .i64 a4] (by rfl) rfl rfl aT ?_
  with_reducible refine (r3_Columns.calls k _ _ l0_0 _ _ l0_1 a1 t342 a4 t343 _ ?side1 ?side2 ?side3 ?side4 A7.out).mono ?_
  (case side1 => exact aA HR0_0 HB)
  (case side2 => exact HC0_0.out)
  (case side3 => exact aA HR0_1 HB)
  (case side4 => exact HC0_1.out)
  rintro e w15 ⟨v344, rfl, ho0, hb⟩
  refine ⟨_, rfl, ?_⟩
  have HO345 := zA.mk (Kd.zU ho0 (zH (aL HB))); replace BK341 := zA.mk (zC (aB BK341) hb); replace HB := zA.mk (zD (aL HB) hb); (try clear hb)
  (try clear hb2)
  (try clear hk)
  (try clear hi)
  (try clear ho0)
  refine hK.out _ _ ⟨(zB BK341.out 0).trans rfl, (zB BK341.out 1).trans rfl⟩ (fun hHeld => ?_)
  clear hK K; refine norm_ (a' := ?_) ?_ ?_
  rotate_left
  ·show Act.put _ (some 20) _ = _
   simp only [Act.put, sA_, sB_, sC_, i64_w, i32_w]; rfl
  refine aP 8 (some 11) (tb_ 511 9) HT_ ?_
  refine done_ (done_of HT_.out (by kernel_rfl)) ?_
  obtain ⟨Ao16, co16, eo16⟩ := Kd.zT HO345.out; subst eo16; have p346 : 0 ≤ ((ji8) : Int) := aD
  have q346 : (ji8) < (t343.length : Int) := aD
  obtain ⟨ad346, e346, hx346_0⟩ := Kd.at_int (Kd.zQ HO345.out).2.2 (ji8) p346 q346; cases e346
  replace p346 := eq_true p346; replace q346 := eq_true q346; try go_wp2
  go_ret
  exact ⟨by first | rfl | (simp [errW_none, errW_some] <;> rfl) | (simp only [← hji8]; first | rfl | (simp [errW_none, errW_some] <;> rfl)) | (simp [*, errW_none, errW_some] <;> rfl), aL HB⟩
 rw [if_neg c11] at H; have c11b0 : (a3 == 3) = false := beq_eq_false_iff_ne.mpr c11
 have c11b1 : (a3 != 3) = true := bne_iff_ne.mpr c11
 obtain rfl := Option.some.inj H
 go_enter Try.func32, Try.ntmps32
 try go_wp2_with (first | ((with_reducible refine gate_dst (N := 5) rfl ?_); refine box_event ?hg (N := 5) ?hd (cs := #[.slice A0_0 l0_0.length c0_0, .slice A0_1 l0_1.length c0_1]) (t := 31) ?hr ?_; (case hd => rfl); (case hg => rfl); (case hr => first | (go_simp; done) | (go_simp; rfl)); intro gb341 hg w17 hbox hb; have BK341 := zA.mk (hbox); have GW341 := zA.mk ((by rw [hg]; exact (zH (aL HB)) : w.heap.size ≤ gb341)); replace HB := zA.mk (zD (aL HB) hb); have GE341 := GW341; clear hb hbox hg))
 replace BK341 := zA.mk (zF BK341.out); replace HB := zA.mk (below_drew1 HB.out); refine start_ (n := 9) (S := fun w' => w'.cell? ⟨gb341, 0, none⟩ = some (.slice A0_0 l0_0.length c0_0) ∧ w'.cell? ⟨gb341, 1, none⟩ = some (.slice A0_1 l0_1.length c0_1)) (ds := []) #[false, false, false, false, false, false, false, false, false] (by kernel_rfl) rfl rfl ⟨(zB BK341.out 0).trans rfl, (zB BK341.out 1).trans rfl⟩ (fun hHeld => ?_); refine with_tabW r3_Cells.tab1 r3_Cells.bits1 (fun HT_ HW_ => ?_)
 generalize w17.drew = w18 at BK341 HB hHeld ⊢
 refine aP 1 (some 14) (tb_ 2 9) HT_ ?_
 refine aP 3 (some 16) (tb_ 10 9) HT_ ?_
 refine aP 4 (some 17) (tb_ 26 9) HT_ ?_
 refine aP 6 (some 19) (tb_ 90 9) HT_ ?_
 refine take_ (i := 0) (N := some 13) (v := ?_) (a' := ?_) (tb_ 91 9) rfl rfl (take_ofW HT_.out HW_.out (by kernel_rfl)) (fun _ _ _ h => h) (Or.inl ⟨by rfl, ?_⟩) hHeld ?_ ?_
 rotate_left
 ·rintro w' ⟨s0, s1⟩
  go_simp
  with_reducible rfl
 rotate_left
 ·simp only [Act.put, sA_, sB_, sC_, i64_w, i32_w]
  rfl
 refine take_ (i := 2) (N := some 15) (v := ?_) (a' := ?_) (tb_ 95 9) rfl rfl (take_ofW HT_.out HW_.out (by kernel_rfl)) (fun _ _ _ h => h) (Or.inl ⟨by rfl, ?_⟩) hHeld ?_ ?_
 rotate_left
 ·rintro w' ⟨s0, s1⟩
  go_simp
  with_reducible rfl
 rotate_left
 ·simp only [Act.put, sA_, sB_, sC_, i64_w, i32_w]
  rfl
 refine one_ (i := 5) (N := some 18) (tb_ 127 9) rfl rfl (one_of HT_.out (by kernel_rfl)) (by decide) (fun K hK => ?_)
 refine goes_ Try.func45 (by kernel_rfl) rfl #[.agg #[.slice A0_0 l0_0.length c0_0, .slice A0_1 l0_1.length c0_1], .int .i64 a1, .int .i64 a2] (by rfl) rfl rfl aT ?_
 with_reducible refine (r3_Trim.calls k _ _ l0_0 _ _ l0_1 a1 a2 t342 _ ?side1 ?side2 ?side3 ?side4 A6.out).mono ?_
 (case side1 => exact aA HR0_0 HB)
 (case side2 => exact HC0_0.out)
 (case side3 => exact aA HR0_1 HB)
 (case side4 => exact HC0_1.out)
 rintro e w19 ⟨rfl, hb⟩
 refine ⟨_, rfl, ?_⟩
 replace BK341 := zA.mk (zC (aB BK341) hb); replace HB := zA.mk (zD (aL HB) hb); (try clear hb)
 (try clear hb2)
 (try clear hk)
 (try clear hi)
 refine hK.out _ _ ⟨(zB BK341.out 0).trans rfl, (zB BK341.out 1).trans rfl⟩ (fun hHeld => ?_)
 clear hK K; refine norm_ (a' := ?_) ?_ ?_
 rotate_left
 ·show Act.put _ (some 18) _ = _
  simp only [Act.put, sA_, sB_, sC_, i64_w, i32_w]; rfl
 refine one_ (i := 7) (N := some 20) (tb_ 255 9) rfl rfl (one_of HT_.out (by kernel_rfl)) (by decide) (fun K hK => ?_)
 refine goes_ Try.func44 (by kernel_rfl) rfl #[.agg #[.slice A0_0 l0_0.length c0_0, .slice A0_1 l0_1.length c0_1], .int .i64 a1, .int .i64 t342, .int .i64 a4] (by rfl) rfl rfl aT ?_
 with_reducible refine (r3_Columns.calls k _ _ l0_0 _ _ l0_1 a1 t342 a4 t343 _ ?side1 ?side2 ?side3 ?side4 A7.out).mono ?_
 (case side1 => exact aA HR0_0 HB)
 (case side2 => exact HC0_0.out)
 (case side3 => exact aA HR0_1 HB)
 (case side4 => exact HC0_1.out)
 rintro e w20 ⟨v344, rfl, ho0, hb⟩
 refine ⟨_, rfl, ?_⟩
 have HO345 := zA.mk (Kd.zU ho0 (zH (aL HB))); replace BK341 := zA.mk (zC (aB BK341) hb); replace HB := zA.mk (zD (aL HB) hb); (try clear hb)
 (try clear hb2)
 (try clear hk)
 (try clear hi)
 (try clear ho0)
 refine hK.out _ _ ⟨(zB BK341.out 0).trans rfl, (zB BK341.out 1).trans rfl⟩ (fun hHeld => ?_)
 clear hK K; refine norm_ (a' := ?_) ?_ ?_
 rotate_left
 ·show Act.put _ (some 20) _ = _
  simp only [Act.put, sA_, sB_, sC_, i64_w, i32_w]; rfl
 refine aP 8 (some 11) (tb_ 511 9) HT_ ?_
 refine done_ (done_of HT_.out (by kernel_rfl)) ?_
 obtain ⟨Ao21, co21, eo21⟩ := Kd.zT HO345.out; subst eo21; have p346 : 0 ≤ ((ji8) : Int) := aD
 have q346 : (ji8) < (t343.length : Int) := aD
 obtain ⟨ad346, e346, hx346_0⟩ := Kd.at_int (Kd.zQ HO345.out).2.2 (ji8) p346 q346; cases e346
 replace p346 := eq_true p346; replace q346 := eq_true q346; try go_wp2
 go_ret
 exact ⟨by first | rfl | (simp [errW_none, errW_some] <;> rfl) | (simp only [← hji8]; first | rfl | (simp [errW_none, errW_some] <;> rfl)) | (simp [*, errW_none, errW_some] <;> rfl), aL HB⟩
def r3_Line.f (k : Nat) (l0_0 : List (S66)) (l0_1 : List Int) (a1 : Int) (a2 : Int) (a3 : Int) (a4 : Int) : Option (Int × Int × Int × Int) := (r3_Cells.f k l0_0 l0_1 a1 a2 a3 a4).bind fun t349 => (some (a1, a2, t349, a3))
theorem r3_Line.mono : ∀ a0 a1 a2 a3 a4 a5 k, LeO (r3_Line.f k a0 a1 a2 a3 a4 a5) (r3_Line.f (k + 1) a0 a1 a2 a3 a4 a5) := by
 intro a0 a1 a2 a3 a4 a5 k
 unfold r3_Line.f
 repeat' (with_reducible first | exact r3_Cells.mono _ _ _ _ _ _ _ | exact LeO.refl _ | exact LeO.none _ | refine LeO.ite ?_ ?_ | refine LeO.bind ?_ (fun _ => ?_))
set_option maxHeartbeats 8000000 in
set_option maxRecDepth 100000 in
theorem r3_Line.calls (k : Nat) (A0_0 : Option Addr) (c0_0 : Nat) (l0_0 : List (S66)) (A0_1 : Option Addr) (c0_1 : Nat) (l0_1 : List Int) (a1 : Int) (a2 : Int) (a3 : Int) (a4 : Int) (r1 : Int) (r2 : Int) (r3 : Int) (r4 : Int) (w : World) (hr0_0 : Kd.C k66 w A0_0 l0_0.length l0_0) (hc0_0 : l0_0.length ≤ c0_0) (hr0_1 : Kd.C (Kd.int .u8) w A0_1 l0_1.length l0_1) (hc0_1 : l0_1.length ≤ c0_1) (h : r3_Line.f k l0_0 l0_1 a1 a2 a3 a4 = some (r1, r2, r3, r4)) :
  Calls Try.prog 24 #[.agg #[.slice A0_0 l0_0.length c0_0, .slice A0_1 l0_1.length c0_1], .int .i64 a1, .int .i64 a2, .int .u8 a3, .int .i64 a4] w fun e w' => e = .returned (.agg #[.int .i64 r1, .int .i64 r2, .int .i64 r3, .int .u8 r4]) ∧ Below w.heap.size w w' := by
 have hu31 := Try.underlying31; have hu54 := Try.underlying54; have HR0_0 := zA.mk hr0_0; have HC0_0 := zA.mk hc0_0; clear hr0_0 hc0_0; have HR0_1 := zA.mk hr0_1; have HC0_1 := zA.mk hc0_1; clear hr0_1 hc0_1; have HB := zA.mk (Below.refl w.heap.size w); have H : ((r3_Cells.f k l0_0 l0_1 a1 a2 a3 a4).bind fun t349 => (some (a1, a2, t349, a3))) = some (r1, r2, r3, r4) := h
 clear h; replace H := Option.bind_eq_some_iff.mp H; obtain ⟨t349, A60, H⟩ := H; replace H : (some (a1, a2, t349, a3)) = some (r1, r2, r3, r4) := H; have A6 := zA.mk A60; clear A60; simp only [Option.some.injEq, Prod.mk.injEq] at H; obtain ⟨rfl, rfl, rfl, rfl⟩ := H; go_enter Try.func24, Try.ntmps24
 go_wp2_with (first | ((with_reducible refine gate_dst (N := 5) rfl ?_); refine box_event ?hg (N := 5) ?hd (cs := #[.slice A0_0 l0_0.length c0_0, .slice A0_1 l0_1.length c0_1]) (t := 31) ?hr ?_; (case hd => rfl); (case hg => rfl); (case hr => first | (go_simp; done) | (go_simp; rfl)); intro gb347 hg w7 hbox hb; have BK347 := zA.mk (hbox); have GW347 := zA.mk ((by rw [hg]; exact (zH (aL HB)) : w.heap.size ≤ gb347)); replace HB := zA.mk (zD (aL HB) hb); have GE347 := GW347; clear hb hbox hg) | ((with_reducible refine gate_dst (N := 10) rfl ?_); refine box_event ?hg (N := 10) ?hd (cs := #[.int .i64 0, .int .i64 0, .int .i64 0, .int .u8 0]) (t := 54) ?hr ?_; (case hd => rfl); (case hg => rfl); (case hr => first | (go_simp; done) | (go_simp; rfl)); intro gb348 hg w8 hbox hb; have BK348 := zA.mk (hbox); have GW348 := zA.mk ((by rw [hg]; exact (zH (aL HB)) : w.heap.size ≤ gb348)); replace HB := zA.mk (zD (aL HB) hb); have GE348 := GW348; have NB347_348 := zA.mk ((by rw [hg]; exact Nat.ne_of_lt (blk_lt (aB BK347)) : gb347 ≠ gb348)); have NB348_347 := zA.mk ((by rw [hg]; exact Nat.ne_of_gt (blk_lt (g := gb347) (o := .cells #[.slice A0_0 l0_0.length c0_0, .slice A0_1 l0_1.length c0_1] 31 (0, 0)) (aB BK347)) : gb348 ≠ gb347)); replace BK347 := zA.mk (zC (aB BK347) hb); clear hb hbox hg; have hnb9 := NB347_348.out; have hnc9 := NB348_347.out; obtain ⟨hcz10_0, hcz10_1, hfz10_0, hfz10_1⟩ := aC2 BK347) | ((with_reducible refine gate_callee (f := 32) rfl ?_); refine goesL_ (some 18) rfl rfl Try.func32 (by kernel_rfl) rfl #[.agg #[.slice A0_0 l0_0.length c0_0, .slice A0_1 l0_1.length c0_1], .int .i64 a1, .int .i64 a2, .int .u8 a3, .int .i64 a4] rfl aT ?_; (with_reducible refine (r3_Cells.calls k _ _ l0_0 _ _ l0_1 a1 a2 a3 a4 t349 _ ?side1 ?side2 ?side3 ?side4 A6.out).mono ?_); (case side1 => exact aA HR0_0 HB); (case side2 => exact HC0_0.out); (case side3 => exact aA HR0_1 HB); (case side4 => exact HC0_1.out); rintro e w11 ⟨rfl, hb⟩; refine ⟨_, rfl, ?_⟩; replace BK347 := zA.mk (zC (aB BK347) hb); replace BK348 := zA.mk (zC (aB BK348) hb); replace HB := zA.mk (zD (aL HB) hb); (try clear hb); (try clear hb2); (try clear hk); (try clear hi); obtain ⟨hcz12_0, hcz12_1, hcz12_2, hcz12_3, hfz12_0, hfz12_1, hfz12_2, hfz12_3⟩ := aC4 BK348) | ((with_reducible refine gate_store (t := 54) (p := 10) rfl ?_); refine store_event (t := 54) (p := 10) (v := ?vo_w13) (w1 := ((((w11.setCell ⟨gb348, 0, none⟩ (.int .i64 a1)).setCell ⟨gb348, 1, none⟩ (.int .i64 a2)).setCell ⟨gb348, 2, none⟩ (.int .i64 t349)).setCell ⟨gb348, 3, none⟩ (.int .u8 a3))) ?hg ?ho ?hn ?hr ?_; (case ho => rfl); (case hg => rfl); (case hn => rfl); (case hr => first | (go_simp; done) | (go_simp; rfl)); intro w13 hw; have n0_ : zA (w13.heap[gb347]? = some (.cells #[.slice A0_0 l0_0.length c0_0, .slice A0_1 l0_1.length c0_1] 31 (0, 0))) := ⟨(by rw [hw]; exact (aB BK347))⟩; have n1_ : zA (w13.heap[gb348]? = some (.cells #[.int .i64 a1, .int .i64 a2, .int .i64 t349, .int .u8 a3] 54 (0, 0))) := ⟨(by rw [hw]; exact (by (with_reducible repeat (first | refine zI ?_ _ | refine zF ?_ | refine zE ?_ _)); refine blk_put (cs := #[.int .i64 a1, .int .i64 a2, .int .i64 t349, .int .u8 0]) ?_ 3 _ rfl; (with_reducible repeat (first | refine zI ?_ _ | refine zF ?_ | refine zE ?_ _)); refine blk_put (cs := #[.int .i64 a1, .int .i64 a2, .int .i64 0, .int .u8 0]) ?_ 2 _ rfl; (with_reducible repeat (first | refine zI ?_ _ | refine zF ?_ | refine zE ?_ _)); refine blk_put (cs := #[.int .i64 a1, .int .i64 0, .int .i64 0, .int .u8 0]) ?_ 1 _ rfl; (with_reducible repeat (first | refine zI ?_ _ | refine zF ?_ | refine zE ?_ _)); refine blk_put (cs := #[.int .i64 0, .int .i64 0, .int .i64 0, .int .u8 0]) ?_ 0 _ rfl; (with_reducible repeat (first | refine zI ?_ _ | refine zF ?_ | refine zE ?_ _)); exact BK348.out))⟩; have n2_ : zA (Below w.heap.size w w13) := ⟨(by rw [hw]; exact (aL HB))⟩; clear hw; clear BK347; clear BK348; clear HB; have BK347 := n0_; have BK348 := n1_; have HB := n2_; clear n0_ n1_ n2_))
 refine bodyPost_ret (results_cell_row rfl _ _ gb348 54 #[.int .i64 a1, .int .i64 a2, .int .i64 t349, .int .u8 a3] (0, 0) _ rfl (aB BK348) Try.underlying54 rfl (by kernel_rfl)) rfl ?_
 exact ⟨aX, aL HB⟩
mutual
def r3_First.l0 : Nat → Int → Int → List (S54) → List (S66) → List Int → Int → Int → Int → Int → Int → Nat → Option ((List (S54)))
 | 0, _, _, _, _, _, _, _, _, _, _, _ => none
 | k + 1, x1, x2, x9, x351000, x351001, x352000, x352001, x352002, x352003, x352004, x352005 => if x1 < x2 then (r3_First.l1 k x1 x2 x9 (-1) (-1) (wrap64 (x1 + 1)) x351000 x351001 x352000 x352001 x352002 x352003 x352004 x352005) else (some x9)
def r3_First.l1 : Nat → Int → Int → List (S54) → Int → Int → Int → List (S66) → List Int → Int → Int → Int → Int → Int → Nat → Option ((List (S54)))
 | 0, _, _, _, _, _, _, _, _, _, _, _, _, _, _ => none
 | k + 1, x1, x2, x9, x10, x11, x12, x351000, x351001, x352000, x352001, x352002, x352003, x352004, x352005 => if x12 ≤ x2 then ((r3_Cells.f k x351000 x351001 x1 x12 0 x352001).bind fun t352 => (if t352 ≤ x352000 then (if 0 ≤ x12 then (if x12 < (x351001.length : Int) then (if (rd x351001 x12) = 0 then (r3_First.l1 k x1 x2 x9 x10 x12 (wrap64 (x12 + 1)) x351000 x351001 x352000 x352001 x352002 x352003 x352004 x352005) else ((r3_Cells.f k x351000 x351001 x1 x12 (rd x351001 x12) x352001).bind fun t355 => (if t355 ≤ x352000 then (r3_First.l1 k x1 x2 x9 x12 x12 (wrap64 (x12 + 1)) x351000 x351001 x352000 x352001 x352002 x352003 x352004 x352005) else (r3_First.l1 k x1 x2 x9 x10 x12 (wrap64 (x12 + 1)) x351000 x351001 x352000 x352001 x352002 x352003 x352004 x352005)))) else (none)) else (none)) else (r3_First.l1 k x1 x2 x9 x10 x11 (wrap64 (x12 + 1)) x351000 x351001 x352000 x352001 x352002 x352003 x352004 x352005))) else (if x10 ≥ 0 then (if 0 ≤ x10 then (if x10 < (x351001.length : Int) then ((r3_Line.f k x351000 x351001 x1 x10 (rd x351001 x10) x352001).bind fun bt357 => (if x9.length < 4398046511104 then (r3_First.l0 k x10 x2 (x9 ++ [(⟨bt357.1, bt357.2.1, bt357.2.2.1, bt357.2.2.2⟩ : S54)]) x351000 x351001 x352000 x352001 x352002 x352003 x352004 x352005) else (none))) else (none)) else (none)) else (if x11 < 0 then (if 0 ≤ (wrap64 (x1 + 1)) then (if (wrap64 (x1 + 1)) < (x351001.length : Int) then (if (rd x351001 (wrap64 (x1 + 1))) = 2 then ((r3_Line.f k x351000 x351001 x1 (wrap64 (x1 + 1)) (rd x351001 (wrap64 (x1 + 1))) x352001).bind fun bt366 => (if x9.length < 4398046511104 then (r3_First.l0 k (wrap64 (x1 + 1)) x2 (x9 ++ [(⟨bt366.1, bt366.2.1, bt366.2.2.1, bt366.2.2.2⟩ : S54)]) x351000 x351001 x352000 x352001 x352002 x352003 x352004 x352005) else (none))) else (if (rd x351001 (wrap64 (x1 + 1))) = 1 then ((r3_Line.f k x351000 x351001 x1 (wrap64 (x1 + 1)) (rd x351001 (wrap64 (x1 + 1))) x352001).bind fun bt375 => (if x9.length < 4398046511104 then (r3_First.l0 k (wrap64 (x1 + 1)) x2 (x9 ++ [(⟨bt375.1, bt375.2.1, bt375.2.2.1, bt375.2.2.2⟩ : S54)]) x351000 x351001 x352000 x352001 x352002 x352003 x352004 x352005) else (none))) else ((r3_Line.f k x351000 x351001 x1 (wrap64 (x1 + 1)) 4 x352001).bind fun bt382 => (if x9.length < 4398046511104 then (r3_First.l0 k (wrap64 (x1 + 1)) x2 (x9 ++ [(⟨bt382.1, bt382.2.1, bt382.2.2.1, bt382.2.2.2⟩ : S54)]) x351000 x351001 x352000 x352001 x352002 x352003 x352004 x352005) else (none))))) else (none)) else (none)) else (if 0 ≤ x11 then (if x11 < (x351001.length : Int) then (if (rd x351001 x11) = 2 then ((r3_Line.f k x351000 x351001 x1 x11 (rd x351001 x11) x352001).bind fun bt391 => (if x9.length < 4398046511104 then (r3_First.l0 k x11 x2 (x9 ++ [(⟨bt391.1, bt391.2.1, bt391.2.2.1, bt391.2.2.2⟩ : S54)]) x351000 x351001 x352000 x352001 x352002 x352003 x352004 x352005) else (none))) else (if (rd x351001 x11) = 1 then ((r3_Line.f k x351000 x351001 x1 x11 (rd x351001 x11) x352001).bind fun bt400 => (if x9.length < 4398046511104 then (r3_First.l0 k x11 x2 (x9 ++ [(⟨bt400.1, bt400.2.1, bt400.2.2.1, bt400.2.2.2⟩ : S54)]) x351000 x351001 x352000 x352001 x352002 x352003 x352004 x352005) else (none))) else ((r3_Line.f k x351000 x351001 x1 x11 4 x352001).bind fun bt407 => (if x9.length < 4398046511104 then (r3_First.l0 k x11 x2 (x9 ++ [(⟨bt407.1, bt407.2.1, bt407.2.2.1, bt407.2.2.2⟩ : S54)]) x351000 x351001 x352000 x352001 x352002 x352003 x352004 x352005) else (none))))) else (none)) else (none))))
end
def r3_First.f (k : Nat) (l0_0 : List (S66)) (l0_1 : List Int) (a1 : Int) (a2 : Int) (a3_0 : Int) (a3_1 : Int) (a3_2 : Int) (a3_3 : Int) (a3_4 : Int) (a3_5 : Nat) : Option ((List (S54))) := r3_First.l0 k a1 a2 ([] : List (S54)) l0_0 l0_1 a3_0 a3_1 a3_2 a3_3 a3_4 a3_5
theorem r3_First.mono_l : ∀ k, (∀ y0 y1 y2 y3 y4 y5 y6 y7 y8 y9 y10, LeO (r3_First.l0 k y0 y1 y2 y3 y4 y5 y6 y7 y8 y9 y10) (r3_First.l0 (k + 1) y0 y1 y2 y3 y4 y5 y6 y7 y8 y9 y10)) ∧ (∀ y0 y1 y2 y3 y4 y5 y6 y7 y8 y9 y10 y11 y12 y13, LeO (r3_First.l1 k y0 y1 y2 y3 y4 y5 y6 y7 y8 y9 y10 y11 y12 y13) (r3_First.l1 (k + 1) y0 y1 y2 y3 y4 y5 y6 y7 y8 y9 y10 y11 y12 y13))
 | 0 => ⟨fun _ _ _ _ _ _ _ _ _ _ _ r h => by simp [r3_First.l0] at h, fun _ _ _ _ _ _ _ _ _ _ _ _ _ _ r h => by simp [r3_First.l1] at h⟩
 | k + 1 => by
  obtain ⟨ih0, ih1⟩ := r3_First.mono_l k; refine ⟨?_, ?_⟩
  ·intro y0 y1 y2 y3 y4 y5 y6 y7 y8 y9 y10
   unfold r3_First.l0
   repeat' (with_reducible first | exact ih0 _ _ _ _ _ _ _ _ _ _ _ | exact ih1 _ _ _ _ _ _ _ _ _ _ _ _ _ _ | exact r3_Cells.mono _ _ _ _ _ _ _ | exact r3_Line.mono _ _ _ _ _ _ _ | exact LeO.refl _ | exact LeO.none _ | refine LeO.ite ?_ ?_ | refine LeO.bind ?_ (fun _ => ?_))
  ·intro y0 y1 y2 y3 y4 y5 y6 y7 y8 y9 y10 y11 y12 y13
   unfold r3_First.l1
   repeat' (with_reducible first | exact ih0 _ _ _ _ _ _ _ _ _ _ _ | exact ih1 _ _ _ _ _ _ _ _ _ _ _ _ _ _ | exact r3_Cells.mono _ _ _ _ _ _ _ | exact r3_Line.mono _ _ _ _ _ _ _ | exact LeO.refl _ | exact LeO.none _ | refine LeO.ite ?_ ?_ | refine LeO.bind ?_ (fun _ => ?_))
theorem r3_First.mono : ∀ a0 a1 a2 a3 a4 a5 a6 a7 a8 a9 k, LeO (r3_First.f k a0 a1 a2 a3 a4 a5 a6 a7 a8 a9) (r3_First.f (k + 1) a0 a1 a2 a3 a4 a5 a6 a7 a8 a9) := by
 intro a0 a1 a2 a3 a4 a5 a6 a7 a8 a9 k
 obtain ⟨ih0, ih1⟩ := r3_First.mono_l k; unfold r3_First.f
 repeat' (with_reducible first | exact ih0 _ _ _ _ _ _ _ _ _ _ _ | exact ih1 _ _ _ _ _ _ _ _ _ _ _ _ _ _ | exact r3_Cells.mono _ _ _ _ _ _ _ | exact r3_Line.mono _ _ _ _ _ _ _ | exact LeO.refl _ | exact LeO.none _ | refine LeO.ite ?_ ?_ | refine LeO.bind ?_ (fun _ => ?_))
def r3_First.T7 : Bool × List (List Nat × List Nat) := (true, [([], []), ([], []), ([], []), ([], []), ([3], [3]), ([0, 1, 2, 4], [0, 1, 2, 4]), ([], []), ([6], [6]), ([5, 7], [5, 7])])
def r3_First.B7 : List Nat := [0, 0, 0, 0, 8, 31, 0, 64, 255]
theorem r3_First.tab7 : rtab .any (opsOf Try.f36 7) = r3_First.T7 := by kernel_rfl
theorem r3_First.bits7 : waitsOk r3_First.T7.2 r3_First.B7 = true := by kernel_rfl
def r3_First.T9 : Bool × List (List Nat × List Nat) := (true, [([], []), ([0], [0]), ([], []), ([1, 2], [1, 2]), ([3], [3]), ([4], [4]), ([5], [5]), ([6], [6]), ([6], [6]), ([6], [6]), ([6], [6]), ([10, 6], [6, 10]), ([6], [6]), ([11, 12, 6], [6, 11, 12]), ([13, 6], [6, 13]), ([6], [6]), ([15, 6], [6, 15]), ([7, 8, 9, 14, 16, 6, 6], [6, 7, 8, 9, 14, 16]), ([6], [6]), ([18, 6], [6, 18]), ([17, 19, 6], [6, 17, 19]), ([6, 20], [6, 20])])
def r3_First.B9 : List Nat := [0, 1, 0, 7, 15, 31, 63, 127, 127, 127, 127, 1151, 127, 7295, 15487, 127, 32895, 131071, 127, 262271, 1048575, 2097151]
theorem r3_First.tab9 : rtab .any (opsOf Try.f36 9) = r3_First.T9 := by kernel_rfl
theorem r3_First.bits9 : waitsOk r3_First.T9.2 r3_First.B9 = true := by kernel_rfl
set_option maxHeartbeats 8000000 in
set_option maxRecDepth 100000 in
theorem r3_First.calls (k : Nat) (A0_0 : Option Addr) (c0_0 : Nat) (l0_0 : List (S66)) (A0_1 : Option Addr) (c0_1 : Nat) (l0_1 : List Int) (a1 : Int) (a2 : Int) (a3_0 : Int) (a3_1 : Int) (a3_2 : Int) (a3_3 : Int) (a3_4 : Int) (a3_5 : Nat) (r : List (S54)) (w : World) (hr0_0 : Kd.C k66 w A0_0 l0_0.length l0_0) (hc0_0 : l0_0.length ≤ c0_0) (hr0_1 : Kd.C (Kd.int .u8) w A0_1 l0_1.length l0_1) (hc0_1 : l0_1.length ≤ c0_1) (h : r3_First.f k l0_0 l0_1 a1 a2 a3_0 a3_1 a3_2 a3_3 a3_4 a3_5 = some r) :
  Calls Try.prog 36 #[.agg #[.slice A0_0 l0_0.length c0_0, .slice A0_1 l0_1.length c0_1], .int .i64 a1, .int .i64 a2, .agg #[.int .i64 a3_0, .int .i64 a3_1, .int .u8 a3_2, .int .i64 a3_3, .int .i64 a3_4, .float .f64 a3_5]] w fun e w' => ∃ v0_ : Value, e = .returned (v0_) ∧ Kd.R k54 54 w' w.heap.size (fun _ => True) v0_ r ∧ Below w.heap.size w w' := by
 have hu31 := Try.underlying31; have hu35 := Try.underlying35; have HR0_0 := zA.mk hr0_0; have HC0_0 := zA.mk hc0_0; clear hr0_0 hc0_0; have HR0_1 := zA.mk hr0_1; have HC0_1 := zA.mk hc0_1; clear hr0_1 hc0_1; have HB := zA.mk (Below.refl w.heap.size w); have H : (r3_First.l0 k a1 a2 ([] : List (S54)) l0_0 l0_1 a3_0 a3_1 a3_2 a3_3 a3_4 a3_5) = some r := h
 clear h; have H' := zA.mk H
 clear H; go_enter Try.func36, Try.ntmps36
 go_wp2_with (first | ((with_reducible refine gate_dst (N := 4) rfl ?_); refine box_event ?hg (N := 4) ?hd (cs := #[.slice A0_0 l0_0.length c0_0, .slice A0_1 l0_1.length c0_1]) (t := 31) ?hr ?_; (case hd => rfl); (case hg => rfl); (case hr => first | (go_simp; done) | (go_simp; rfl)); intro gb350 hg w5 hbox hb; have BK350 := zA.mk (hbox); have GW350 := zA.mk ((by rw [hg]; exact (zH (aL HB)) : w.heap.size ≤ gb350)); replace HB := zA.mk (zD (aL HB) hb); have GE350 := GW350; clear hb hbox hg) | ((with_reducible refine gate_dst (N := 7) rfl ?_); refine box_event ?hg (N := 7) ?hd (cs := #[.int .i64 a3_0, .int .i64 a3_1, .int .u8 a3_2, .int .i64 a3_3, .int .i64 a3_4, .float .f64 a3_5]) (t := 35) ?hr ?_; (case hd => rfl); (case hg => rfl); (case hr => first | (go_simp; done) | (go_simp; rfl)); intro gb351 hg w6 hbox hb; have BK351 := zA.mk (hbox); have GW351 := zA.mk ((by rw [hg]; exact (zH (aL HB)) : w.heap.size ≤ gb351)); replace HB := zA.mk (zD (aL HB) hb); have GE351 := GW351; have NB350_351 := zA.mk ((by rw [hg]; exact Nat.ne_of_lt (blk_lt (aB BK350)) : gb350 ≠ gb351)); have NB351_350 := zA.mk ((by rw [hg]; exact Nat.ne_of_gt (blk_lt (g := gb350) (o := .cells #[.slice A0_0 l0_0.length c0_0, .slice A0_1 l0_1.length c0_1] 31 (0, 0)) (aB BK350)) : gb351 ≠ gb350)); replace BK350 := zA.mk (zC (aB BK350) hb); clear hb hbox hg))
 go_loopg [1, 9] k (fun kq v1 v9 w' => ∃ (x1_1 : Int) (x9_1 : List (S54)), v1 = .int .i64 x1_1 ∧ zA (r3_First.l0 kq x1_1 a2 x9_1 l0_0 l0_1 a3_0 a3_1 a3_2 a3_3 a3_4 a3_5 = some r) ∧ zA (kq ≤ k) ∧ zA (Kd.R k54 54 w' w.heap.size (fun _ => True) v9 x9_1) ∧ zA (w'.heap[gb350]? = some (.cells #[(.slice A0_0 l0_0.length c0_0), (.slice A0_1 l0_1.length c0_1)] 31 (0, 0))) ∧ zA (w'.heap[gb351]? = some (.cells #[.int .i64 a3_0, .int .i64 a3_1, .int .u8 a3_2, .int .i64 a3_3, .int .i64 a3_4, .float .f64 a3_5] 35 (0, 0))) ∧ zA (Below w.heap.size w w'))
 case atStart => exact ⟨(a1), (([] : List (S54))), aZ, H', ⟨Nat.le_refl _⟩, ⟨by first | exact Kd.R_nil _ _ _ _ _ | exact Kd.N_nil _ _ _ _ _ | exact Kd.V_nil _ _ _ _ _ | exact Kd.Q_nil _ _ _ _ _ | exact Kd.S_nil _ _ _ _ _⟩, ⟨aB BK350⟩, ⟨aB BK351⟩, ⟨aL HB⟩⟩
 clear H'; obtain ⟨x1_1, x9_1, rfl, HA, HK1, HO_9, BK350, BK351, HB⟩ := hrel; cases gk with
 | zero => exact absurd HA.out (by simp [r3_First.l0])
 | succ k1 =>
  have H := HA.out; clear HA; simp only [r3_First.l0] at H; by_cases c7 : x1_1 < a2
  rotate_left
  ·rw [if_neg c7] at H
   have c7b0 : decide (x1_1 < a2) = false := decide_eq_false c7
   clear c7; obtain rfl := Option.some.inj H
   go_wp2
   go_ret
   exact ⟨_, aX, aR HO_9, aL HB⟩
  rw [if_pos c7] at H; have c7b0 : decide (x1_1 < a2) = true := decide_eq_true c7
  clear c7; have H' := zA.mk H
  clear H; go_wp2
  go_loopg [10, 11, 12] k1 (fun kq v10 v11 v12 w' => ∃ (x10_2 : Int) (x11_2 : Int) (x12_2 : Int), v10 = .int .i64 x10_2 ∧ v11 = .int .i64 x11_2 ∧ v12 = .int .i64 x12_2 ∧ zA (r3_First.l1 kq x1_1 a2 x9_1 x10_2 x11_2 x12_2 l0_0 l0_1 a3_0 a3_1 a3_2 a3_3 a3_4 a3_5 = some r) ∧ zA (kq ≤ k1) ∧ zA (Kd.R k54 54 w' w.heap.size (fun _ => True) u9 x9_1) ∧ zA (w'.heap[gb350]? = some (.cells #[(.slice A0_0 l0_0.length c0_0), (.slice A0_1 l0_1.length c0_1)] 31 (0, 0))) ∧ zA (w'.heap[gb351]? = some (.cells #[.int .i64 a3_0, .int .i64 a3_1, .int .u8 a3_2, .int .i64 a3_3, .int .i64 a3_4, .float .f64 a3_5] 35 (0, 0))) ∧ zA (Below w.heap.size w w'))
  case atStart => exact ⟨((-1)), ((-1)), (wrap64 (x1_1 + 1)), aZ, aZ, aZ, H', ⟨Nat.le_refl _⟩, ⟨aR HO_9⟩, ⟨aB BK350⟩, ⟨aB BK351⟩, ⟨aL HB⟩⟩
  clear H'; obtain ⟨x10_2, x11_2, x12_2, rfl, rfl, rfl, HA, HK2, HO_9, BK350, BK351, HB⟩ := hrel; cases gk with
  | zero => exact absurd HA.out (by simp [r3_First.l1])
  | succ k2 =>
   have H := HA.out; clear HA; simp only [r3_First.l1] at H; by_cases c8 : x12_2 ≤ a2
   rotate_left
   ·rw [if_neg c8] at H
    have c8b0 : decide (x12_2 ≤ a2) = false := decide_eq_false c8
    clear c8; by_cases c29 : x10_2 ≥ 0
    ·rw [if_pos c29] at H
     have c29b0 : decide (0 ≤ x10_2) = true := decide_eq_true c29
     clear c29; by_cases c30 : 0 ≤ x10_2
     rotate_left
     ·rw [if_neg c30] at H
      exact absurd H (by simp)
     rw [if_pos c30] at H; have c30b0 : decide (0 ≤ x10_2) = true := decide_eq_true c30
     clear c30; by_cases c31 : x10_2 < (l0_1.length : Int)
     rotate_left
     ·rw [if_neg c31] at H
      exact absurd H (by simp)
     rw [if_pos c31] at H; have c31b0 : decide (x10_2 < (l0_1.length : Int)) = true := decide_eq_true c31
     clear c31; replace H := Option.bind_eq_some_iff.mp H; obtain ⟨⟨t357, t358, t359, t360⟩, A320, H⟩ := H; replace H : (if x9_1.length < 4398046511104 then (r3_First.l0 k2 x10_2 a2 (x9_1 ++ [(⟨t357, t358, t359, t360⟩ : S54)]) l0_0 l0_1 a3_0 a3_1 a3_2 a3_3 a3_4 a3_5) else (none)) = some r := H; have A32 := zA.mk A320; clear A320; by_cases c33 : x9_1.length < 4398046511104
     rotate_left
     ·rw [if_neg c33] at H
      exact absurd H (by simp)
     rw [if_pos c33] at H; have LMc33 := zA.mk c33; clear c33; obtain ⟨y361, hy361⟩ : ∃ y_ : List (S54), y_ = (x9_1 ++ [(⟨t357, t358, t359, t360⟩ : S54)]) := ⟨_, rfl⟩; replace H : (r3_First.l0 k2 x10_2 a2 y361 l0_0 l0_1 a3_0 a3_1 a3_2 a3_3 a3_4 a3_5) = some r := by first | (rw [hy361]; with_reducible exact H) | (have H2_ := (Option.bind_some _ _).symm.trans H; rw [hy361]; with_reducible exact H2_) | (have H2_ := (Option.bind_some _ _).symm.trans H; with_reducible exact H2_) | with_reducible exact H | (rw [hy361]; exact H) | exact H
     have Ny361 := zA.mk hy361; clear hy361; have H' := zA.mk H
     clear H; have hnb34 := NB350_351.out; have hnc34 := NB351_350.out; obtain ⟨hcz35_0, hcz35_1, hfz35_0, hfz35_1⟩ := aC2 BK350; have p356 : 0 ≤ (x10_2 : Int) := aD
     have q356 : x10_2 < (l0_1.length : Int) := aD
     obtain ⟨ad356, e356, hx356_0⟩ := Kd.at_int HR0_1.out x10_2 p356 q356; cases e356
     replace hx356_0 := (HB.out.cell (World.block_lt_of_cell? w _ hx356_0)).trans hx356_0; replace p356 := eq_true p356; replace q356 := eq_true q356; obtain ⟨hcz36_0, hcz36_1, hcz36_2, hcz36_3, hcz36_4, hcz36_5, hfz36_0, hfz36_1, hfz36_2, hfz36_3, hfz36_4, hfz36_5⟩ := aC6 BK351; go_wp2_with (first | ((with_reducible refine gate_callee (f := 24) rfl ?_); refine goesL_ (some 95) rfl rfl Try.func24 (by kernel_rfl) rfl #[.agg #[.slice A0_0 l0_0.length c0_0, .slice (some ad356) l0_1.length c0_1], .int .i64 x1_1, .int .i64 x10_2, .int .u8 (rd l0_1 x10_2), .int .i64 a3_1] rfl aT ?_; (with_reducible refine (r3_Line.calls k2 _ _ l0_0 _ _ l0_1 x1_1 x10_2 (rd l0_1 x10_2) a3_1 t357 t358 t359 t360 _ ?side1 ?side2 ?side3 ?side4 A32.out).mono ?_); (case side1 => exact aA HR0_0 HB); (case side2 => exact HC0_0.out); (case side3 => exact aA HR0_1 HB); (case side4 => exact HC0_1.out); rintro e w37 ⟨rfl, hb⟩; refine ⟨_, rfl, ?_⟩; replace HO_9 := zA.mk (Kd.zR (aR HO_9) hb); replace BK350 := zA.mk (zC (aB BK350) hb); replace BK351 := zA.mk (zC (aB BK351) hb); replace HB := zA.mk (zD (aL HB) hb); (try clear hb); (try clear hb2); (try clear hk); (try clear hi)) | ((with_reducible refine gate_builtin (b := .append) (xs := #[.tmp 88, .tmp 96]) rfl ?_); at_builtin; refine Kd.R_append k54 (w0 := w) w.heap.size rfl (.tmp 88) (.tmp 96) 37 54 (.agg #[(.int .i64 0), (.int .i64 0), (.int .i64 0), (.int .u8 0)]) 32 rfl Try.underlying37 info54 rfl (by decide) (by omega) u9 x9_1 (⟨t357, t358, t359, t360⟩ : S54) [.int .i64 t357, .int .i64 t358, .int .i64 t359, .int .u8 t360] (fun _ => True) (fun _ => False) rfl rfl ?aP (fun _ hk => hk.elim) ?aF ?aO ?aB ?aS ?aL ?_; (case aP => exact k54_mkM _ _ _ (⟨t357, t358, t359, t360⟩ : S54)); (case aB => exact (aL HB)); (case aF => exact (fun _ _ => trivial)); (case aO => exact (aR HO_9)); (case aS => exact (zH (aL HB))); (case aL => have := LMc33.out; omega); intro v362 w38 ho hb hg hat; rw [← Ny361.out] at ho; replace BK350 := zA.mk (blk_grown (g := gb350) (o := .cells #[.slice A0_0 l0_0.length c0_0, .slice (some ad356) l0_1.length c0_1] 31 (0, 0)) (aB BK350) hg (Kd.R_ne HO_9.out BK350.out (by decide))); replace BK351 := zA.mk (blk_grown (g := gb351) (o := .cells #[.int .i64 a3_0, .int .i64 a3_1, .int .u8 a3_2, .int .i64 a3_3, .int .i64 a3_4, .float .f64 a3_5] 35 (0, 0)) (aB BK351) hg (Kd.R_ne HO_9.out BK351.out (by decide))); replace HB := zA.mk (hb); have HO363 := zA.mk (ho); clear HO_9; clear ho hb hg hat))
     go_roundg k2
     case measure => have := HK1.out; have := HK2.out; omega
     case rel => exact ⟨(x10_2), (y361), aZ, H', ⟨by have := HK1.out; have := HK2.out; omega⟩, ⟨aR HO363⟩, ⟨aB BK350⟩, ⟨aB BK351⟩, ⟨aL HB⟩⟩
    rw [if_neg c29] at H; have c29b0 : decide (0 ≤ x10_2) = false := decide_eq_false c29
    clear c29; by_cases c39 : x11_2 < 0
    rotate_left
    ·rw [if_neg c39] at H
     have c39b0 : decide (x11_2 < 0) = false := decide_eq_false c39
     clear c39; by_cases c66 : 0 ≤ x11_2
     rotate_left
     ·rw [if_neg c66] at H
      exact absurd H (by simp)
     rw [if_pos c66] at H; have c66b0 : decide (0 ≤ x11_2) = true := decide_eq_true c66
     clear c66; by_cases c67 : x11_2 < (l0_1.length : Int)
     rotate_left
     ·rw [if_neg c67] at H
      exact absurd H (by simp)
     rw [if_pos c67] at H; have c67b0 : decide (x11_2 < (l0_1.length : Int)) = true := decide_eq_true c67
     clear c67; by_cases c68 : (rd l0_1 x11_2) = 2
     ·rw [if_pos c68] at H
      have c68b0 : ((rd l0_1 x11_2) == 2) = true := beq_iff_eq.mpr c68
      have c68b1 : ((rd l0_1 x11_2) != 2) = false := bne_eq_false_iff_eq.mpr c68
      clear c68; replace H := Option.bind_eq_some_iff.mp H; obtain ⟨⟨t391, t392, t393, t394⟩, A690, H⟩ := H; replace H : (if x9_1.length < 4398046511104 then (r3_First.l0 k2 x11_2 a2 (x9_1 ++ [(⟨t391, t392, t393, t394⟩ : S54)]) l0_0 l0_1 a3_0 a3_1 a3_2 a3_3 a3_4 a3_5) else (none)) = some r := H; have A69 := zA.mk A690; clear A690; by_cases c70 : x9_1.length < 4398046511104
      rotate_left
      ·rw [if_neg c70] at H
       exact absurd H (by simp)
      rw [if_pos c70] at H; have LMc70 := zA.mk c70; clear c70; obtain ⟨y395, hy395⟩ : ∃ y_ : List (S54), y_ = (x9_1 ++ [(⟨t391, t392, t393, t394⟩ : S54)]) := ⟨_, rfl⟩; replace H : (r3_First.l0 k2 x11_2 a2 y395 l0_0 l0_1 a3_0 a3_1 a3_2 a3_3 a3_4 a3_5) = some r := by first | (rw [hy395]; with_reducible exact H) | (have H2_ := (Option.bind_some _ _).symm.trans H; rw [hy395]; with_reducible exact H2_) | (have H2_ := (Option.bind_some _ _).symm.trans H; with_reducible exact H2_) | with_reducible exact H | (rw [hy395]; exact H) | exact H
      have Ny395 := zA.mk hy395; clear hy395; have H' := zA.mk H
      clear H; have hnb71 := NB350_351.out; have hnc71 := NB351_350.out; obtain ⟨hcz72_0, hcz72_1, hfz72_0, hfz72_1⟩ := aC2 BK350; have p389 : 0 ≤ (x11_2 : Int) := aD
      have q389 : x11_2 < (l0_1.length : Int) := aD
      obtain ⟨ad389, e389, hx389_0⟩ := Kd.at_int HR0_1.out x11_2 p389 q389; cases e389
      replace hx389_0 := (HB.out.cell (World.block_lt_of_cell? w _ hx389_0)).trans hx389_0; replace p389 := eq_true p389; replace q389 := eq_true q389; have p390 : 0 ≤ (x11_2 : Int) := aD
      have q390 : x11_2 < (l0_1.length : Int) := aD
      obtain ⟨ad390, e390, hx390_0⟩ := Kd.at_int HR0_1.out x11_2 p390 q390; obtain rfl : ad389 = ad390 := (by injection e390)
      replace hx390_0 := (HB.out.cell (World.block_lt_of_cell? w _ hx390_0)).trans hx390_0; replace p390 := eq_true p390; replace q390 := eq_true q390; obtain ⟨hcz73_0, hcz73_1, hcz73_2, hcz73_3, hcz73_4, hcz73_5, hfz73_0, hfz73_1, hfz73_2, hfz73_3, hfz73_4, hfz73_5⟩ := aC6 BK351; go_wp2_with (first | ((with_reducible refine gate_callee (f := 24) rfl ?_); refine goesL_ (some 95) rfl rfl Try.func24 (by kernel_rfl) rfl #[.agg #[.slice A0_0 l0_0.length c0_0, .slice (some ad389) l0_1.length c0_1], .int .i64 x1_1, .int .i64 x11_2, .int .u8 (rd l0_1 x11_2), .int .i64 a3_1] rfl aT ?_; (with_reducible refine (r3_Line.calls k2 _ _ l0_0 _ _ l0_1 x1_1 x11_2 (rd l0_1 x11_2) a3_1 t391 t392 t393 t394 _ ?side1 ?side2 ?side3 ?side4 A69.out).mono ?_); (case side1 => exact aA HR0_0 HB); (case side2 => exact HC0_0.out); (case side3 => exact aA HR0_1 HB); (case side4 => exact HC0_1.out); rintro e w74 ⟨rfl, hb⟩; refine ⟨_, rfl, ?_⟩; replace HO_9 := zA.mk (Kd.zR (aR HO_9) hb); replace BK350 := zA.mk (zC (aB BK350) hb); replace BK351 := zA.mk (zC (aB BK351) hb); replace HB := zA.mk (zD (aL HB) hb); (try clear hb); (try clear hb2); (try clear hk); (try clear hi)) | ((with_reducible refine gate_builtin (b := .append) (xs := #[.tmp 88, .tmp 96]) rfl ?_); at_builtin; refine Kd.R_append k54 (w0 := w) w.heap.size rfl (.tmp 88) (.tmp 96) 37 54 (.agg #[(.int .i64 0), (.int .i64 0), (.int .i64 0), (.int .u8 0)]) 32 rfl Try.underlying37 info54 rfl (by decide) (by omega) u9 x9_1 (⟨t391, t392, t393, t394⟩ : S54) [.int .i64 t391, .int .i64 t392, .int .i64 t393, .int .u8 t394] (fun _ => True) (fun _ => False) rfl rfl ?aP (fun _ hk => hk.elim) ?aF ?aO ?aB ?aS ?aL ?_; (case aP => exact k54_mkM _ _ _ (⟨t391, t392, t393, t394⟩ : S54)); (case aB => exact (aL HB)); (case aF => exact (fun _ _ => trivial)); (case aO => exact (aR HO_9)); (case aS => exact (zH (aL HB))); (case aL => have := LMc70.out; omega); intro v396 w75 ho hb hg hat; rw [← Ny395.out] at ho; replace BK350 := zA.mk (blk_grown (g := gb350) (o := .cells #[.slice A0_0 l0_0.length c0_0, .slice (some ad389) l0_1.length c0_1] 31 (0, 0)) (aB BK350) hg (Kd.R_ne HO_9.out BK350.out (by decide))); replace BK351 := zA.mk (blk_grown (g := gb351) (o := .cells #[.int .i64 a3_0, .int .i64 a3_1, .int .u8 a3_2, .int .i64 a3_3, .int .i64 a3_4, .float .f64 a3_5] 35 (0, 0)) (aB BK351) hg (Kd.R_ne HO_9.out BK351.out (by decide))); replace HB := zA.mk (hb); have HO397 := zA.mk (ho); clear HO_9; clear ho hb hg hat))
      go_roundg k2
      case measure => have := HK1.out; have := HK2.out; omega
      case rel => exact ⟨(x11_2), (y395), aZ, H', ⟨by have := HK1.out; have := HK2.out; omega⟩, ⟨aR HO397⟩, ⟨aB BK350⟩, ⟨aB BK351⟩, ⟨aL HB⟩⟩
     rw [if_neg c68] at H; have c68b0 : ((rd l0_1 x11_2) == 2) = false := beq_eq_false_iff_ne.mpr c68
     have c68b1 : ((rd l0_1 x11_2) != 2) = true := bne_iff_ne.mpr c68
     by_cases c76 : (rd l0_1 x11_2) = 1
     rotate_left
     ·rw [if_neg c76] at H
      have c76b0 : ((rd l0_1 x11_2) == 1) = false := beq_eq_false_iff_ne.mpr c76
      have c76b1 : ((rd l0_1 x11_2) != 1) = true := bne_iff_ne.mpr c76
      replace H := Option.bind_eq_some_iff.mp H; obtain ⟨⟨t407, t408, t409, t410⟩, A840, H⟩ := H; replace H : (if x9_1.length < 4398046511104 then (r3_First.l0 k2 x11_2 a2 (x9_1 ++ [(⟨t407, t408, t409, t410⟩ : S54)]) l0_0 l0_1 a3_0 a3_1 a3_2 a3_3 a3_4 a3_5) else (none)) = some r := H; have A84 := zA.mk A840; clear A840; by_cases c85 : x9_1.length < 4398046511104
      rotate_left
      ·rw [if_neg c85] at H
       exact absurd H (by simp)
      rw [if_pos c85] at H; have LMc85 := zA.mk c85; clear c85; obtain ⟨y411, hy411⟩ : ∃ y_ : List (S54), y_ = (x9_1 ++ [(⟨t407, t408, t409, t410⟩ : S54)]) := ⟨_, rfl⟩; replace H : (r3_First.l0 k2 x11_2 a2 y411 l0_0 l0_1 a3_0 a3_1 a3_2 a3_3 a3_4 a3_5) = some r := by first | (rw [hy411]; with_reducible exact H) | (have H2_ := (Option.bind_some _ _).symm.trans H; rw [hy411]; with_reducible exact H2_) | (have H2_ := (Option.bind_some _ _).symm.trans H; with_reducible exact H2_) | with_reducible exact H | (rw [hy411]; exact H) | exact H
      have Ny411 := zA.mk hy411; clear hy411; have H' := zA.mk H
      clear H; have hnb86 := NB350_351.out; have hnc86 := NB351_350.out; obtain ⟨hcz87_0, hcz87_1, hfz87_0, hfz87_1⟩ := aC2 BK350; have p389 : 0 ≤ (x11_2 : Int) := aD
      have q389 : x11_2 < (l0_1.length : Int) := aD
      obtain ⟨ad389, e389, hx389_0⟩ := Kd.at_int HR0_1.out x11_2 p389 q389; cases e389
      replace hx389_0 := (HB.out.cell (World.block_lt_of_cell? w _ hx389_0)).trans hx389_0; replace p389 := eq_true p389; replace q389 := eq_true q389; have p398 : 0 ≤ (x11_2 : Int) := aD
      have q398 : x11_2 < (l0_1.length : Int) := aD
      obtain ⟨ad398, e398, hx398_0⟩ := Kd.at_int HR0_1.out x11_2 p398 q398; obtain rfl : ad389 = ad398 := (by injection e398)
      replace hx398_0 := (HB.out.cell (World.block_lt_of_cell? w _ hx398_0)).trans hx398_0; replace p398 := eq_true p398; replace q398 := eq_true q398; obtain ⟨hcz88_0, hcz88_1, hcz88_2, hcz88_3, hcz88_4, hcz88_5, hfz88_0, hfz88_1, hfz88_2, hfz88_3, hfz88_4, hfz88_5⟩ := aC6 BK351; go_wp2_with (first | ((with_reducible refine gate_callee (f := 24) rfl ?_); refine goesL_ (some 95) rfl rfl Try.func24 (by kernel_rfl) rfl #[.agg #[.slice A0_0 l0_0.length c0_0, .slice (some ad389) l0_1.length c0_1], .int .i64 x1_1, .int .i64 x11_2, .int .u8 4, .int .i64 a3_1] rfl aT ?_; (with_reducible refine (r3_Line.calls k2 _ _ l0_0 _ _ l0_1 x1_1 x11_2 4 a3_1 t407 t408 t409 t410 _ ?side1 ?side2 ?side3 ?side4 A84.out).mono ?_); (case side1 => exact aA HR0_0 HB); (case side2 => exact HC0_0.out); (case side3 => exact aA HR0_1 HB); (case side4 => exact HC0_1.out); rintro e w89 ⟨rfl, hb⟩; refine ⟨_, rfl, ?_⟩; replace HO_9 := zA.mk (Kd.zR (aR HO_9) hb); replace BK350 := zA.mk (zC (aB BK350) hb); replace BK351 := zA.mk (zC (aB BK351) hb); replace HB := zA.mk (zD (aL HB) hb); (try clear hb); (try clear hb2); (try clear hk); (try clear hi)) | ((with_reducible refine gate_builtin (b := .append) (xs := #[.tmp 88, .tmp 96]) rfl ?_); at_builtin; refine Kd.R_append k54 (w0 := w) w.heap.size rfl (.tmp 88) (.tmp 96) 37 54 (.agg #[(.int .i64 0), (.int .i64 0), (.int .i64 0), (.int .u8 0)]) 32 rfl Try.underlying37 info54 rfl (by decide) (by omega) u9 x9_1 (⟨t407, t408, t409, t410⟩ : S54) [.int .i64 t407, .int .i64 t408, .int .i64 t409, .int .u8 t410] (fun _ => True) (fun _ => False) rfl rfl ?aP (fun _ hk => hk.elim) ?aF ?aO ?aB ?aS ?aL ?_; (case aP => exact k54_mkM _ _ _ (⟨t407, t408, t409, t410⟩ : S54)); (case aB => exact (aL HB)); (case aF => exact (fun _ _ => trivial)); (case aO => exact (aR HO_9)); (case aS => exact (zH (aL HB))); (case aL => have := LMc85.out; omega); intro v412 w90 ho hb hg hat; rw [← Ny411.out] at ho; replace BK350 := zA.mk (blk_grown (g := gb350) (o := .cells #[.slice A0_0 l0_0.length c0_0, .slice (some ad389) l0_1.length c0_1] 31 (0, 0)) (aB BK350) hg (Kd.R_ne HO_9.out BK350.out (by decide))); replace BK351 := zA.mk (blk_grown (g := gb351) (o := .cells #[.int .i64 a3_0, .int .i64 a3_1, .int .u8 a3_2, .int .i64 a3_3, .int .i64 a3_4, .float .f64 a3_5] 35 (0, 0)) (aB BK351) hg (Kd.R_ne HO_9.out BK351.out (by decide))); replace HB := zA.mk (hb); have HO413 := zA.mk (ho); clear HO_9; clear ho hb hg hat))
      go_roundg k2
      case measure => have := HK1.out; have := HK2.out; omega
      case rel => exact ⟨(x11_2), (y411), aZ, H', ⟨by have := HK1.out; have := HK2.out; omega⟩, ⟨aR HO413⟩, ⟨aB BK350⟩, ⟨aB BK351⟩, ⟨aL HB⟩⟩
     rw [if_pos c76] at H; have c76b0 : ((rd l0_1 x11_2) == 1) = true := beq_iff_eq.mpr c76
     have c76b1 : ((rd l0_1 x11_2) != 1) = false := bne_eq_false_iff_eq.mpr c76
     clear c76; replace H := Option.bind_eq_some_iff.mp H; obtain ⟨⟨t400, t401, t402, t403⟩, A770, H⟩ := H; replace H : (if x9_1.length < 4398046511104 then (r3_First.l0 k2 x11_2 a2 (x9_1 ++ [(⟨t400, t401, t402, t403⟩ : S54)]) l0_0 l0_1 a3_0 a3_1 a3_2 a3_3 a3_4 a3_5) else (none)) = some r := H; have A77 := zA.mk A770; clear A770; by_cases c78 : x9_1.length < 4398046511104
     rotate_left
     ·rw [if_neg c78] at H
      exact absurd H (by simp)
     rw [if_pos c78] at H; have LMc78 := zA.mk c78; clear c78; obtain ⟨y404, hy404⟩ : ∃ y_ : List (S54), y_ = (x9_1 ++ [(⟨t400, t401, t402, t403⟩ : S54)]) := ⟨_, rfl⟩; replace H : (r3_First.l0 k2 x11_2 a2 y404 l0_0 l0_1 a3_0 a3_1 a3_2 a3_3 a3_4 a3_5) = some r := by first | (rw [hy404]; with_reducible exact H) | (have H2_ := (Option.bind_some _ _).symm.trans H; rw [hy404]; with_reducible exact H2_) | (have H2_ := (Option.bind_some _ _).symm.trans H; with_reducible exact H2_) | with_reducible exact H | (rw [hy404]; exact H) | exact H
     have Ny404 := zA.mk hy404; clear hy404; have H' := zA.mk H
     clear H; have hnb79 := NB350_351.out; have hnc79 := NB351_350.out; obtain ⟨hcz80_0, hcz80_1, hfz80_0, hfz80_1⟩ := aC2 BK350; have p389 : 0 ≤ (x11_2 : Int) := aD
     have q389 : x11_2 < (l0_1.length : Int) := aD
     obtain ⟨ad389, e389, hx389_0⟩ := Kd.at_int HR0_1.out x11_2 p389 q389; cases e389
     replace hx389_0 := (HB.out.cell (World.block_lt_of_cell? w _ hx389_0)).trans hx389_0; replace p389 := eq_true p389; replace q389 := eq_true q389; have p398 : 0 ≤ (x11_2 : Int) := aD
     have q398 : x11_2 < (l0_1.length : Int) := aD
     obtain ⟨ad398, e398, hx398_0⟩ := Kd.at_int HR0_1.out x11_2 p398 q398; obtain rfl : ad389 = ad398 := (by injection e398)
     replace hx398_0 := (HB.out.cell (World.block_lt_of_cell? w _ hx398_0)).trans hx398_0; replace p398 := eq_true p398; replace q398 := eq_true q398; have p399 : 0 ≤ (x11_2 : Int) := aD
     have q399 : x11_2 < (l0_1.length : Int) := aD
     obtain ⟨ad399, e399, hx399_0⟩ := Kd.at_int HR0_1.out x11_2 p399 q399; obtain rfl : ad389 = ad399 := (by injection e399)
     replace hx399_0 := (HB.out.cell (World.block_lt_of_cell? w _ hx399_0)).trans hx399_0; replace p399 := eq_true p399; replace q399 := eq_true q399; obtain ⟨hcz81_0, hcz81_1, hcz81_2, hcz81_3, hcz81_4, hcz81_5, hfz81_0, hfz81_1, hfz81_2, hfz81_3, hfz81_4, hfz81_5⟩ := aC6 BK351; go_wp2_with (first | ((with_reducible refine gate_callee (f := 24) rfl ?_); refine goesL_ (some 95) rfl rfl Try.func24 (by kernel_rfl) rfl #[.agg #[.slice A0_0 l0_0.length c0_0, .slice (some ad389) l0_1.length c0_1], .int .i64 x1_1, .int .i64 x11_2, .int .u8 (rd l0_1 x11_2), .int .i64 a3_1] rfl aT ?_; (with_reducible refine (r3_Line.calls k2 _ _ l0_0 _ _ l0_1 x1_1 x11_2 (rd l0_1 x11_2) a3_1 t400 t401 t402 t403 _ ?side1 ?side2 ?side3 ?side4 A77.out).mono ?_); (case side1 => exact aA HR0_0 HB); (case side2 => exact HC0_0.out); (case side3 => exact aA HR0_1 HB); (case side4 => exact HC0_1.out); rintro e w82 ⟨rfl, hb⟩; refine ⟨_, rfl, ?_⟩; replace HO_9 := zA.mk (Kd.zR (aR HO_9) hb); replace BK350 := zA.mk (zC (aB BK350) hb); replace BK351 := zA.mk (zC (aB BK351) hb); replace HB := zA.mk (zD (aL HB) hb); (try clear hb); (try clear hb2); (try clear hk); (try clear hi)) | ((with_reducible refine gate_builtin (b := .append) (xs := #[.tmp 88, .tmp 96]) rfl ?_); at_builtin; refine Kd.R_append k54 (w0 := w) w.heap.size rfl (.tmp 88) (.tmp 96) 37 54 (.agg #[(.int .i64 0), (.int .i64 0), (.int .i64 0), (.int .u8 0)]) 32 rfl Try.underlying37 info54 rfl (by decide) (by omega) u9 x9_1 (⟨t400, t401, t402, t403⟩ : S54) [.int .i64 t400, .int .i64 t401, .int .i64 t402, .int .u8 t403] (fun _ => True) (fun _ => False) rfl rfl ?aP (fun _ hk => hk.elim) ?aF ?aO ?aB ?aS ?aL ?_; (case aP => exact k54_mkM _ _ _ (⟨t400, t401, t402, t403⟩ : S54)); (case aB => exact (aL HB)); (case aF => exact (fun _ _ => trivial)); (case aO => exact (aR HO_9)); (case aS => exact (zH (aL HB))); (case aL => have := LMc78.out; omega); intro v405 w83 ho hb hg hat; rw [← Ny404.out] at ho; replace BK350 := zA.mk (blk_grown (g := gb350) (o := .cells #[.slice A0_0 l0_0.length c0_0, .slice (some ad389) l0_1.length c0_1] 31 (0, 0)) (aB BK350) hg (Kd.R_ne HO_9.out BK350.out (by decide))); replace BK351 := zA.mk (blk_grown (g := gb351) (o := .cells #[.int .i64 a3_0, .int .i64 a3_1, .int .u8 a3_2, .int .i64 a3_3, .int .i64 a3_4, .float .f64 a3_5] 35 (0, 0)) (aB BK351) hg (Kd.R_ne HO_9.out BK351.out (by decide))); replace HB := zA.mk (hb); have HO406 := zA.mk (ho); clear HO_9; clear ho hb hg hat))
     go_roundg k2
     case measure => have := HK1.out; have := HK2.out; omega
     case rel => exact ⟨(x11_2), (y404), aZ, H', ⟨by have := HK1.out; have := HK2.out; omega⟩, ⟨aR HO406⟩, ⟨aB BK350⟩, ⟨aB BK351⟩, ⟨aL HB⟩⟩
    rw [if_pos c39] at H; have c39b0 : decide (x11_2 < 0) = true := decide_eq_true c39
    clear c39; obtain ⟨ji40, hji40⟩ : ∃ j_ : Int, (wrap64 (x1_1 + 1)) = j_ := ⟨_, rfl⟩; replace H : (if 0 ≤ (ji40) then (if (ji40) < (l0_1.length : Int) then (if (rd l0_1 (ji40)) = 2 then ((r3_Line.f k2 l0_0 l0_1 x1_1 (ji40) (rd l0_1 (ji40)) a3_1).bind fun bt366 => (if x9_1.length < 4398046511104 then (r3_First.l0 k2 ji40 a2 (x9_1 ++ [(⟨bt366.1, bt366.2.1, bt366.2.2.1, bt366.2.2.2⟩ : S54)]) l0_0 l0_1 a3_0 a3_1 a3_2 a3_3 a3_4 a3_5) else (none))) else (if (rd l0_1 (ji40)) = 1 then ((r3_Line.f k2 l0_0 l0_1 x1_1 (ji40) (rd l0_1 (ji40)) a3_1).bind fun bt375 => (if x9_1.length < 4398046511104 then (r3_First.l0 k2 ji40 a2 (x9_1 ++ [(⟨bt375.1, bt375.2.1, bt375.2.2.1, bt375.2.2.2⟩ : S54)]) l0_0 l0_1 a3_0 a3_1 a3_2 a3_3 a3_4 a3_5) else (none))) else ((r3_Line.f k2 l0_0 l0_1 x1_1 (ji40) 4 a3_1).bind fun bt382 => (if x9_1.length < 4398046511104 then (r3_First.l0 k2 ji40 a2 (x9_1 ++ [(⟨bt382.1, bt382.2.1, bt382.2.2.1, bt382.2.2.2⟩ : S54)]) l0_0 l0_1 a3_0 a3_1 a3_2 a3_3 a3_4 a3_5) else (none))))) else (none)) else (none)) = some r := by first | (rw [hji40] at H; exact H) | (simp only [hji40] at H ⊢; exact H)
    have hji40w : (IntKind.i64.wrap (x1_1 + 1)) = ji40 := (i64_w _).trans hji40
    by_cases c41 : 0 ≤ (ji40)
    rotate_left
    ·rw [if_neg c41] at H
     exact absurd H (by simp)
    rw [if_pos c41] at H; have c41b0 : decide (0 ≤ (ji40)) = true := decide_eq_true c41
    clear c41; by_cases c42 : (ji40) < (l0_1.length : Int)
    rotate_left
    ·rw [if_neg c42] at H
     exact absurd H (by simp)
    rw [if_pos c42] at H; have c42b0 : decide ((ji40) < (l0_1.length : Int)) = true := decide_eq_true c42
    clear c42; by_cases c43 : (rd l0_1 (ji40)) = 2
    ·rw [if_pos c43] at H
     have c43b0 : ((rd l0_1 (ji40)) == 2) = true := beq_iff_eq.mpr c43
     have c43b1 : ((rd l0_1 (ji40)) != 2) = false := bne_eq_false_iff_eq.mpr c43
     clear c43; replace H := Option.bind_eq_some_iff.mp H; obtain ⟨⟨t366, t367, t368, t369⟩, A440, H⟩ := H; replace H : (if x9_1.length < 4398046511104 then (r3_First.l0 k2 ji40 a2 (x9_1 ++ [(⟨t366, t367, t368, t369⟩ : S54)]) l0_0 l0_1 a3_0 a3_1 a3_2 a3_3 a3_4 a3_5) else (none)) = some r := H; have A44 := zA.mk A440; clear A440; by_cases c45 : x9_1.length < 4398046511104
     rotate_left
     ·rw [if_neg c45] at H
      exact absurd H (by simp)
     rw [if_pos c45] at H; have LMc45 := zA.mk c45; clear c45; obtain ⟨y370, hy370⟩ : ∃ y_ : List (S54), y_ = (x9_1 ++ [(⟨t366, t367, t368, t369⟩ : S54)]) := ⟨_, rfl⟩; replace H : (r3_First.l0 k2 ji40 a2 y370 l0_0 l0_1 a3_0 a3_1 a3_2 a3_3 a3_4 a3_5) = some r := by first | (rw [hy370]; with_reducible exact H) | (have H2_ := (Option.bind_some _ _).symm.trans H; rw [hy370]; with_reducible exact H2_) | (have H2_ := (Option.bind_some _ _).symm.trans H; with_reducible exact H2_) | with_reducible exact H | (rw [hy370]; exact H) | exact H
     have Ny370 := zA.mk hy370; clear hy370; have H' := zA.mk H
     clear H; have hnb46 := NB350_351.out; have hnc46 := NB351_350.out; obtain ⟨hcz47_0, hcz47_1, hfz47_0, hfz47_1⟩ := aC2 BK350; have p364 : 0 ≤ ((ji40) : Int) := aD
     have q364 : (ji40) < (l0_1.length : Int) := aD
     obtain ⟨ad364, e364, hx364_0⟩ := Kd.at_int HR0_1.out (ji40) p364 q364; cases e364
     replace hx364_0 := (HB.out.cell (World.block_lt_of_cell? w _ hx364_0)).trans hx364_0; replace p364 := eq_true p364; replace q364 := eq_true q364; have p365 : 0 ≤ ((ji40) : Int) := aD
     have q365 : (ji40) < (l0_1.length : Int) := aD
     obtain ⟨ad365, e365, hx365_0⟩ := Kd.at_int HR0_1.out (ji40) p365 q365; obtain rfl : ad364 = ad365 := (by injection e365)
     replace hx365_0 := (HB.out.cell (World.block_lt_of_cell? w _ hx365_0)).trans hx365_0; replace p365 := eq_true p365; replace q365 := eq_true q365; obtain ⟨hcz48_0, hcz48_1, hcz48_2, hcz48_3, hcz48_4, hcz48_5, hfz48_0, hfz48_1, hfz48_2, hfz48_3, hfz48_4, hfz48_5⟩ := aC6 BK351; go_wp2_with (first | ((with_reducible refine gate_callee (f := 24) rfl ?_); refine goesL_ (some 95) rfl rfl Try.func24 (by kernel_rfl) rfl #[.agg #[.slice A0_0 l0_0.length c0_0, .slice (some ad364) l0_1.length c0_1], .int .i64 x1_1, .int .i64 ji40, .int .u8 (rd l0_1 (ji40)), .int .i64 a3_1] rfl (by (try simp only [List.map_toArray, List.map_cons, List.map_nil]); first | done | (simp only [hji40]; rfl) | rfl | (simp only [List.length_drop, List.length_take]; rfl)) ?_; (with_reducible refine (r3_Line.calls k2 _ _ l0_0 _ _ l0_1 x1_1 ji40 (rd l0_1 (ji40)) a3_1 t366 t367 t368 t369 _ ?side1 ?side2 ?side3 ?side4 A44.out).mono ?_); (case side1 => exact aA HR0_0 HB); (case side2 => exact HC0_0.out); (case side3 => exact aA HR0_1 HB); (case side4 => exact HC0_1.out); rintro e w49 ⟨rfl, hb⟩; refine ⟨_, rfl, ?_⟩; replace HO_9 := zA.mk (Kd.zR (aR HO_9) hb); replace BK350 := zA.mk (zC (aB BK350) hb); replace BK351 := zA.mk (zC (aB BK351) hb); replace HB := zA.mk (zD (aL HB) hb); (try clear hb); (try clear hb2); (try clear hk); (try clear hi)) | ((with_reducible refine gate_builtin (b := .append) (xs := #[.tmp 88, .tmp 96]) rfl ?_); at_builtin; refine Kd.R_append k54 (w0 := w) w.heap.size rfl (.tmp 88) (.tmp 96) 37 54 (.agg #[(.int .i64 0), (.int .i64 0), (.int .i64 0), (.int .u8 0)]) 32 rfl Try.underlying37 info54 rfl (by decide) (by omega) u9 x9_1 (⟨t366, t367, t368, t369⟩ : S54) [.int .i64 t366, .int .i64 t367, .int .i64 t368, .int .u8 t369] (fun _ => True) (fun _ => False) rfl rfl ?aP (fun _ hk => hk.elim) ?aF ?aO ?aB ?aS ?aL ?_; (case aP => exact k54_mkM _ _ _ (⟨t366, t367, t368, t369⟩ : S54)); (case aB => exact (aL HB)); (case aF => exact (fun _ _ => trivial)); (case aO => exact (aR HO_9)); (case aS => exact (zH (aL HB))); (case aL => have := LMc45.out; omega); intro v371 w50 ho hb hg hat; rw [← Ny370.out] at ho; replace BK350 := zA.mk (blk_grown (g := gb350) (o := .cells #[.slice A0_0 l0_0.length c0_0, .slice (some ad364) l0_1.length c0_1] 31 (0, 0)) (aB BK350) hg (Kd.R_ne HO_9.out BK350.out (by decide))); replace BK351 := zA.mk (blk_grown (g := gb351) (o := .cells #[.int .i64 a3_0, .int .i64 a3_1, .int .u8 a3_2, .int .i64 a3_3, .int .i64 a3_4, .float .f64 a3_5] 35 (0, 0)) (aB BK351) hg (Kd.R_ne HO_9.out BK351.out (by decide))); replace HB := zA.mk (hb); have HO372 := zA.mk (ho); clear HO_9; clear ho hb hg hat))
     go_roundg k2
     case measure => have := HK1.out; have := HK2.out; omega
     case rel => exact ⟨(ji40), (y370), (by first | rfl | (simp; done) | (simp only [← hji40] <;> (first | rfl | simp)) | (simp [*]; done)), H', ⟨by have := HK1.out; have := HK2.out; omega⟩, ⟨aR HO372⟩, ⟨aB BK350⟩, ⟨aB BK351⟩, ⟨aL HB⟩⟩
    rw [if_neg c43] at H; have c43b0 : ((rd l0_1 (ji40)) == 2) = false := beq_eq_false_iff_ne.mpr c43
    have c43b1 : ((rd l0_1 (ji40)) != 2) = true := bne_iff_ne.mpr c43
    by_cases c51 : (rd l0_1 (ji40)) = 1
    rotate_left
    ·rw [if_neg c51] at H
     have c51b0 : ((rd l0_1 (ji40)) == 1) = false := beq_eq_false_iff_ne.mpr c51
     have c51b1 : ((rd l0_1 (ji40)) != 1) = true := bne_iff_ne.mpr c51
     replace H := Option.bind_eq_some_iff.mp H; obtain ⟨⟨t382, t383, t384, t385⟩, A590, H⟩ := H; replace H : (if x9_1.length < 4398046511104 then (r3_First.l0 k2 ji40 a2 (x9_1 ++ [(⟨t382, t383, t384, t385⟩ : S54)]) l0_0 l0_1 a3_0 a3_1 a3_2 a3_3 a3_4 a3_5) else (none)) = some r := H; have A59 := zA.mk A590; clear A590; by_cases c60 : x9_1.length < 4398046511104
     rotate_left
     ·rw [if_neg c60] at H
      exact absurd H (by simp)
     rw [if_pos c60] at H; have LMc60 := zA.mk c60; clear c60; obtain ⟨y386, hy386⟩ : ∃ y_ : List (S54), y_ = (x9_1 ++ [(⟨t382, t383, t384, t385⟩ : S54)]) := ⟨_, rfl⟩; replace H : (r3_First.l0 k2 ji40 a2 y386 l0_0 l0_1 a3_0 a3_1 a3_2 a3_3 a3_4 a3_5) = some r := by first | (rw [hy386]; with_reducible exact H) | (have H2_ := (Option.bind_some _ _).symm.trans H; rw [hy386]; with_reducible exact H2_) | (have H2_ := (Option.bind_some _ _).symm.trans H; with_reducible exact H2_) | with_reducible exact H | (rw [hy386]; exact H) | exact H
     have Ny386 := zA.mk hy386; clear hy386; have H' := zA.mk H
     clear H; have hnb61 := NB350_351.out; have hnc61 := NB351_350.out; obtain ⟨hcz62_0, hcz62_1, hfz62_0, hfz62_1⟩ := aC2 BK350; have p364 : 0 ≤ ((ji40) : Int) := aD
     have q364 : (ji40) < (l0_1.length : Int) := aD
     obtain ⟨ad364, e364, hx364_0⟩ := Kd.at_int HR0_1.out (ji40) p364 q364; cases e364
     replace hx364_0 := (HB.out.cell (World.block_lt_of_cell? w _ hx364_0)).trans hx364_0; replace p364 := eq_true p364; replace q364 := eq_true q364; have p373 : 0 ≤ ((ji40) : Int) := aD
     have q373 : (ji40) < (l0_1.length : Int) := aD
     obtain ⟨ad373, e373, hx373_0⟩ := Kd.at_int HR0_1.out (ji40) p373 q373; obtain rfl : ad364 = ad373 := (by injection e373)
     replace hx373_0 := (HB.out.cell (World.block_lt_of_cell? w _ hx373_0)).trans hx373_0; replace p373 := eq_true p373; replace q373 := eq_true q373; obtain ⟨hcz63_0, hcz63_1, hcz63_2, hcz63_3, hcz63_4, hcz63_5, hfz63_0, hfz63_1, hfz63_2, hfz63_3, hfz63_4, hfz63_5⟩ := aC6 BK351; go_wp2_with (first | ((with_reducible refine gate_callee (f := 24) rfl ?_); refine goesL_ (some 95) rfl rfl Try.func24 (by kernel_rfl) rfl #[.agg #[.slice A0_0 l0_0.length c0_0, .slice (some ad364) l0_1.length c0_1], .int .i64 x1_1, .int .i64 ji40, .int .u8 4, .int .i64 a3_1] rfl (by (try simp only [List.map_toArray, List.map_cons, List.map_nil]); first | done | (simp only [hji40]; rfl) | rfl | (simp only [List.length_drop, List.length_take]; rfl)) ?_; (with_reducible refine (r3_Line.calls k2 _ _ l0_0 _ _ l0_1 x1_1 ji40 4 a3_1 t382 t383 t384 t385 _ ?side1 ?side2 ?side3 ?side4 A59.out).mono ?_); (case side1 => exact aA HR0_0 HB); (case side2 => exact HC0_0.out); (case side3 => exact aA HR0_1 HB); (case side4 => exact HC0_1.out); rintro e w64 ⟨rfl, hb⟩; refine ⟨_, rfl, ?_⟩; replace HO_9 := zA.mk (Kd.zR (aR HO_9) hb); replace BK350 := zA.mk (zC (aB BK350) hb); replace BK351 := zA.mk (zC (aB BK351) hb); replace HB := zA.mk (zD (aL HB) hb); (try clear hb); (try clear hb2); (try clear hk); (try clear hi)) | ((with_reducible refine gate_builtin (b := .append) (xs := #[.tmp 88, .tmp 96]) rfl ?_); at_builtin; refine Kd.R_append k54 (w0 := w) w.heap.size rfl (.tmp 88) (.tmp 96) 37 54 (.agg #[(.int .i64 0), (.int .i64 0), (.int .i64 0), (.int .u8 0)]) 32 rfl Try.underlying37 info54 rfl (by decide) (by omega) u9 x9_1 (⟨t382, t383, t384, t385⟩ : S54) [.int .i64 t382, .int .i64 t383, .int .i64 t384, .int .u8 t385] (fun _ => True) (fun _ => False) rfl rfl ?aP (fun _ hk => hk.elim) ?aF ?aO ?aB ?aS ?aL ?_; (case aP => exact k54_mkM _ _ _ (⟨t382, t383, t384, t385⟩ : S54)); (case aB => exact (aL HB)); (case aF => exact (fun _ _ => trivial)); (case aO => exact (aR HO_9)); (case aS => exact (zH (aL HB))); (case aL => have := LMc60.out; omega); intro v387 w65 ho hb hg hat; rw [← Ny386.out] at ho; replace BK350 := zA.mk (blk_grown (g := gb350) (o := .cells #[.slice A0_0 l0_0.length c0_0, .slice (some ad364) l0_1.length c0_1] 31 (0, 0)) (aB BK350) hg (Kd.R_ne HO_9.out BK350.out (by decide))); replace BK351 := zA.mk (blk_grown (g := gb351) (o := .cells #[.int .i64 a3_0, .int .i64 a3_1, .int .u8 a3_2, .int .i64 a3_3, .int .i64 a3_4, .float .f64 a3_5] 35 (0, 0)) (aB BK351) hg (Kd.R_ne HO_9.out BK351.out (by decide))); replace HB := zA.mk (hb); have HO388 := zA.mk (ho); clear HO_9; clear ho hb hg hat))
     go_roundg k2
     case measure => have := HK1.out; have := HK2.out; omega
     case rel => exact ⟨(ji40), (y386), (by first | rfl | (simp; done) | (simp only [← hji40] <;> (first | rfl | simp)) | (simp [*]; done)), H', ⟨by have := HK1.out; have := HK2.out; omega⟩, ⟨aR HO388⟩, ⟨aB BK350⟩, ⟨aB BK351⟩, ⟨aL HB⟩⟩
    rw [if_pos c51] at H; have c51b0 : ((rd l0_1 (ji40)) == 1) = true := beq_iff_eq.mpr c51
    have c51b1 : ((rd l0_1 (ji40)) != 1) = false := bne_eq_false_iff_eq.mpr c51
    clear c51; replace H := Option.bind_eq_some_iff.mp H; obtain ⟨⟨t375, t376, t377, t378⟩, A520, H⟩ := H; replace H : (if x9_1.length < 4398046511104 then (r3_First.l0 k2 ji40 a2 (x9_1 ++ [(⟨t375, t376, t377, t378⟩ : S54)]) l0_0 l0_1 a3_0 a3_1 a3_2 a3_3 a3_4 a3_5) else (none)) = some r := H; have A52 := zA.mk A520; clear A520; by_cases c53 : x9_1.length < 4398046511104
    rotate_left
    ·rw [if_neg c53] at H
     exact absurd H (by simp)
    rw [if_pos c53] at H; have LMc53 := zA.mk c53; clear c53; obtain ⟨y379, hy379⟩ : ∃ y_ : List (S54), y_ = (x9_1 ++ [(⟨t375, t376, t377, t378⟩ : S54)]) := ⟨_, rfl⟩; replace H : (r3_First.l0 k2 ji40 a2 y379 l0_0 l0_1 a3_0 a3_1 a3_2 a3_3 a3_4 a3_5) = some r := by first | (rw [hy379]; with_reducible exact H) | (have H2_ := (Option.bind_some _ _).symm.trans H; rw [hy379]; with_reducible exact H2_) | (have H2_ := (Option.bind_some _ _).symm.trans H; with_reducible exact H2_) | with_reducible exact H | (rw [hy379]; exact H) | exact H
    have Ny379 := zA.mk hy379; clear hy379; have H' := zA.mk H
    clear H; have hnb54 := NB350_351.out; have hnc54 := NB351_350.out; obtain ⟨hcz55_0, hcz55_1, hfz55_0, hfz55_1⟩ := aC2 BK350; have p364 : 0 ≤ ((ji40) : Int) := aD
    have q364 : (ji40) < (l0_1.length : Int) := aD
    obtain ⟨ad364, e364, hx364_0⟩ := Kd.at_int HR0_1.out (ji40) p364 q364; cases e364
    replace hx364_0 := (HB.out.cell (World.block_lt_of_cell? w _ hx364_0)).trans hx364_0; replace p364 := eq_true p364; replace q364 := eq_true q364; have p373 : 0 ≤ ((ji40) : Int) := aD
    have q373 : (ji40) < (l0_1.length : Int) := aD
    obtain ⟨ad373, e373, hx373_0⟩ := Kd.at_int HR0_1.out (ji40) p373 q373; obtain rfl : ad364 = ad373 := (by injection e373)
    replace hx373_0 := (HB.out.cell (World.block_lt_of_cell? w _ hx373_0)).trans hx373_0; replace p373 := eq_true p373; replace q373 := eq_true q373; have p374 : 0 ≤ ((ji40) : Int) := aD
    have q374 : (ji40) < (l0_1.length : Int) := aD
    obtain ⟨ad374, e374, hx374_0⟩ := Kd.at_int HR0_1.out (ji40) p374 q374; obtain rfl : ad364 = ad374 := (by injection e374)
    replace hx374_0 := (HB.out.cell (World.block_lt_of_cell? w _ hx374_0)).trans hx374_0; replace p374 := eq_true p374; replace q374 := eq_true q374; obtain ⟨hcz56_0, hcz56_1, hcz56_2, hcz56_3, hcz56_4, hcz56_5, hfz56_0, hfz56_1, hfz56_2, hfz56_3, hfz56_4, hfz56_5⟩ := aC6 BK351; go_wp2_with (first | ((with_reducible refine gate_callee (f := 24) rfl ?_); refine goesL_ (some 95) rfl rfl Try.func24 (by kernel_rfl) rfl #[.agg #[.slice A0_0 l0_0.length c0_0, .slice (some ad364) l0_1.length c0_1], .int .i64 x1_1, .int .i64 ji40, .int .u8 (rd l0_1 (ji40)), .int .i64 a3_1] rfl (by (try simp only [List.map_toArray, List.map_cons, List.map_nil]); first | done | (simp only [hji40]; rfl) | rfl | (simp only [List.length_drop, List.length_take]; rfl)) ?_; (with_reducible refine (r3_Line.calls k2 _ _ l0_0 _ _ l0_1 x1_1 ji40 (rd l0_1 (ji40)) a3_1 t375 t376 t377 t378 _ ?side1 ?side2 ?side3 ?side4 A52.out).mono ?_); (case side1 => exact aA HR0_0 HB); (case side2 => exact HC0_0.out); (case side3 => exact aA HR0_1 HB); (case side4 => exact HC0_1.out); rintro e w57 ⟨rfl, hb⟩; refine ⟨_, rfl, ?_⟩; replace HO_9 := zA.mk (Kd.zR (aR HO_9) hb); replace BK350 := zA.mk (zC (aB BK350) hb); replace BK351 := zA.mk (zC (aB BK351) hb); replace HB := zA.mk (zD (aL HB) hb); (try clear hb); (try clear hb2); (try clear hk); (try clear hi)) | ((with_reducible refine gate_builtin (b := .append) (xs := #[.tmp 88, .tmp 96]) rfl ?_); at_builtin; refine Kd.R_append k54 (w0 := w) w.heap.size rfl (.tmp 88) (.tmp 96) 37 54 (.agg #[(.int .i64 0), (.int .i64 0), (.int .i64 0), (.int .u8 0)]) 32 rfl Try.underlying37 info54 rfl (by decide) (by omega) u9 x9_1 (⟨t375, t376, t377, t378⟩ : S54) [.int .i64 t375, .int .i64 t376, .int .i64 t377, .int .u8 t378] (fun _ => True) (fun _ => False) rfl rfl ?aP (fun _ hk => hk.elim) ?aF ?aO ?aB ?aS ?aL ?_; (case aP => exact k54_mkM _ _ _ (⟨t375, t376, t377, t378⟩ : S54)); (case aB => exact (aL HB)); (case aF => exact (fun _ _ => trivial)); (case aO => exact (aR HO_9)); (case aS => exact (zH (aL HB))); (case aL => have := LMc53.out; omega); intro v380 w58 ho hb hg hat; rw [← Ny379.out] at ho; replace BK350 := zA.mk (blk_grown (g := gb350) (o := .cells #[.slice A0_0 l0_0.length c0_0, .slice (some ad364) l0_1.length c0_1] 31 (0, 0)) (aB BK350) hg (Kd.R_ne HO_9.out BK350.out (by decide))); replace BK351 := zA.mk (blk_grown (g := gb351) (o := .cells #[.int .i64 a3_0, .int .i64 a3_1, .int .u8 a3_2, .int .i64 a3_3, .int .i64 a3_4, .float .f64 a3_5] 35 (0, 0)) (aB BK351) hg (Kd.R_ne HO_9.out BK351.out (by decide))); replace HB := zA.mk (hb); have HO381 := zA.mk (ho); clear HO_9; clear ho hb hg hat))
    go_roundg k2
    case measure => have := HK1.out; have := HK2.out; omega
    case rel => exact ⟨(ji40), (y379), (by first | rfl | (simp; done) | (simp only [← hji40] <;> (first | rfl | simp)) | (simp [*]; done)), H', ⟨by have := HK1.out; have := HK2.out; omega⟩, ⟨aR HO381⟩, ⟨aB BK350⟩, ⟨aB BK351⟩, ⟨aL HB⟩⟩
   rw [if_pos c8] at H; have c8b0 : decide (x12_2 ≤ a2) = true := decide_eq_true c8
   clear c8; replace H := Option.bind_eq_some_iff.mp H; obtain ⟨t352, A90, H⟩ := H; replace H : (if t352 ≤ a3_0 then (if 0 ≤ x12_2 then (if x12_2 < (l0_1.length : Int) then (if (rd l0_1 x12_2) = 0 then (r3_First.l1 k2 x1_1 a2 x9_1 x10_2 x12_2 (wrap64 (x12_2 + 1)) l0_0 l0_1 a3_0 a3_1 a3_2 a3_3 a3_4 a3_5) else ((r3_Cells.f k2 l0_0 l0_1 x1_1 x12_2 (rd l0_1 x12_2) a3_1).bind fun t355 => (if t355 ≤ a3_0 then (r3_First.l1 k2 x1_1 a2 x9_1 x12_2 x12_2 (wrap64 (x12_2 + 1)) l0_0 l0_1 a3_0 a3_1 a3_2 a3_3 a3_4 a3_5) else (r3_First.l1 k2 x1_1 a2 x9_1 x10_2 x12_2 (wrap64 (x12_2 + 1)) l0_0 l0_1 a3_0 a3_1 a3_2 a3_3 a3_4 a3_5)))) else (none)) else (none)) else (r3_First.l1 k2 x1_1 a2 x9_1 x10_2 x11_2 (wrap64 (x12_2 + 1)) l0_0 l0_1 a3_0 a3_1 a3_2 a3_3 a3_4 a3_5)) = some r := H
   have A9 := zA.mk A90; clear A90; by_cases c10 : t352 ≤ a3_0
   rotate_left
   ·rw [if_neg c10] at H
    have c10b0 : decide (t352 ≤ a3_0) = false := decide_eq_false c10
    clear c10; have H' := zA.mk H
    clear H; try go_wp2
    replace HO_9 := zA.mk (Kd.zL HO_9.out); replace BK350 := zA.mk (zF BK350.out); replace BK351 := zA.mk (zF BK351.out); replace HB := zA.mk (below_drew1 HB.out); refine start_ (n := 9) (S := fun w' => w'.cell? ⟨gb350, 0, none⟩ = some (.slice A0_0 l0_0.length c0_0) ∧ w'.cell? ⟨gb350, 1, none⟩ = some (.slice A0_1 l0_1.length c0_1) ∧ w'.cell? ⟨gb351, 0, none⟩ = some (.int .i64 a3_0) ∧ w'.cell? ⟨gb351, 1, none⟩ = some (.int .i64 a3_1) ∧ w'.cell? ⟨gb351, 2, none⟩ = some (.int .u8 a3_2) ∧ w'.cell? ⟨gb351, 3, none⟩ = some (.int .i64 a3_3) ∧ w'.cell? ⟨gb351, 4, none⟩ = some (.int .i64 a3_4) ∧ w'.cell? ⟨gb351, 5, none⟩ = some (.float .f64 a3_5)) (ds := []) #[false, false, false, false, false, false, false, false, false] (by kernel_rfl) rfl rfl ⟨(zB BK350.out 0).trans rfl, (zB BK350.out 1).trans rfl, (zB BK351.out 0).trans rfl, (zB BK351.out 1).trans rfl, (zB BK351.out 2).trans rfl, (zB BK351.out 3).trans rfl, (zB BK351.out 4).trans rfl, (zB BK351.out 5).trans rfl⟩ (fun hHeld => ?_); refine with_tabW r3_First.tab7 r3_First.bits7 (fun HT_ HW_ => ?_)
    generalize wr.drew = w27 at HO_9 BK350 BK351 HB hHeld ⊢
    refine aP 1 (some 25) (tb_ 2 9) HT_ ?_
    refine aP 2 (some 26) (tb_ 6 9) HT_ ?_
    refine aP 3 (some 27) (tb_ 14 9) HT_ ?_
    refine aP 6 (some 30) (tb_ 78 9) HT_ ?_
    refine take_ (i := 0) (N := some 24) (v := ?_) (a' := ?_) (tb_ 79 9) rfl rfl (take_ofW HT_.out HW_.out (by kernel_rfl)) (fun _ _ _ h => h) (Or.inl ⟨by rfl, ?_⟩) hHeld ?_ ?_
    rotate_left
    ·rintro w' ⟨s0, s1, s2, s3, s4, s5, s6, s7⟩
     go_simp
     with_reducible rfl
    rotate_left
    ·simp only [Act.put, sA_, sB_, sC_, i64_w, i32_w]
     rfl
    refine take_ (i := 4) (N := some 28) (v := ?_) (a' := ?_) (tb_ 95 9) rfl rfl (take_ofW HT_.out HW_.out (by kernel_rfl)) (fun _ _ _ h => h) (Or.inl ⟨by rfl, ?_⟩) hHeld ?_ ?_
    rotate_left
    ·rintro w' ⟨s0, s1, s2, s3, s4, s5, s6, s7⟩
     go_simp
     with_reducible rfl
    rotate_left
    ·simp only [Act.put, sA_, sB_, sC_, i64_w, i32_w]
     rfl
    refine take_ (i := 7) (N := some 31) (v := ?_) (a' := ?_) (tb_ 223 9) rfl rfl (take_ofW HT_.out HW_.out (by kernel_rfl)) (fun _ _ _ h => h) (Or.inl ⟨by rfl, ?_⟩) hHeld ?_ ?_
    rotate_left
    ·rintro w' ⟨s0, s1, s2, s3, s4, s5, s6, s7⟩
     go_simp
     with_reducible rfl
    rotate_left
    ·simp only [Act.put, sA_, sB_, sC_, i64_w, i32_w]
     rfl
    refine one_ (i := 5) (N := some 29) (tb_ 255 9) rfl rfl (one_of HT_.out (by kernel_rfl)) (by decide) (fun K hK => ?_)
    refine goes_ Try.func32 (by kernel_rfl) rfl #[.agg #[.slice A0_0 l0_0.length c0_0, .slice A0_1 l0_1.length c0_1], .int .i64 x1_1, .int .i64 x12_2, .int .u8 0, .int .i64 a3_1] (by rfl) rfl rfl aT ?_
    with_reducible refine (r3_Cells.calls k2 _ _ l0_0 _ _ l0_1 x1_1 x12_2 0 a3_1 t352 _ ?side1 ?side2 ?side3 ?side4 A9.out).mono ?_
    (case side1 => exact aA HR0_0 HB)
    (case side2 => exact HC0_0.out)
    (case side3 => exact aA HR0_1 HB)
    (case side4 => exact HC0_1.out)
    rintro e w28 ⟨rfl, hb⟩
    refine ⟨_, rfl, ?_⟩
    replace HO_9 := zA.mk (Kd.zR (aR HO_9) hb); replace BK350 := zA.mk (zC (aB BK350) hb); replace BK351 := zA.mk (zC (aB BK351) hb); replace HB := zA.mk (zD (aL HB) hb); (try clear hb)
    (try clear hb2)
    (try clear hk)
    (try clear hi)
    refine hK.out _ _ ⟨(zB BK350.out 0).trans rfl, (zB BK350.out 1).trans rfl, (zB BK351.out 0).trans rfl, (zB BK351.out 1).trans rfl, (zB BK351.out 2).trans rfl, (zB BK351.out 3).trans rfl, (zB BK351.out 4).trans rfl, (zB BK351.out 5).trans rfl⟩ (fun hHeld => ?_)
    clear hK K; refine norm_ (a' := ?_) ?_ ?_
    rotate_left
    ·show Act.put _ (some 29) _ = _
     simp only [Act.put, sA_, sB_, sC_, i64_w, i32_w]; rfl
    refine aP 8 (some 32) (tb_ 511 9) HT_ ?_
    refine done_ (done_of HT_.out (by kernel_rfl)) ?_
    try go_wp2
    go_roundg k2
    case measure => have := HK1.out; have := HK2.out; omega
    case rel => exact ⟨(x10_2), (x11_2), (wrap64 (x12_2 + 1)), aZ, aZ, aZ, H', ⟨by have := HK1.out; have := HK2.out; omega⟩, ⟨aR HO_9⟩, ⟨aB BK350⟩, ⟨aB BK351⟩, ⟨aL HB⟩⟩
   rw [if_pos c10] at H; have c10b0 : decide (t352 ≤ a3_0) = true := decide_eq_true c10
   clear c10; by_cases c11 : 0 ≤ x12_2
   rotate_left
   ·rw [if_neg c11] at H
    exact absurd H (by simp)
   rw [if_pos c11] at H; have c11b0 : decide (0 ≤ x12_2) = true := decide_eq_true c11
   clear c11; by_cases c12 : x12_2 < (l0_1.length : Int)
   rotate_left
   ·rw [if_neg c12] at H
    exact absurd H (by simp)
   rw [if_pos c12] at H; have c12b0 : decide (x12_2 < (l0_1.length : Int)) = true := decide_eq_true c12
   clear c12; by_cases c13 : (rd l0_1 x12_2) = 0
   ·rw [if_pos c13] at H
    have c13b0 : ((rd l0_1 x12_2) == 0) = true := beq_iff_eq.mpr c13
    have c13b1 : ((rd l0_1 x12_2) != 0) = false := bne_eq_false_iff_eq.mpr c13
    clear c13; have H' := zA.mk H
    clear H; try go_wp2
    replace HO_9 := zA.mk (Kd.zL HO_9.out); replace BK350 := zA.mk (zF BK350.out); replace BK351 := zA.mk (zF BK351.out); replace HB := zA.mk (below_drew1 HB.out); refine start_ (n := 9) (S := fun w' => w'.cell? ⟨gb350, 0, none⟩ = some (.slice A0_0 l0_0.length c0_0) ∧ w'.cell? ⟨gb350, 1, none⟩ = some (.slice A0_1 l0_1.length c0_1) ∧ w'.cell? ⟨gb351, 0, none⟩ = some (.int .i64 a3_0) ∧ w'.cell? ⟨gb351, 1, none⟩ = some (.int .i64 a3_1) ∧ w'.cell? ⟨gb351, 2, none⟩ = some (.int .u8 a3_2) ∧ w'.cell? ⟨gb351, 3, none⟩ = some (.int .i64 a3_3) ∧ w'.cell? ⟨gb351, 4, none⟩ = some (.int .i64 a3_4) ∧ w'.cell? ⟨gb351, 5, none⟩ = some (.float .f64 a3_5)) (ds := []) #[false, false, false, false, false, false, false, false, false] (by kernel_rfl) rfl rfl ⟨(zB BK350.out 0).trans rfl, (zB BK350.out 1).trans rfl, (zB BK351.out 0).trans rfl, (zB BK351.out 1).trans rfl, (zB BK351.out 2).trans rfl, (zB BK351.out 3).trans rfl, (zB BK351.out 4).trans rfl, (zB BK351.out 5).trans rfl⟩ (fun hHeld => ?_); refine with_tabW r3_First.tab7 r3_First.bits7 (fun HT_ HW_ => ?_)
    generalize wr.drew = w14 at HO_9 BK350 BK351 HB hHeld ⊢
    refine aP 1 (some 25) (tb_ 2 9) HT_ ?_
    refine aP 2 (some 26) (tb_ 6 9) HT_ ?_
    refine aP 3 (some 27) (tb_ 14 9) HT_ ?_
    refine aP 6 (some 30) (tb_ 78 9) HT_ ?_
    refine take_ (i := 0) (N := some 24) (v := ?_) (a' := ?_) (tb_ 79 9) rfl rfl (take_ofW HT_.out HW_.out (by kernel_rfl)) (fun _ _ _ h => h) (Or.inl ⟨by rfl, ?_⟩) hHeld ?_ ?_
    rotate_left
    ·rintro w' ⟨s0, s1, s2, s3, s4, s5, s6, s7⟩
     go_simp
     with_reducible rfl
    rotate_left
    ·simp only [Act.put, sA_, sB_, sC_, i64_w, i32_w]
     rfl
    refine take_ (i := 4) (N := some 28) (v := ?_) (a' := ?_) (tb_ 95 9) rfl rfl (take_ofW HT_.out HW_.out (by kernel_rfl)) (fun _ _ _ h => h) (Or.inl ⟨by rfl, ?_⟩) hHeld ?_ ?_
    rotate_left
    ·rintro w' ⟨s0, s1, s2, s3, s4, s5, s6, s7⟩
     go_simp
     with_reducible rfl
    rotate_left
    ·simp only [Act.put, sA_, sB_, sC_, i64_w, i32_w]
     rfl
    refine take_ (i := 7) (N := some 31) (v := ?_) (a' := ?_) (tb_ 223 9) rfl rfl (take_ofW HT_.out HW_.out (by kernel_rfl)) (fun _ _ _ h => h) (Or.inl ⟨by rfl, ?_⟩) hHeld ?_ ?_
    rotate_left
    ·rintro w' ⟨s0, s1, s2, s3, s4, s5, s6, s7⟩
     go_simp
     with_reducible rfl
    rotate_left
    ·simp only [Act.put, sA_, sB_, sC_, i64_w, i32_w]
     rfl
    refine one_ (i := 5) (N := some 29) (tb_ 255 9) rfl rfl (one_of HT_.out (by kernel_rfl)) (by decide) (fun K hK => ?_)
    refine goes_ Try.func32 (by kernel_rfl) rfl #[.agg #[.slice A0_0 l0_0.length c0_0, .slice A0_1 l0_1.length c0_1], .int .i64 x1_1, .int .i64 x12_2, .int .u8 0, .int .i64 a3_1] (by rfl) rfl rfl aT ?_
    with_reducible refine (r3_Cells.calls k2 _ _ l0_0 _ _ l0_1 x1_1 x12_2 0 a3_1 t352 _ ?side1 ?side2 ?side3 ?side4 A9.out).mono ?_
    (case side1 => exact aA HR0_0 HB)
    (case side2 => exact HC0_0.out)
    (case side3 => exact aA HR0_1 HB)
    (case side4 => exact HC0_1.out)
    rintro e w15 ⟨rfl, hb⟩
    refine ⟨_, rfl, ?_⟩
    replace HO_9 := zA.mk (Kd.zR (aR HO_9) hb); replace BK350 := zA.mk (zC (aB BK350) hb); replace BK351 := zA.mk (zC (aB BK351) hb); replace HB := zA.mk (zD (aL HB) hb); (try clear hb)
    (try clear hb2)
    (try clear hk)
    (try clear hi)
    refine hK.out _ _ ⟨(zB BK350.out 0).trans rfl, (zB BK350.out 1).trans rfl, (zB BK351.out 0).trans rfl, (zB BK351.out 1).trans rfl, (zB BK351.out 2).trans rfl, (zB BK351.out 3).trans rfl, (zB BK351.out 4).trans rfl, (zB BK351.out 5).trans rfl⟩ (fun hHeld => ?_)
    clear hK K; refine norm_ (a' := ?_) ?_ ?_
    rotate_left
    ·show Act.put _ (some 29) _ = _
     simp only [Act.put, sA_, sB_, sC_, i64_w, i32_w]; rfl
    refine aP 8 (some 32) (tb_ 511 9) HT_ ?_
    refine done_ (done_of HT_.out (by kernel_rfl)) ?_
    try go_wp2
    replace HO_9 := zA.mk (Kd.zL HO_9.out); replace BK350 := zA.mk (zF BK350.out); replace BK351 := zA.mk (zF BK351.out); replace HB := zA.mk (below_drew1 HB.out); have p353 : 0 ≤ (x12_2 : Int) := aD
    have q353 : x12_2 < (l0_1.length : Int) := aD
    obtain ⟨ad353, e353, hx353_0⟩ := Kd.at_int HR0_1.out x12_2 p353 q353; have hw353_0 := hx353_0; cases e353
    replace hx353_0 := (HB.out.cell (World.block_lt_of_cell? w _ hx353_0)).trans hx353_0; replace p353 := eq_true p353; replace q353 := eq_true q353; refine start_ (n := 22) (S := fun w' => w'.cell? ⟨gb350, 0, none⟩ = some (.slice A0_0 l0_0.length c0_0) ∧ w'.cell? ⟨gb350, 1, none⟩ = some (.slice (some ad353) l0_1.length c0_1) ∧ w'.cell? (ad353.add (x12_2).toNat) = some (.int .u8 (rd l0_1 x12_2))) (ds := []) #[false, false, false, false, false, false, false, false, false, false, false, false, false, false, false, false, false, false, false, false, false, false] (by kernel_rfl) rfl rfl ⟨(zB BK350.out 0).trans rfl, (zB BK350.out 1).trans rfl, ((HB.out.cell (World.block_lt_of_cell? w _ hw353_0)).trans hw353_0)⟩ (fun hHeld => ?_); refine with_tabW r3_First.tab9 r3_First.bits9 (fun HT_ HW_ => ?_)
    generalize w15.drew = w16 at HO_9 BK350 BK351 HB hx353_0 hHeld ⊢
    refine aP 0 (some 34) (tf_ 1 22) HT_ ?_
    refine aP 2 (some 36) (tb_ 5 22) HT_ ?_
    refine take_ (i := 1) (N := some 35) (v := ?_) (a' := ?_) (tf_ 3 22) rfl rfl (take_ofW HT_.out HW_.out (by kernel_rfl)) (fun _ _ _ h => h) (Or.inl ⟨by rfl, ?_⟩) hHeld ?_ ?_
    rotate_left
    ·rintro w' ⟨s0, s1, s2⟩
     go_simp
     with_reducible rfl
    rotate_left
    ·simp only [Act.put, sA_, sB_, sC_, i64_w, i32_w]
     rfl
    refine aP 3 (some 37) (tf_ 4 22) HT_ ?_
    refine take_ (i := 4) (N := some 38) (v := ?_) (a' := ?_) (tf_ 5 22) rfl rfl (take_ofW HT_.out HW_.out (by kernel_rfl)) (fun _ _ _ h => h) (Or.inl ⟨by rfl, ?_⟩) hHeld ?_ ?_
    rotate_left
    ·rintro w' ⟨s0, s1, s2⟩
     go_simp
     with_reducible rfl
    rotate_left
    ·simp only [Act.put, sA_, sB_, sC_, i64_w, i32_w]
     rfl
    refine aP 5 (some 39) (tf_ 6 22) HT_ ?_
    refine aP 6 (some 40) (tf_ 7 22) HT_ ?_
    refine pure_ (i := 7) (N := some 41) (v := undef) (a' := ?_) (tf_ 8 22) rfl rfl (any_of HT_.out (by kernel_rfl)) (fun _ _ _ h => h) (Or.inr ⟨by rfl, rfl⟩) ?_ ?_
    rotate_left
    ·simp only [Act.put, sA_, sB_, sC_, i64_w, i32_w]
     rfl
    refine pure_ (i := 8) (N := some 42) (v := undef) (a' := ?_) (tf_ 9 22) rfl rfl (any_of HT_.out (by kernel_rfl)) (fun _ _ _ h => h) (Or.inr ⟨by rfl, rfl⟩) ?_ ?_
    rotate_left
    ·simp only [Act.put, sA_, sB_, sC_, i64_w, i32_w]
     rfl
    refine pure_ (i := 9) (N := some 43) (v := undef) (a' := ?_) (tf_ 10 22) rfl rfl (any_of HT_.out (by kernel_rfl)) (fun _ _ _ h => h) (Or.inr ⟨by rfl, rfl⟩) ?_ ?_
    rotate_left
    ·simp only [Act.put, sA_, sB_, sC_, i64_w, i32_w]
     rfl
    refine pure_ (i := 10) (N := some 44) (v := undef) (a' := ?_) (tf_ 11 22) rfl rfl (any_of HT_.out (by kernel_rfl)) (fun _ _ _ h => h) (Or.inr ⟨by rfl, rfl⟩) ?_ ?_
    rotate_left
    ·simp only [Act.put, sA_, sB_, sC_, i64_w, i32_w]
     rfl
    refine pure_ (i := 11) (N := some 45) (v := undef) (a' := ?_) (tf_ 12 22) rfl rfl (any_of HT_.out (by kernel_rfl)) (fun _ _ _ h => h) (Or.inr ⟨by rfl, rfl⟩) ?_ ?_
    rotate_left
    ·simp only [Act.put, sA_, sB_, sC_, i64_w, i32_w]
     rfl
    refine pure_ (i := 12) (N := some 46) (v := undef) (a' := ?_) (tf_ 13 22) rfl rfl (any_of HT_.out (by kernel_rfl)) (fun _ _ _ h => h) (Or.inr ⟨by rfl, rfl⟩) ?_ ?_
    rotate_left
    ·simp only [Act.put, sA_, sB_, sC_, i64_w, i32_w]
     rfl
    refine pure_ (i := 13) (N := some 47) (v := undef) (a' := ?_) (tf_ 14 22) rfl rfl (any_of HT_.out (by kernel_rfl)) (fun _ _ _ h => h) (Or.inr ⟨by rfl, rfl⟩) ?_ ?_
    rotate_left
    ·simp only [Act.put, sA_, sB_, sC_, i64_w, i32_w]
     rfl
    refine pure_ (i := 14) (N := some 48) (v := undef) (a' := ?_) (tf_ 15 22) rfl rfl (any_of HT_.out (by kernel_rfl)) (fun _ _ _ h => h) (Or.inr ⟨by rfl, rfl⟩) ?_ ?_
    rotate_left
    ·simp only [Act.put, sA_, sB_, sC_, i64_w, i32_w]
     rfl
    refine pure_ (i := 15) (N := some 49) (v := undef) (a' := ?_) (tf_ 16 22) rfl rfl (any_of HT_.out (by kernel_rfl)) (fun _ _ _ h => h) (Or.inr ⟨by rfl, rfl⟩) ?_ ?_
    rotate_left
    ·simp only [Act.put, sA_, sB_, sC_, i64_w, i32_w]
     rfl
    refine pure_ (i := 16) (N := some 50) (v := undef) (a' := ?_) (tf_ 17 22) rfl rfl (any_of HT_.out (by kernel_rfl)) (fun _ _ _ h => h) (Or.inr ⟨by rfl, rfl⟩) ?_ ?_
    rotate_left
    ·simp only [Act.put, sA_, sB_, sC_, i64_w, i32_w]
     rfl
    refine pure_ (i := 17) (N := some 51) (v := undef) (a' := ?_) (tf_ 18 22) rfl rfl (any_of HT_.out (by kernel_rfl)) (fun _ _ _ h => h) (Or.inr ⟨by rfl, rfl⟩) ?_ ?_
    rotate_left
    ·simp only [Act.put, sA_, sB_, sC_, i64_w, i32_w]
     rfl
    refine pure_ (i := 18) (N := some 52) (v := undef) (a' := ?_) (tf_ 19 22) rfl rfl (any_of HT_.out (by kernel_rfl)) (fun _ _ _ h => h) (Or.inr ⟨by rfl, rfl⟩) ?_ ?_
    rotate_left
    ·simp only [Act.put, sA_, sB_, sC_, i64_w, i32_w]
     rfl
    refine pure_ (i := 19) (N := some 53) (v := undef) (a' := ?_) (tf_ 20 22) rfl rfl (any_of HT_.out (by kernel_rfl)) (fun _ _ _ h => h) (Or.inr ⟨by rfl, rfl⟩) ?_ ?_
    rotate_left
    ·simp only [Act.put, sA_, sB_, sC_, i64_w, i32_w]
     rfl
    refine pure_ (i := 20) (N := some 54) (v := undef) (a' := ?_) (tf_ 21 22) rfl rfl (any_of HT_.out (by kernel_rfl)) (fun _ _ _ h => h) (Or.inr ⟨by rfl, rfl⟩) ?_ ?_
    rotate_left
    ·simp only [Act.put, sA_, sB_, sC_, i64_w, i32_w]
     rfl
    refine aP 21 (some 55) (tb_ 4194303 22) HT_ ?_
    refine done_ (done_of HT_.out (by kernel_rfl)) ?_
    try go_wp2
    go_roundg k2
    case measure => have := HK1.out; have := HK2.out; omega
    case rel => exact ⟨(x10_2), (x12_2), (wrap64 (x12_2 + 1)), aZ, aZ, aZ, H', ⟨by have := HK1.out; have := HK2.out; omega⟩, ⟨aR HO_9⟩, ⟨aB BK350⟩, ⟨aB BK351⟩, ⟨aL HB⟩⟩
   rw [if_neg c13] at H; have c13b0 : ((rd l0_1 x12_2) == 0) = false := beq_eq_false_iff_ne.mpr c13
   have c13b1 : ((rd l0_1 x12_2) != 0) = true := bne_iff_ne.mpr c13
   replace H := Option.bind_eq_some_iff.mp H; obtain ⟨t355, A170, H⟩ := H; replace H : (if t355 ≤ a3_0 then (r3_First.l1 k2 x1_1 a2 x9_1 x12_2 x12_2 (wrap64 (x12_2 + 1)) l0_0 l0_1 a3_0 a3_1 a3_2 a3_3 a3_4 a3_5) else (r3_First.l1 k2 x1_1 a2 x9_1 x10_2 x12_2 (wrap64 (x12_2 + 1)) l0_0 l0_1 a3_0 a3_1 a3_2 a3_3 a3_4 a3_5)) = some r := H; have A17 := zA.mk A170; clear A170; by_cases c18 : t355 ≤ a3_0
   ·rw [if_pos c18] at H
    have c18b0 : decide (t355 ≤ a3_0) = true := decide_eq_true c18
    clear c18; have H' := zA.mk H
    clear H; try go_wp2
    replace HO_9 := zA.mk (Kd.zL HO_9.out); replace BK350 := zA.mk (zF BK350.out); replace BK351 := zA.mk (zF BK351.out); replace HB := zA.mk (below_drew1 HB.out); refine start_ (n := 9) (S := fun w' => w'.cell? ⟨gb350, 0, none⟩ = some (.slice A0_0 l0_0.length c0_0) ∧ w'.cell? ⟨gb350, 1, none⟩ = some (.slice A0_1 l0_1.length c0_1) ∧ w'.cell? ⟨gb351, 0, none⟩ = some (.int .i64 a3_0) ∧ w'.cell? ⟨gb351, 1, none⟩ = some (.int .i64 a3_1) ∧ w'.cell? ⟨gb351, 2, none⟩ = some (.int .u8 a3_2) ∧ w'.cell? ⟨gb351, 3, none⟩ = some (.int .i64 a3_3) ∧ w'.cell? ⟨gb351, 4, none⟩ = some (.int .i64 a3_4) ∧ w'.cell? ⟨gb351, 5, none⟩ = some (.float .f64 a3_5)) (ds := []) #[false, false, false, false, false, false, false, false, false] (by kernel_rfl) rfl rfl ⟨(zB BK350.out 0).trans rfl, (zB BK350.out 1).trans rfl, (zB BK351.out 0).trans rfl, (zB BK351.out 1).trans rfl, (zB BK351.out 2).trans rfl, (zB BK351.out 3).trans rfl, (zB BK351.out 4).trans rfl, (zB BK351.out 5).trans rfl⟩ (fun hHeld => ?_); refine with_tabW r3_First.tab7 r3_First.bits7 (fun HT_ HW_ => ?_)
    generalize wr.drew = w19 at HO_9 BK350 BK351 HB hHeld ⊢
    refine aP 1 (some 25) (tb_ 2 9) HT_ ?_
    refine aP 2 (some 26) (tb_ 6 9) HT_ ?_
    refine aP 3 (some 27) (tb_ 14 9) HT_ ?_
    refine aP 6 (some 30) (tb_ 78 9) HT_ ?_
    refine take_ (i := 0) (N := some 24) (v := ?_) (a' := ?_) (tb_ 79 9) rfl rfl (take_ofW HT_.out HW_.out (by kernel_rfl)) (fun _ _ _ h => h) (Or.inl ⟨by rfl, ?_⟩) hHeld ?_ ?_
    rotate_left
    ·rintro w' ⟨s0, s1, s2, s3, s4, s5, s6, s7⟩
     go_simp
     with_reducible rfl
    rotate_left
    ·simp only [Act.put, sA_, sB_, sC_, i64_w, i32_w]
     rfl
    refine take_ (i := 4) (N := some 28) (v := ?_) (a' := ?_) (tb_ 95 9) rfl rfl (take_ofW HT_.out HW_.out (by kernel_rfl)) (fun _ _ _ h => h) (Or.inl ⟨by rfl, ?_⟩) hHeld ?_ ?_
    rotate_left
    ·rintro w' ⟨s0, s1, s2, s3, s4, s5, s6, s7⟩
     go_simp
     with_reducible rfl
    rotate_left
    ·simp only [Act.put, sA_, sB_, sC_, i64_w, i32_w]
     rfl
    refine take_ (i := 7) (N := some 31) (v := ?_) (a' := ?_) (tb_ 223 9) rfl rfl (take_ofW HT_.out HW_.out (by kernel_rfl)) (fun _ _ _ h => h) (Or.inl ⟨by rfl, ?_⟩) hHeld ?_ ?_
    rotate_left
    ·rintro w' ⟨s0, s1, s2, s3, s4, s5, s6, s7⟩
     go_simp
     with_reducible rfl
    rotate_left
    ·simp only [Act.put, sA_, sB_, sC_, i64_w, i32_w]
     rfl
    refine one_ (i := 5) (N := some 29) (tb_ 255 9) rfl rfl (one_of HT_.out (by kernel_rfl)) (by decide) (fun K hK => ?_)
    refine goes_ Try.func32 (by kernel_rfl) rfl #[.agg #[.slice A0_0 l0_0.length c0_0, .slice A0_1 l0_1.length c0_1], .int .i64 x1_1, .int .i64 x12_2, .int .u8 0, .int .i64 a3_1] (by rfl) rfl rfl aT ?_
    with_reducible refine (r3_Cells.calls k2 _ _ l0_0 _ _ l0_1 x1_1 x12_2 0 a3_1 t352 _ ?side1 ?side2 ?side3 ?side4 A9.out).mono ?_
    (case side1 => exact aA HR0_0 HB)
    (case side2 => exact HC0_0.out)
    (case side3 => exact aA HR0_1 HB)
    (case side4 => exact HC0_1.out)
    rintro e w20 ⟨rfl, hb⟩
    refine ⟨_, rfl, ?_⟩
    replace HO_9 := zA.mk (Kd.zR (aR HO_9) hb); replace BK350 := zA.mk (zC (aB BK350) hb); replace BK351 := zA.mk (zC (aB BK351) hb); replace HB := zA.mk (zD (aL HB) hb); (try clear hb)
    (try clear hb2)
    (try clear hk)
    (try clear hi)
    refine hK.out _ _ ⟨(zB BK350.out 0).trans rfl, (zB BK350.out 1).trans rfl, (zB BK351.out 0).trans rfl, (zB BK351.out 1).trans rfl, (zB BK351.out 2).trans rfl, (zB BK351.out 3).trans rfl, (zB BK351.out 4).trans rfl, (zB BK351.out 5).trans rfl⟩ (fun hHeld => ?_)
    clear hK K; refine norm_ (a' := ?_) ?_ ?_
    rotate_left
    ·show Act.put _ (some 29) _ = _
     simp only [Act.put, sA_, sB_, sC_, i64_w, i32_w]; rfl
    refine aP 8 (some 32) (tb_ 511 9) HT_ ?_
    refine done_ (done_of HT_.out (by kernel_rfl)) ?_
    try go_wp2
    replace HO_9 := zA.mk (Kd.zL HO_9.out); replace BK350 := zA.mk (zF BK350.out); replace BK351 := zA.mk (zF BK351.out); replace HB := zA.mk (below_drew1 HB.out); have p353 : 0 ≤ (x12_2 : Int) := aD
    have q353 : x12_2 < (l0_1.length : Int) := aD
    obtain ⟨ad353, e353, hx353_0⟩ := Kd.at_int HR0_1.out x12_2 p353 q353; have hw353_0 := hx353_0; cases e353
    replace hx353_0 := (HB.out.cell (World.block_lt_of_cell? w _ hx353_0)).trans hx353_0; replace p353 := eq_true p353; replace q353 := eq_true q353; have p354 : 0 ≤ (x12_2 : Int) := aD
    have q354 : x12_2 < (l0_1.length : Int) := aD
    obtain ⟨ad354, e354, hx354_0⟩ := Kd.at_int HR0_1.out x12_2 p354 q354; have hw354_0 := hx354_0; obtain rfl : ad353 = ad354 := (by injection e354)
    replace hx354_0 := (HB.out.cell (World.block_lt_of_cell? w _ hx354_0)).trans hx354_0; replace p354 := eq_true p354; replace q354 := eq_true q354; refine start_ (n := 22) (S := fun w' => w'.cell? ⟨gb350, 0, none⟩ = some (.slice A0_0 l0_0.length c0_0) ∧ w'.cell? ⟨gb350, 1, none⟩ = some (.slice (some ad353) l0_1.length c0_1) ∧ w'.cell? ⟨gb351, 0, none⟩ = some (.int .i64 a3_0) ∧ w'.cell? ⟨gb351, 1, none⟩ = some (.int .i64 a3_1) ∧ w'.cell? ⟨gb351, 2, none⟩ = some (.int .u8 a3_2) ∧ w'.cell? ⟨gb351, 3, none⟩ = some (.int .i64 a3_3) ∧ w'.cell? ⟨gb351, 4, none⟩ = some (.int .i64 a3_4) ∧ w'.cell? ⟨gb351, 5, none⟩ = some (.float .f64 a3_5) ∧ w'.cell? (ad353.add (x12_2).toNat) = some (.int .u8 (rd l0_1 x12_2)) ∧ w'.cell? (ad353.add (x12_2).toNat) = some (.int .u8 (rd l0_1 x12_2))) (ds := []) #[false, false, false, false, false, false, false, false, false, false, false, false, false, false, false, false, false, false, false, false, false, false] (by kernel_rfl) rfl rfl ⟨(zB BK350.out 0).trans rfl, (zB BK350.out 1).trans rfl, (zB BK351.out 0).trans rfl, (zB BK351.out 1).trans rfl, (zB BK351.out 2).trans rfl, (zB BK351.out 3).trans rfl, (zB BK351.out 4).trans rfl, (zB BK351.out 5).trans rfl, ((HB.out.cell (World.block_lt_of_cell? w _ hw353_0)).trans hw353_0), ((HB.out.cell (World.block_lt_of_cell? w _ hw354_0)).trans hw354_0)⟩ (fun hHeld => ?_); refine with_tabW r3_First.tab9 r3_First.bits9 (fun HT_ HW_ => ?_)
    generalize w20.drew = w21 at HO_9 BK350 BK351 HB hx353_0 hx354_0 hHeld ⊢
    refine aP 0 (some 34) (tf_ 1 22) HT_ ?_
    refine aP 2 (some 36) (tb_ 5 22) HT_ ?_
    refine take_ (i := 1) (N := some 35) (v := ?_) (a' := ?_) (tf_ 3 22) rfl rfl (take_ofW HT_.out HW_.out (by kernel_rfl)) (fun _ _ _ h => h) (Or.inl ⟨by rfl, ?_⟩) hHeld ?_ ?_
    rotate_left
    ·rintro w' ⟨s0, s1, s2, s3, s4, s5, s6, s7, s8, s9⟩
     go_simp
     with_reducible rfl
    rotate_left
    ·simp only [Act.put, sA_, sB_, sC_, i64_w, i32_w]
     rfl
    refine aP 3 (some 37) (tf_ 4 22) HT_ ?_
    refine take_ (i := 4) (N := some 38) (v := ?_) (a' := ?_) (tf_ 5 22) rfl rfl (take_ofW HT_.out HW_.out (by kernel_rfl)) (fun _ _ _ h => h) (Or.inl ⟨by rfl, ?_⟩) hHeld ?_ ?_
    rotate_left
    ·rintro w' ⟨s0, s1, s2, s3, s4, s5, s6, s7, s8, s9⟩
     go_simp
     with_reducible rfl
    rotate_left
    ·simp only [Act.put, sA_, sB_, sC_, i64_w, i32_w]
     rfl
    refine aP 5 (some 39) (tf_ 6 22) HT_ ?_
    refine aP 6 (some 40) (tf_ 7 22) HT_ ?_
    refine aP 8 (some 42) (tb_ 383 22) HT_ ?_
    refine aP 9 (some 43) (tb_ 895 22) HT_ ?_
    refine aP 10 (some 44) (tb_ 1919 22) HT_ ?_
    refine aP 12 (some 46) (tb_ 6015 22) HT_ ?_
    refine aP 15 (some 49) (tb_ 38783 22) HT_ ?_
    refine aP 18 (some 52) (tb_ 300927 22) HT_ ?_
    refine take_ (i := 7) (N := some 41) (v := ?_) (a' := ?_) (tb_ 301055 22) rfl rfl (take_ofW HT_.out HW_.out (by kernel_rfl)) (fun _ _ _ h => h) (Or.inl ⟨by rfl, ?_⟩) hHeld ?_ ?_
    rotate_left
    ·rintro w' ⟨s0, s1, s2, s3, s4, s5, s6, s7, s8, s9⟩
     go_simp
     with_reducible rfl
    rotate_left
    ·simp only [Act.put, sA_, sB_, sC_, i64_w, i32_w]
     rfl
    refine take_ (i := 11) (N := some 45) (v := ?_) (a' := ?_) (tb_ 303103 22) rfl rfl (take_ofW HT_.out HW_.out (by kernel_rfl)) (fun _ _ _ h => h) (Or.inl ⟨by rfl, ?_⟩) hHeld ?_ ?_
    rotate_left
    ·rintro w' ⟨s0, s1, s2, s3, s4, s5, s6, s7, s8, s9⟩
     go_simp
     with_reducible rfl
    rotate_left
    ·simp only [Act.put, sA_, sB_, sC_, i64_w, i32_w]
     rfl
    refine aP 13 (some 47) (tb_ 311295 22) HT_ ?_
    refine take_ (i := 14) (N := some 48) (v := ?_) (a' := ?_) (tb_ 327679 22) rfl rfl (take_ofW HT_.out HW_.out (by kernel_rfl)) (fun _ _ _ h => h) (Or.inl ⟨by rfl, ?_⟩) hHeld ?_ ?_
    rotate_left
    ·rintro w' ⟨s0, s1, s2, s3, s4, s5, s6, s7, s8, s9⟩
     go_simp
     with_reducible rfl
    rotate_left
    ·simp only [Act.put, sA_, sB_, sC_, i64_w, i32_w]
     rfl
    refine take_ (i := 16) (N := some 50) (v := ?_) (a' := ?_) (tb_ 393215 22) rfl rfl (take_ofW HT_.out HW_.out (by kernel_rfl)) (fun _ _ _ h => h) (Or.inl ⟨by rfl, ?_⟩) hHeld ?_ ?_
    rotate_left
    ·rintro w' ⟨s0, s1, s2, s3, s4, s5, s6, s7, s8, s9⟩
     go_simp
     with_reducible rfl
    rotate_left
    ·simp only [Act.put, sA_, sB_, sC_, i64_w, i32_w]
     rfl
    refine take_ (i := 19) (N := some 53) (v := ?_) (a' := ?_) (tb_ 917503 22) rfl rfl (take_ofW HT_.out HW_.out (by kernel_rfl)) (fun _ _ _ h => h) (Or.inl ⟨by rfl, ?_⟩) hHeld ?_ ?_
    rotate_left
    ·rintro w' ⟨s0, s1, s2, s3, s4, s5, s6, s7, s8, s9⟩
     go_simp
     with_reducible rfl
    rotate_left
    ·simp only [Act.put, sA_, sB_, sC_, i64_w, i32_w]
     rfl
    refine one_ (i := 17) (N := some 51) (tb_ 1048575 22) rfl rfl (one_of HT_.out (by kernel_rfl)) (by decide) (fun K hK => ?_)
    refine goes_ Try.func32 (by kernel_rfl) rfl #[.agg #[.slice A0_0 l0_0.length c0_0, .slice (some ad353) l0_1.length c0_1], .int .i64 x1_1, .int .i64 x12_2, .int .u8 (rd l0_1 x12_2), .int .i64 a3_1] (by rfl) rfl rfl aT ?_
    with_reducible refine (r3_Cells.calls k2 _ _ l0_0 _ _ l0_1 x1_1 x12_2 (rd l0_1 x12_2) a3_1 t355 _ ?side1 ?side2 ?side3 ?side4 A17.out).mono ?_
    (case side1 => exact aA HR0_0 HB)
    (case side2 => exact HC0_0.out)
    (case side3 => exact aA HR0_1 HB)
    (case side4 => exact HC0_1.out)
    rintro e w22 ⟨rfl, hb⟩
    refine ⟨_, rfl, ?_⟩
    replace HO_9 := zA.mk (Kd.zR (aR HO_9) hb); replace BK350 := zA.mk (zC (aB BK350) hb); replace BK351 := zA.mk (zC (aB BK351) hb); replace HB := zA.mk (zD (aL HB) hb); (try clear hb)
    (try clear hb2)
    (try clear hk)
    (try clear hi)
    refine hK.out _ _ ⟨(zB BK350.out 0).trans rfl, (zB BK350.out 1).trans rfl, (zB BK351.out 0).trans rfl, (zB BK351.out 1).trans rfl, (zB BK351.out 2).trans rfl, (zB BK351.out 3).trans rfl, (zB BK351.out 4).trans rfl, (zB BK351.out 5).trans rfl, ((HB.out.cell (World.block_lt_of_cell? w _ hw353_0)).trans hw353_0), ((HB.out.cell (World.block_lt_of_cell? w _ hw354_0)).trans hw354_0)⟩ (fun hHeld => ?_)
    clear hK K; refine norm_ (a' := ?_) ?_ ?_
    rotate_left
    ·show Act.put _ (some 51) _ = _
     simp only [Act.put, sA_, sB_, sC_, i64_w, i32_w]; rfl
    refine aP 20 (some 54) (tf_ 21 22) HT_ ?_
    refine aP 21 (some 55) (tb_ 4194303 22) HT_ ?_
    refine done_ (done_of HT_.out (by kernel_rfl)) ?_
    try go_wp2
    go_roundg k2
    case measure => have := HK1.out; have := HK2.out; omega
    case rel => exact ⟨(x12_2), (x12_2), (wrap64 (x12_2 + 1)), aZ, aZ, aZ, H', ⟨by have := HK1.out; have := HK2.out; omega⟩, ⟨aR HO_9⟩, ⟨aB BK350⟩, ⟨aB BK351⟩, ⟨aL HB⟩⟩
   rw [if_neg c18] at H; have c18b0 : decide (t355 ≤ a3_0) = false := decide_eq_false c18
   clear c18; have H' := zA.mk H
   clear H; try go_wp2
   replace HO_9 := zA.mk (Kd.zL HO_9.out); replace BK350 := zA.mk (zF BK350.out); replace BK351 := zA.mk (zF BK351.out); replace HB := zA.mk (below_drew1 HB.out); refine start_ (n := 9) (S := fun w' => w'.cell? ⟨gb350, 0, none⟩ = some (.slice A0_0 l0_0.length c0_0) ∧ w'.cell? ⟨gb350, 1, none⟩ = some (.slice A0_1 l0_1.length c0_1) ∧ w'.cell? ⟨gb351, 0, none⟩ = some (.int .i64 a3_0) ∧ w'.cell? ⟨gb351, 1, none⟩ = some (.int .i64 a3_1) ∧ w'.cell? ⟨gb351, 2, none⟩ = some (.int .u8 a3_2) ∧ w'.cell? ⟨gb351, 3, none⟩ = some (.int .i64 a3_3) ∧ w'.cell? ⟨gb351, 4, none⟩ = some (.int .i64 a3_4) ∧ w'.cell? ⟨gb351, 5, none⟩ = some (.float .f64 a3_5)) (ds := []) #[false, false, false, false, false, false, false, false, false] (by kernel_rfl) rfl rfl ⟨(zB BK350.out 0).trans rfl, (zB BK350.out 1).trans rfl, (zB BK351.out 0).trans rfl, (zB BK351.out 1).trans rfl, (zB BK351.out 2).trans rfl, (zB BK351.out 3).trans rfl, (zB BK351.out 4).trans rfl, (zB BK351.out 5).trans rfl⟩ (fun hHeld => ?_); refine with_tabW r3_First.tab7 r3_First.bits7 (fun HT_ HW_ => ?_)
   generalize wr.drew = w23 at HO_9 BK350 BK351 HB hHeld ⊢
   refine aP 1 (some 25) (tb_ 2 9) HT_ ?_
   refine aP 2 (some 26) (tb_ 6 9) HT_ ?_
   refine aP 3 (some 27) (tb_ 14 9) HT_ ?_
   refine aP 6 (some 30) (tb_ 78 9) HT_ ?_
   refine take_ (i := 0) (N := some 24) (v := ?_) (a' := ?_) (tb_ 79 9) rfl rfl (take_ofW HT_.out HW_.out (by kernel_rfl)) (fun _ _ _ h => h) (Or.inl ⟨by rfl, ?_⟩) hHeld ?_ ?_
   rotate_left
   ·rintro w' ⟨s0, s1, s2, s3, s4, s5, s6, s7⟩
    go_simp
    with_reducible rfl
   rotate_left
   ·simp only [Act.put, sA_, sB_, sC_, i64_w, i32_w]
    rfl
   refine take_ (i := 4) (N := some 28) (v := ?_) (a' := ?_) (tb_ 95 9) rfl rfl (take_ofW HT_.out HW_.out (by kernel_rfl)) (fun _ _ _ h => h) (Or.inl ⟨by rfl, ?_⟩) hHeld ?_ ?_
   rotate_left
   ·rintro w' ⟨s0, s1, s2, s3, s4, s5, s6, s7⟩
    go_simp
    with_reducible rfl
   rotate_left
   ·simp only [Act.put, sA_, sB_, sC_, i64_w, i32_w]
    rfl
   refine take_ (i := 7) (N := some 31) (v := ?_) (a' := ?_) (tb_ 223 9) rfl rfl (take_ofW HT_.out HW_.out (by kernel_rfl)) (fun _ _ _ h => h) (Or.inl ⟨by rfl, ?_⟩) hHeld ?_ ?_
   rotate_left
   ·rintro w' ⟨s0, s1, s2, s3, s4, s5, s6, s7⟩
    go_simp
    with_reducible rfl
   rotate_left
   ·simp only [Act.put, sA_, sB_, sC_, i64_w, i32_w]
    rfl
   refine one_ (i := 5) (N := some 29) (tb_ 255 9) rfl rfl (one_of HT_.out (by kernel_rfl)) (by decide) (fun K hK => ?_)
   refine goes_ Try.func32 (by kernel_rfl) rfl #[.agg #[.slice A0_0 l0_0.length c0_0, .slice A0_1 l0_1.length c0_1], .int .i64 x1_1, .int .i64 x12_2, .int .u8 0, .int .i64 a3_1] (by rfl) rfl rfl aT ?_
   with_reducible refine (r3_Cells.calls k2 _ _ l0_0 _ _ l0_1 x1_1 x12_2 0 a3_1 t352 _ ?side1 ?side2 ?side3 ?side4 A9.out).mono ?_
   (case side1 => exact aA HR0_0 HB)
   (case side2 => exact HC0_0.out)
   (case side3 => exact aA HR0_1 HB)
   (case side4 => exact HC0_1.out)
   rintro e w24 ⟨rfl, hb⟩
   refine ⟨_, rfl, ?_⟩
   replace HO_9 := zA.mk (Kd.zR (aR HO_9) hb); replace BK350 := zA.mk (zC (aB BK350) hb); replace BK351 := zA.mk (zC (aB BK351) hb); replace HB := zA.mk (zD (aL HB) hb); (try clear hb)
   (try clear hb2)
   (try clear hk)
   (try clear hi)
   refine hK.out _ _ ⟨(zB BK350.out 0).trans rfl, (zB BK350.out 1).trans rfl, (zB BK351.out 0).trans rfl, (zB BK351.out 1).trans rfl, (zB BK351.out 2).trans rfl, (zB BK351.out 3).trans rfl, (zB BK351.out 4).trans rfl, (zB BK351.out 5).trans rfl⟩ (fun hHeld => ?_)
   clear hK K; refine norm_ (a' := ?_) ?_ ?_
   rotate_left
   ·show Act.put _ (some 29) _ = _
    simp only [Act.put, sA_, sB_, sC_, i64_w, i32_w]; rfl
   refine aP 8 (some 32) (tb_ 511 9) HT_ ?_
   refine done_ (done_of HT_.out (by kernel_rfl)) ?_
   try go_wp2
   replace HO_9 := zA.mk (Kd.zL HO_9.out); replace BK350 := zA.mk (zF BK350.out); replace BK351 := zA.mk (zF BK351.out); replace HB := zA.mk (below_drew1 HB.out); have p353 : 0 ≤ (x12_2 : Int) := aD
   have q353 : x12_2 < (l0_1.length : Int) := aD
   obtain ⟨ad353, e353, hx353_0⟩ := Kd.at_int HR0_1.out x12_2 p353 q353; have hw353_0 := hx353_0; cases e353
   replace hx353_0 := (HB.out.cell (World.block_lt_of_cell? w _ hx353_0)).trans hx353_0; replace p353 := eq_true p353; replace q353 := eq_true q353; have p354 : 0 ≤ (x12_2 : Int) := aD
   have q354 : x12_2 < (l0_1.length : Int) := aD
   obtain ⟨ad354, e354, hx354_0⟩ := Kd.at_int HR0_1.out x12_2 p354 q354; have hw354_0 := hx354_0; obtain rfl : ad353 = ad354 := (by injection e354)
   replace hx354_0 := (HB.out.cell (World.block_lt_of_cell? w _ hx354_0)).trans hx354_0; replace p354 := eq_true p354; replace q354 := eq_true q354; refine start_ (n := 22) (S := fun w' => w'.cell? ⟨gb350, 0, none⟩ = some (.slice A0_0 l0_0.length c0_0) ∧ w'.cell? ⟨gb350, 1, none⟩ = some (.slice (some ad353) l0_1.length c0_1) ∧ w'.cell? ⟨gb351, 0, none⟩ = some (.int .i64 a3_0) ∧ w'.cell? ⟨gb351, 1, none⟩ = some (.int .i64 a3_1) ∧ w'.cell? ⟨gb351, 2, none⟩ = some (.int .u8 a3_2) ∧ w'.cell? ⟨gb351, 3, none⟩ = some (.int .i64 a3_3) ∧ w'.cell? ⟨gb351, 4, none⟩ = some (.int .i64 a3_4) ∧ w'.cell? ⟨gb351, 5, none⟩ = some (.float .f64 a3_5) ∧ w'.cell? (ad353.add (x12_2).toNat) = some (.int .u8 (rd l0_1 x12_2)) ∧ w'.cell? (ad353.add (x12_2).toNat) = some (.int .u8 (rd l0_1 x12_2))) (ds := []) #[false, false, false, false, false, false, false, false, false, false, false, false, false, false, false, false, false, false, false, false, false, false] (by kernel_rfl) rfl rfl ⟨(zB BK350.out 0).trans rfl, (zB BK350.out 1).trans rfl, (zB BK351.out 0).trans rfl, (zB BK351.out 1).trans rfl, (zB BK351.out 2).trans rfl, (zB BK351.out 3).trans rfl, (zB BK351.out 4).trans rfl, (zB BK351.out 5).trans rfl, ((HB.out.cell (World.block_lt_of_cell? w _ hw353_0)).trans hw353_0), ((HB.out.cell (World.block_lt_of_cell? w _ hw354_0)).trans hw354_0)⟩ (fun hHeld => ?_); refine with_tabW r3_First.tab9 r3_First.bits9 (fun HT_ HW_ => ?_)
   generalize w24.drew = w25 at HO_9 BK350 BK351 HB hx353_0 hx354_0 hHeld ⊢
   refine aP 0 (some 34) (tf_ 1 22) HT_ ?_
   refine aP 2 (some 36) (tb_ 5 22) HT_ ?_
   refine take_ (i := 1) (N := some 35) (v := ?_) (a' := ?_) (tf_ 3 22) rfl rfl (take_ofW HT_.out HW_.out (by kernel_rfl)) (fun _ _ _ h => h) (Or.inl ⟨by rfl, ?_⟩) hHeld ?_ ?_
   rotate_left
   ·rintro w' ⟨s0, s1, s2, s3, s4, s5, s6, s7, s8, s9⟩
    go_simp
    with_reducible rfl
   rotate_left
   ·simp only [Act.put, sA_, sB_, sC_, i64_w, i32_w]
    rfl
   refine aP 3 (some 37) (tf_ 4 22) HT_ ?_
   refine take_ (i := 4) (N := some 38) (v := ?_) (a' := ?_) (tf_ 5 22) rfl rfl (take_ofW HT_.out HW_.out (by kernel_rfl)) (fun _ _ _ h => h) (Or.inl ⟨by rfl, ?_⟩) hHeld ?_ ?_
   rotate_left
   ·rintro w' ⟨s0, s1, s2, s3, s4, s5, s6, s7, s8, s9⟩
    go_simp
    with_reducible rfl
   rotate_left
   ·simp only [Act.put, sA_, sB_, sC_, i64_w, i32_w]
    rfl
   refine aP 5 (some 39) (tf_ 6 22) HT_ ?_
   refine aP 6 (some 40) (tf_ 7 22) HT_ ?_
   refine aP 8 (some 42) (tb_ 383 22) HT_ ?_
   refine aP 9 (some 43) (tb_ 895 22) HT_ ?_
   refine aP 10 (some 44) (tb_ 1919 22) HT_ ?_
   refine aP 12 (some 46) (tb_ 6015 22) HT_ ?_
   refine aP 15 (some 49) (tb_ 38783 22) HT_ ?_
   refine aP 18 (some 52) (tb_ 300927 22) HT_ ?_
   refine take_ (i := 7) (N := some 41) (v := ?_) (a' := ?_) (tb_ 301055 22) rfl rfl (take_ofW HT_.out HW_.out (by kernel_rfl)) (fun _ _ _ h => h) (Or.inl ⟨by rfl, ?_⟩) hHeld ?_ ?_
   rotate_left
   ·rintro w' ⟨s0, s1, s2, s3, s4, s5, s6, s7, s8, s9⟩
    go_simp
    with_reducible rfl
   rotate_left
   ·simp only [Act.put, sA_, sB_, sC_, i64_w, i32_w]
    rfl
   refine take_ (i := 11) (N := some 45) (v := ?_) (a' := ?_) (tb_ 303103 22) rfl rfl (take_ofW HT_.out HW_.out (by kernel_rfl)) (fun _ _ _ h => h) (Or.inl ⟨by rfl, ?_⟩) hHeld ?_ ?_
   rotate_left
   ·rintro w' ⟨s0, s1, s2, s3, s4, s5, s6, s7, s8, s9⟩
    go_simp
    with_reducible rfl
   rotate_left
   ·simp only [Act.put, sA_, sB_, sC_, i64_w, i32_w]
    rfl
   refine aP 13 (some 47) (tb_ 311295 22) HT_ ?_
   refine take_ (i := 14) (N := some 48) (v := ?_) (a' := ?_) (tb_ 327679 22) rfl rfl (take_ofW HT_.out HW_.out (by kernel_rfl)) (fun _ _ _ h => h) (Or.inl ⟨by rfl, ?_⟩) hHeld ?_ ?_
   rotate_left
   ·rintro w' ⟨s0, s1, s2, s3, s4, s5, s6, s7, s8, s9⟩
    go_simp
    with_reducible rfl
   rotate_left
   ·simp only [Act.put, sA_, sB_, sC_, i64_w, i32_w]
    rfl
   refine take_ (i := 16) (N := some 50) (v := ?_) (a' := ?_) (tb_ 393215 22) rfl rfl (take_ofW HT_.out HW_.out (by kernel_rfl)) (fun _ _ _ h => h) (Or.inl ⟨by rfl, ?_⟩) hHeld ?_ ?_
   rotate_left
   ·rintro w' ⟨s0, s1, s2, s3, s4, s5, s6, s7, s8, s9⟩
    go_simp
    with_reducible rfl
   rotate_left
   ·simp only [Act.put, sA_, sB_, sC_, i64_w, i32_w]
    rfl
   refine take_ (i := 19) (N := some 53) (v := ?_) (a' := ?_) (tb_ 917503 22) rfl rfl (take_ofW HT_.out HW_.out (by kernel_rfl)) (fun _ _ _ h => h) (Or.inl ⟨by rfl, ?_⟩) hHeld ?_ ?_
   rotate_left
   ·rintro w' ⟨s0, s1, s2, s3, s4, s5, s6, s7, s8, s9⟩
    go_simp
    with_reducible rfl
   rotate_left
   ·simp only [Act.put, sA_, sB_, sC_, i64_w, i32_w]
    rfl
   refine one_ (i := 17) (N := some 51) (tb_ 1048575 22) rfl rfl (one_of HT_.out (by kernel_rfl)) (by decide) (fun K hK => ?_)
   refine goes_ Try.func32 (by kernel_rfl) rfl #[.agg #[.slice A0_0 l0_0.length c0_0, .slice (some ad353) l0_1.length c0_1], .int .i64 x1_1, .int .i64 x12_2, .int .u8 (rd l0_1 x12_2), .int .i64 a3_1] (by rfl) rfl rfl aT ?_
   with_reducible refine (r3_Cells.calls k2 _ _ l0_0 _ _ l0_1 x1_1 x12_2 (rd l0_1 x12_2) a3_1 t355 _ ?side1 ?side2 ?side3 ?side4 A17.out).mono ?_
   (case side1 => exact aA HR0_0 HB)
   (case side2 => exact HC0_0.out)
   (case side3 => exact aA HR0_1 HB)
   (case side4 => exact HC0_1.out)
   rintro e w26 ⟨rfl, hb⟩
   refine ⟨_, rfl, ?_⟩
   replace HO_9 := zA.mk (Kd.zR (aR HO_9) hb); replace BK350 := zA.mk (zC (aB BK350) hb); replace BK351 := zA.mk (zC (aB BK351) hb); replace HB := zA.mk (zD (aL HB) hb); (try clear hb)
   (try clear hb2)
   (try clear hk)
   (try clear hi)
   refine hK.out _ _ ⟨(zB BK350.out 0).trans rfl, (zB BK350.out 1).trans rfl, (zB BK351.out 0).trans rfl, (zB BK351.out 1).trans rfl, (zB BK351.out 2).trans rfl, (zB BK351.out 3).trans rfl, (zB BK351.out 4).trans rfl, (zB BK351.out 5).trans rfl, ((HB.out.cell (World.block_lt_of_cell? w _ hw353_0)).trans hw353_0), ((HB.out.cell (World.block_lt_of_cell? w _ hw354_0)).trans hw354_0)⟩ (fun hHeld => ?_)
   clear hK K; refine norm_ (a' := ?_) ?_ ?_
   rotate_left
   ·show Act.put _ (some 51) _ = _
    simp only [Act.put, sA_, sB_, sC_, i64_w, i32_w]; rfl
   refine aP 20 (some 54) (tf_ 21 22) HT_ ?_
   refine aP 21 (some 55) (tb_ 4194303 22) HT_ ?_
   refine done_ (done_of HT_.out (by kernel_rfl)) ?_
   try go_wp2
   go_roundg k2
   case measure => have := HK1.out; have := HK2.out; omega
   case rel => exact ⟨(x10_2), (x12_2), (wrap64 (x12_2 + 1)), aZ, aZ, aZ, H', ⟨by have := HK1.out; have := HK2.out; omega⟩, ⟨aR HO_9⟩, ⟨aB BK350⟩, ⟨aB BK351⟩, ⟨aL HB⟩⟩
def r2_Of.f (a0 : Int) (a1 : Int) : Option Nat := some (fop .quo (floatOfInt .f64 a0) (floatOfInt .f64 a1))
set_option maxHeartbeats 8000000 in
set_option maxRecDepth 100000 in
theorem r2_Of.calls (a0 : Int) (a1 : Int) (r : Nat) (w : World) (h : r2_Of.f a0 a1 = some r) :
  Calls Try.prog 33 #[.int .i64 a0, .int .i64 a1] w fun e w' => ∃ b_ : Nat, e = .returned (.float .f64 b_) ∧ Drawn0 w w' ∧ FR r b_ := by
 have hu3 : (Try.prog.underlying 3).isSome = true := by kernel_rfl
 have hu24 := Try.underlying24; obtain rfl := Option.some.inj h
 obtain ⟨b, m, hrun, hb⟩ := run_rough (P := Try.prog) w .quo (by simp) 24 (floatOfInt .f64 a0) (floatOfInt .f64 a1)
 go_enter Try.func33, Try.ntmps33
 go_wp2
 go_ret
 exact ⟨b, rfl, ⟨⟨m, rfl⟩⟩, fr_fop hb⟩
def r3_Gaps.l0 : Nat → Int → Int → Int → Int → List (S66) → List Int → Option (Int)
 | 0, _, _, _, _, _, _ => none
 | k + 1, x1, x2, x7, x8, x415000, x415001 => (r3_Trim.f k x415000 x415001 x1 x2).bind fun t415 => (if x8 < t415 then (if 0 ≤ x8 then (if x8 < (x415000.length : Int) then (if ((rd_T66 x415000 x8).f3) = 1 then (r3_Gaps.l0 k x1 x2 (wrap64 (x7 + 1)) (wrap64 (x8 + 1)) x415000 x415001) else (r3_Gaps.l0 k x1 x2 x7 (wrap64 (x8 + 1)) x415000 x415001)) else (none)) else (none)) else (some x7))
def r3_Gaps.f (k : Nat) (l0_0 : List (S66)) (l0_1 : List Int) (a1 : Int) (a2 : Int) : Option (Int) := r3_Gaps.l0 k a1 a2 0 a1 l0_0 l0_1
theorem r3_Gaps.mono_l : ∀ k, (∀ y0 y1 y2 y3 y4 y5, LeO (r3_Gaps.l0 k y0 y1 y2 y3 y4 y5) (r3_Gaps.l0 (k + 1) y0 y1 y2 y3 y4 y5))
 | 0 => fun _ _ _ _ _ _ r h => by simp [r3_Gaps.l0] at h
 | k + 1 => by
  have ih0 := r3_Gaps.mono_l k
  ·intro y0 y1 y2 y3 y4 y5
   unfold r3_Gaps.l0
   repeat' (with_reducible first | exact ih0 _ _ _ _ _ _ | exact r3_Trim.mono _ _ _ _ _ | exact LeO.refl _ | exact LeO.none _ | refine LeO.ite ?_ ?_ | refine LeO.bind ?_ (fun _ => ?_))
theorem r3_Gaps.mono : ∀ a0 a1 a2 a3 k, LeO (r3_Gaps.f k a0 a1 a2 a3) (r3_Gaps.f (k + 1) a0 a1 a2 a3) := by
 intro a0 a1 a2 a3 k
 have ih0 := r3_Gaps.mono_l k; unfold r3_Gaps.f
 repeat' (with_reducible first | exact ih0 _ _ _ _ _ _ | exact r3_Trim.mono _ _ _ _ _ | exact LeO.refl _ | exact LeO.none _ | refine LeO.ite ?_ ?_ | refine LeO.bind ?_ (fun _ => ?_))
set_option maxHeartbeats 8000000 in
set_option maxRecDepth 100000 in
theorem r3_Gaps.calls (k : Nat) (A0_0 : Option Addr) (c0_0 : Nat) (l0_0 : List (S66)) (A0_1 : Option Addr) (c0_1 : Nat) (l0_1 : List Int) (a1 : Int) (a2 : Int) (r : Int) (w : World) (hr0_0 : Kd.C k66 w A0_0 l0_0.length l0_0) (hc0_0 : l0_0.length ≤ c0_0) (hr0_1 : Kd.C (Kd.int .u8) w A0_1 l0_1.length l0_1) (hc0_1 : l0_1.length ≤ c0_1) (h : r3_Gaps.f k l0_0 l0_1 a1 a2 = some r) :
  Calls Try.prog 34 #[.agg #[.slice A0_0 l0_0.length c0_0, .slice A0_1 l0_1.length c0_1], .int .i64 a1, .int .i64 a2] w fun e w' => e = .returned (.int .i64 r) ∧ Below w.heap.size w w' := by
 have hu31 := Try.underlying31; have HR0_0 := zA.mk hr0_0; have HC0_0 := zA.mk hc0_0; clear hr0_0 hc0_0; have HR0_1 := zA.mk hr0_1; have HC0_1 := zA.mk hc0_1; clear hr0_1 hc0_1; have HB := zA.mk (Below.refl w.heap.size w); have H : (r3_Gaps.l0 k a1 a2 0 a1 l0_0 l0_1) = some r := h
 clear h; have H' := zA.mk H
 clear H; go_enter Try.func34, Try.ntmps34
 go_wp2_with (first | ((with_reducible refine gate_dst (N := 3) rfl ?_); refine box_event ?hg (N := 3) ?hd (cs := #[.slice A0_0 l0_0.length c0_0, .slice A0_1 l0_1.length c0_1]) (t := 31) ?hr ?_; (case hd => rfl); (case hg => rfl); (case hr => first | (go_simp; done) | (go_simp; rfl)); intro gb414 hg w4 hbox hb; have BK414 := zA.mk (hbox); have GW414 := zA.mk ((by rw [hg]; exact (zH (aL HB)) : w.heap.size ≤ gb414)); replace HB := zA.mk (zD (aL HB) hb); have GE414 := GW414; clear hb hbox hg))
 go_loopg [7, 8] k (fun kq v7 v8 w' => ∃ (x7_1 : Int) (x8_1 : Int), v7 = .int .i64 x7_1 ∧ v8 = .int .i64 x8_1 ∧ zA (r3_Gaps.l0 kq a1 a2 x7_1 x8_1 l0_0 l0_1 = some r) ∧ zA (kq ≤ k) ∧ zA (w'.heap[gb414]? = some (.cells #[(.slice A0_0 l0_0.length c0_0), (.slice A0_1 l0_1.length c0_1)] 31 (0, 0))) ∧ zA (Below w.heap.size w w'))
 case atStart => exact ⟨(0), (a1), aZ, aZ, H', ⟨Nat.le_refl _⟩, ⟨aB BK414⟩, ⟨aL HB⟩⟩
 clear H'; obtain ⟨x7_1, x8_1, rfl, rfl, HA, HK1, BK414, HB⟩ := hrel; cases gk with
 | zero => exact absurd HA.out (by simp [r3_Gaps.l0])
 | succ k1 =>
  have H := HA.out; clear HA; simp only [r3_Gaps.l0] at H; replace H := Option.bind_eq_some_iff.mp H; obtain ⟨t415, A50, H⟩ := H; replace H : (if x8_1 < t415 then (if 0 ≤ x8_1 then (if x8_1 < (l0_0.length : Int) then (if ((rd_T66 l0_0 x8_1).f3) = 1 then (r3_Gaps.l0 k1 a1 a2 (wrap64 (x7_1 + 1)) (wrap64 (x8_1 + 1)) l0_0 l0_1) else (r3_Gaps.l0 k1 a1 a2 x7_1 (wrap64 (x8_1 + 1)) l0_0 l0_1)) else (none)) else (none)) else (some x7_1)) = some r := H; have A5 := zA.mk A50; clear A50; by_cases c6 : x8_1 < t415
  rotate_left
  ·rw [if_neg c6] at H
   have c6b0 : decide (x8_1 < t415) = false := decide_eq_false c6
   clear c6; obtain rfl := Option.some.inj H
   obtain ⟨hcz16_0, hcz16_1, hfz16_0, hfz16_1⟩ := aC2 BK414; go_wp2_with (first | ((with_reducible refine gate_callee (f := 45) rfl ?_); refine goesL_ (some 14) rfl rfl Try.func45 (by kernel_rfl) rfl #[.agg #[.slice A0_0 l0_0.length c0_0, .slice A0_1 l0_1.length c0_1], .int .i64 a1, .int .i64 a2] rfl aT ?_; (with_reducible refine (r3_Trim.calls k1 _ _ l0_0 _ _ l0_1 a1 a2 t415 _ ?side1 ?side2 ?side3 ?side4 A5.out).mono ?_); (case side1 => exact aA HR0_0 HB); (case side2 => exact HC0_0.out); (case side3 => exact aA HR0_1 HB); (case side4 => exact HC0_1.out); rintro e w17 ⟨rfl, hb⟩; refine ⟨_, rfl, ?_⟩; replace BK414 := zA.mk (zC (aB BK414) hb); replace HB := zA.mk (zD (aL HB) hb); (try clear hb); (try clear hb2); (try clear hk); (try clear hi)))
   go_ret
   exact ⟨aX, aL HB⟩
  rw [if_pos c6] at H; have c6b0 : decide (x8_1 < t415) = true := decide_eq_true c6
  clear c6; by_cases c7 : 0 ≤ x8_1
  rotate_left
  ·rw [if_neg c7] at H
   exact absurd H (by simp)
  rw [if_pos c7] at H; have c7b0 : decide (0 ≤ x8_1) = true := decide_eq_true c7
  clear c7; by_cases c8 : x8_1 < (l0_0.length : Int)
  rotate_left
  ·rw [if_neg c8] at H
   exact absurd H (by simp)
  rw [if_pos c8] at H; have c8b0 : decide (x8_1 < (l0_0.length : Int)) = true := decide_eq_true c8
  clear c8; by_cases c9 : ((rd_T66 l0_0 x8_1).f3) = 1
  ·rw [if_pos c9] at H
   have c9b0 : (((rd_T66 l0_0 x8_1).f3) == 1) = true := beq_iff_eq.mpr c9
   have c9b1 : (((rd_T66 l0_0 x8_1).f3) != 1) = false := bne_eq_false_iff_eq.mpr c9
   clear c9; have H' := zA.mk H
   clear H; obtain ⟨hcz10_0, hcz10_1, hfz10_0, hfz10_1⟩ := aC2 BK414; go_wp2_with (first | ((with_reducible refine gate_callee (f := 45) rfl ?_); refine goesL_ (some 14) rfl rfl Try.func45 (by kernel_rfl) rfl #[.agg #[.slice A0_0 l0_0.length c0_0, .slice A0_1 l0_1.length c0_1], .int .i64 a1, .int .i64 a2] rfl aT ?_; (with_reducible refine (r3_Trim.calls k1 _ _ l0_0 _ _ l0_1 a1 a2 t415 _ ?side1 ?side2 ?side3 ?side4 A5.out).mono ?_); (case side1 => exact aA HR0_0 HB); (case side2 => exact HC0_0.out); (case side3 => exact aA HR0_1 HB); (case side4 => exact HC0_1.out); rintro e w11 ⟨rfl, hb⟩; refine ⟨_, rfl, ?_⟩; replace BK414 := zA.mk (zC (aB BK414) hb); replace HB := zA.mk (zD (aL HB) hb); (try clear hb); (try clear hb2); (try clear hk); (try clear hi); obtain ⟨hcz12_0, hcz12_1, hfz12_0, hfz12_1⟩ := aC2 BK414; have p416 : 0 ≤ (x8_1 : Int) := aD; have q416 : x8_1 < (l0_0.length : Int) := aD; obtain ⟨ad416, e416, hx416_0, hx416_1, hx416_2, hx416_3⟩ := at_T66 HR0_0.out x8_1 p416 q416; cases e416; replace hx416_0 := (HB.out.cell (World.block_lt_of_cell? w _ hx416_0)).trans hx416_0; replace hx416_1 := (HB.out.cell (World.block_lt_of_cell? w _ hx416_1)).trans hx416_1; replace hx416_2 := (HB.out.cell (World.block_lt_of_cell? w _ hx416_2)).trans hx416_2; replace hx416_3 := (HB.out.cell (World.block_lt_of_cell? w _ hx416_3)).trans hx416_3; replace p416 := eq_true p416; replace q416 := eq_true q416))
   go_roundg k1
   case measure => have := HK1.out; omega
   case rel => exact ⟨(wrap64 (x7_1 + 1)), (wrap64 (x8_1 + 1)), aZ, aZ, H', ⟨by have := HK1.out; omega⟩, ⟨aB BK414⟩, ⟨aL HB⟩⟩
  rw [if_neg c9] at H; have c9b0 : (((rd_T66 l0_0 x8_1).f3) == 1) = false := beq_eq_false_iff_ne.mpr c9
  have c9b1 : (((rd_T66 l0_0 x8_1).f3) != 1) = true := bne_iff_ne.mpr c9
  have H' := zA.mk H
  clear H; obtain ⟨hcz13_0, hcz13_1, hfz13_0, hfz13_1⟩ := aC2 BK414; go_wp2_with (first | ((with_reducible refine gate_callee (f := 45) rfl ?_); refine goesL_ (some 14) rfl rfl Try.func45 (by kernel_rfl) rfl #[.agg #[.slice A0_0 l0_0.length c0_0, .slice A0_1 l0_1.length c0_1], .int .i64 a1, .int .i64 a2] rfl aT ?_; (with_reducible refine (r3_Trim.calls k1 _ _ l0_0 _ _ l0_1 a1 a2 t415 _ ?side1 ?side2 ?side3 ?side4 A5.out).mono ?_); (case side1 => exact aA HR0_0 HB); (case side2 => exact HC0_0.out); (case side3 => exact aA HR0_1 HB); (case side4 => exact HC0_1.out); rintro e w14 ⟨rfl, hb⟩; refine ⟨_, rfl, ?_⟩; replace BK414 := zA.mk (zC (aB BK414) hb); replace HB := zA.mk (zD (aL HB) hb); (try clear hb); (try clear hb2); (try clear hk); (try clear hi); obtain ⟨hcz15_0, hcz15_1, hfz15_0, hfz15_1⟩ := aC2 BK414; have p416 : 0 ≤ (x8_1 : Int) := aD; have q416 : x8_1 < (l0_0.length : Int) := aD; obtain ⟨ad416, e416, hx416_0, hx416_1, hx416_2, hx416_3⟩ := at_T66 HR0_0.out x8_1 p416 q416; cases e416; replace hx416_0 := (HB.out.cell (World.block_lt_of_cell? w _ hx416_0)).trans hx416_0; replace hx416_1 := (HB.out.cell (World.block_lt_of_cell? w _ hx416_1)).trans hx416_1; replace hx416_2 := (HB.out.cell (World.block_lt_of_cell? w _ hx416_2)).trans hx416_2; replace hx416_3 := (HB.out.cell (World.block_lt_of_cell? w _ hx416_3)).trans hx416_3; replace p416 := eq_true p416; replace q416 := eq_true q416))
  go_roundg k1
  case measure => have := HK1.out; omega
  case rel => exact ⟨(x7_1), (wrap64 (x8_1 + 1)), aZ, aZ, H', ⟨by have := HK1.out; omega⟩, ⟨aB BK414⟩, ⟨aL HB⟩⟩
def r2_None.f (a0 : Nat) : Option (Bool) := some (FloatKind.f64.format.order a0 a0 != some .eq)
set_option maxHeartbeats 8000000 in
set_option maxRecDepth 100000 in
theorem r2_None.calls (a0 : Nat) (r : Bool) (w : World) (h : r2_None.f a0 = some r) :
  Calls Try.prog 46 #[.float .f64 a0] w fun e w' => e = .returned (.bool r) ∧ Drawn0 w w' := by
 have H : (some (FloatKind.f64.format.order a0 a0 != some .eq)) = some r := h
 clear h; obtain rfl := Option.some.inj H
 go_enter Try.func46, Try.ntmps46
 go_wp2
 go_ret
 exact ⟨by first | rfl | (simp; done) | (simp [*]; done), by repeat (first | exact Drawn0.refl _ | apply Drawn0.step)⟩
def r2_Minus.f (a0 : Nat) : Option Bool := some ((a0 : Int) / 9223372036854775808 == 1)
set_option maxHeartbeats 8000000 in
set_option maxRecDepth 100000 in
theorem r2_Minus.calls (a0 : Nat) (r : Bool) (w : World) (h : r2_Minus.f a0 = some r) :
  Calls Try.prog 47 #[.float .f64 a0] w fun e w' => e = .returned (.bool r) ∧ Drawn0 w w' := by
 have hu24 := Try.underlying24; have hu86 := Try.underlying86; have hA : ∀ (b : Nat) (W : World), (callFunc 56 #[.float .f64 b]).run Try.prog W = .ok (.value (.int .u64 b)) W := fun b W => by rw [run_callFunc_extern (fn := Try.f56) (e := Extern.MathFloatBits.float64bits) (by kernel_rfl) (by kernel_rfl) (by kernel_rfl) (by rfl) (by rfl)]; rfl
 obtain rfl := Option.some.inj h
 go_enter Try.func47, Try.ntmps47
 go_wp2
 go_ret
 exact ⟨rfl, Drawn0.refl _⟩
def rabs (x : Nat) : Nat := if ((x : Int) / 9223372036854775808 == 1) = true then Op.negFloat .f64 x else x
def rcube (x : Nat) : Nat := fop .mul (fop .mul (fop .mul 4636737291354636288 (rabs x)) (rabs x)) (rabs x)
def r2_Badness.l0 : Nat → Nat → Int → Option Int
 | 0, _, _ => none
 | k + 1, z, n => if (FloatKind.f64.format.order (floatOfInt .f64 (wrap64 (n + 1))) z == some .lt || FloatKind.f64.format.order (floatOfInt .f64 (wrap64 (n + 1))) z == some .eq) = true then r2_Badness.l0 k z (wrap64 (n + 1)) else some n
def r2_Badness.f (k : Nat) (a0 : Nat) : Option Int := if isNan a0 = true then some 0 else if (FloatKind.f64.format.order (rcube a0) 4666723172467343360 == some .gt || FloatKind.f64.format.order (rcube a0) 4666723172467343360 == some .eq) = true then some 10000 else if isNan (rcube a0) = true then some 10000 else r2_Badness.l0 k (rcube a0) 0
theorem r2_Badness.mono : ∀ a0 k, LeO (r2_Badness.f k a0) (r2_Badness.f (k + 1) a0) := by
 intro a0 k
 have ih : ∀ k, (∀ y0 y1, LeO (r2_Badness.l0 k y0 y1) (r2_Badness.l0 (k + 1) y0 y1)) := by
  intro k
  induction k with
  | zero => exact fun _ _ r h => by simp [r2_Badness.l0] at h
  | succ k ih =>
   intro y0 y1
   unfold r2_Badness.l0
   exact LeO.ite (ih _ _) (LeO.refl _)
 unfold r2_Badness.f
 exact LeO.ite (LeO.refl _) (LeO.ite (LeO.refl _) (LeO.ite (LeO.refl _) (ih _ _ _)))
theorem none_nan (b : Nat) : r2_None.f b = some (isNan b) := by
 unfold r2_None.f
 cases h : isNan b with
 | true => rw [order_nan_l h]; rfl
 | false => rw [order_self h]; rfl
theorem bad_step (x z : Nat) : (FloatKind.f64.format.order x z = some .lt ∨ FloatKind.f64.format.order x z = some .eq) ∨ (FloatKind.f64.format.order x z = none ∨ FloatKind.f64.format.order x z = some .gt) := by
 cases FloatKind.f64.format.order x z with
 | none => exact .inr (.inl rfl)
 | some o => cases o <;> simp
set_option maxHeartbeats 8000000 in
set_option maxRecDepth 100000 in
theorem r2_Badness.calls (k : Nat) (a0 : Nat) (r : Int) (w : World) (h : r2_Badness.f k a0 = some r) {b0_ : Nat} (hf0_ : zA (FR a0 b0_) := by first | assumption | exact ⟨FR.same _⟩) :
  Calls Try.prog 35 #[.float .f64 b0_] w fun e w' => e = .returned (.int .i64 r) ∧ Drawn0 w w' := by
 have hu24 := Try.underlying24; have hu3 := Try.underlying3; unfold r2_Badness.f at h
 have hn := none_nan b0_; rw [← hf0_.out.nan] at hn; by_cases hx : isNan a0 = true
 ·rw [if_pos hx] at h
  rw [hx] at hn; obtain rfl := Option.some.inj h
  have H' := zA.mk hn
  clear hn; go_enter Try.func35, Try.ntmps35
  go_wp2_with (first | ((with_reducible refine gate_callee (f := 46) rfl ?_); refine goesL_ (some 9) rfl rfl Try.func46 (by kernel_rfl) rfl #[.float .f64 b0_] rfl aT ?_; (with_reducible refine (r2_None.calls b0_ true _ H'.out).mono ?_); rintro e w' ⟨rfl, ⟨⟨nd, rfl⟩⟩⟩; refine ⟨_, rfl, ?_⟩))
  go_ret
  exact ⟨rfl, ⟨⟨_, rfl⟩⟩⟩
 rw [if_neg hx] at h; have hx' : isNan a0 = false := by simpa using hx
 rw [hx'] at hn; obtain rfl := hf0_.out.eq_of hx'
 have H0 := zA.mk hn; clear hn; have H1 : zA (r2_Minus.f a0 = some ((a0 : Int) / 9223372036854775808 == 1)) := ⟨rfl⟩
 have hneg : ∀ W : World, (Op.unary .neg (.float .f64 a0)).run Try.prog W = .ok (.float .f64 (Op.negFloat .f64 a0)) W := fun W => rfl
 obtain ⟨p, hp⟩ := Classical.axiomOfChoice (fun x : World × Nat × Nat => run_rough (P := Try.prog) x.1 .mul (by simp) 24 x.2.1 x.2.2)
 obtain ⟨m, hm⟩ := Classical.axiomOfChoice hp; have hr : ∀ (W : World) (x y : Nat), (binOp .mul 24 (.float .f64 x) (.float .f64 y)).run Try.prog W = .ok (.float .f64 (p (W, x, y))) (W.drewN (m (W, x, y))) := fun W x y => (hm (W, x, y)).1
 have hf : ∀ (W : World) (x y : Nat), FR (fop .mul x y) (p (W, x, y)) := fun W x y => fr_fop (hm (W, x, y)).2
 clear hp; have hf := zA.mk hf; have hm := zA.mk hm; cases hs : ((a0 : Int) / 9223372036854775808 == 1) with
 | true =>
  rw [hs] at H1; have ha : rabs a0 = (Op.negFloat .f64 a0) := by unfold rabs; rw [hs]; rfl
  go_enter Try.func35, Try.ntmps35
  go_upto_region 9 with (first | ((with_reducible refine gate_callee (f := 46) rfl ?_); refine goesL_ (some 9) rfl rfl Try.func46 (by kernel_rfl) rfl #[.float .f64 a0] rfl aT ?_; (with_reducible refine (r2_None.calls a0 false _ H0.out).mono ?_); rintro e w' ⟨rfl, ⟨⟨nd0, rfl⟩⟩⟩; refine ⟨_, rfl, ?_⟩) | ((with_reducible refine gate_callee (f := 47) rfl ?_); refine goesL_ (some 12) rfl rfl Try.func47 (by kernel_rfl) rfl #[.float .f64 a0] rfl aT ?_; (with_reducible refine (r2_Minus.calls a0 true _ H1.out).mono ?_); rintro e w' ⟨rfl, ⟨⟨nd1, rfl⟩⟩⟩; refine ⟨_, rfl, ?_⟩))
  generalize hp1 : p (w.drewN (nd0 + nd1), 4636737291354636288, (Op.negFloat .f64 a0)) = p1
  generalize m (w.drewN (nd0 + nd1), 4636737291354636288, (Op.negFloat .f64 a0)) = m1
  generalize hp2 : p (w.drewN (nd0 + nd1 + m1), p1, (Op.negFloat .f64 a0)) = p2
  generalize m (w.drewN (nd0 + nd1 + m1), p1, (Op.negFloat .f64 a0)) = m2
  generalize hp3 : p (w.drewN (nd0 + nd1 + m1 + m2), p2, (Op.negFloat .f64 a0)) = p3
  generalize m (w.drewN (nd0 + nd1 + m1 + m2), p2, (Op.negFloat .f64 a0)) = m3
  have hz : FR (rcube a0) p3 := by
   unfold rcube
   rw [ha]; exact ((show FR (fop .mul 4636737291354636288 (Op.negFloat .f64 a0)) p1 from hp1 ▸ hf.out _ _ _).fop_l (show FR (fop .mul p1 (Op.negFloat .f64 a0)) p2 from hp2 ▸ hf.out _ _ _)).fop_l (show FR (fop .mul p2 (Op.negFloat .f64 a0)) p3 from hp3 ▸ hf.out _ _ _)
  clear hp1 hp2 hp3 hf hm hr; have hoz := hz.order_l 4666723172467343360; rw [← hoz] at h; clear hoz; have hnz := none_nan p3; rw [← hz.nan] at hnz; have hge : (FloatKind.f64.format.order p3 4666723172467343360 = some .gt ∨ FloatKind.f64.format.order p3 4666723172467343360 = some .eq) ∨ (FloatKind.f64.format.order p3 4666723172467343360 = none ∨ FloatKind.f64.format.order p3 4666723172467343360 = some .lt) := by
   cases FloatKind.f64.format.order p3 4666723172467343360 with
   | none => exact .inr (.inl rfl)
   | some o => cases o <;> simp
  rcases hge with ho | ho
  ·have h2 : r = 10000 := by rcases ho with ho | ho <;> (rw [ho] at h; exact (Option.some.inj h).symm)
   subst h2; clear h hz hnz; rcases ho with ho | ho <;> (go_wp2; go_ret; exact ⟨rfl, ⟨⟨_, rfl⟩⟩⟩)
  have h2 : (if isNan (rcube a0) = true then some 10000 else r2_Badness.l0 k (rcube a0) 0) = some r := by rcases ho with ho | ho <;> (rw [ho] at h; exact h)
  clear h; by_cases hnn : isNan (rcube a0) = true
  ·rw [if_pos hnn] at h2
   rw [hnn] at hnz; obtain rfl := Option.some.inj h2
   have H2 := zA.mk hnz; clear hnz hz hnn; rcases ho with ho | ho <;> (go_wp2_with (first | (((with_reducible refine gate_callee (f := 46) rfl ?_); (refine gate_guard (by rfl) ?_; dsimp only); refine goesL_ (some 27) rfl rfl Try.func46 (by kernel_rfl) rfl #[.float .f64 p3] rfl aT ?_; (with_reducible refine (r2_None.calls p3 true _ H2.out).mono ?_); rintro e w' ⟨rfl, ⟨⟨nd2, rfl⟩⟩⟩; refine ⟨_, rfl, ?_⟩))); go_ret; exact ⟨rfl, ⟨⟨_, rfl⟩⟩⟩)
  rw [if_neg hnn] at h2; have hnn' : isNan (rcube a0) = false := by simpa using hnn
  rw [hnn'] at hnz; have H2 := zA.mk hnz; clear hnz; obtain rfl := hz.eq_of hnn'
  have H' := zA.mk h2
  clear h2 hnn hnn' hz; generalize rcube a0 = z at *
  rcases ho with ho | ho <;> (go_wp2_with (first | (((with_reducible refine gate_callee (f := 46) rfl ?_); (refine gate_guard (by rfl) ?_; dsimp only); refine goesL_ (some 27) rfl rfl Try.func46 (by kernel_rfl) rfl #[.float .f64 z] rfl aT ?_; (with_reducible refine (r2_None.calls z false _ H2.out).mono ?_); rintro e w' ⟨rfl, ⟨⟨nd2, rfl⟩⟩⟩; refine ⟨_, rfl, ?_⟩))); clear ho; go_loopg [7] k (fun kq v7 w' => ∃ (x7_1 : Int), v7 = .int .i64 x7_1 ∧ zA (r2_Badness.l0 kq z x7_1 = some r) ∧ zA (kq ≤ k) ∧ zA (Drawn0 w w')); (case atStart => exact ⟨0, rfl, H', ⟨Nat.le_refl _⟩, ⟨⟨⟨_, rfl⟩⟩⟩⟩); clear H'; obtain ⟨n, rfl, HA, HK1, HB⟩ := hrel; cases gk with
   | zero => exact absurd HA.out (by simp [r2_Badness.l0])
   | succ k1 =>
    have H := HA.out; clear HA; simp only [r2_Badness.l0] at H; rcases bad_step (floatOfInt .f64 (wrap64 (n + 1))) z with ho | ho
    ·have H2 : r2_Badness.l0 k1 z (wrap64 (n + 1)) = some r := by rcases ho with ho | ho <;> (rw [ho] at H; exact H)
     have H' := zA.mk H2
     clear H H2; rcases ho with ho | ho <;> (go_wp2; go_roundg k1; (case measure => have := HK1.out; omega); (case rel => exact ⟨wrap64 (n + 1), rfl, H', ⟨by have := HK1.out; omega⟩, ⟨by repeat (first | exact HB.out | apply Drawn0.step)⟩⟩))
    ·have H2 : n = r := by rcases ho with ho | ho <;> (rw [ho] at H; exact Option.some.inj H)
     subst H2; clear H; rcases ho with ho | ho <;> (go_wp2; go_ret; exact ⟨rfl, by repeat (first | exact HB.out | apply Drawn0.step)⟩))
 | false =>
  rw [hs] at H1; have ha : rabs a0 = a0 := by unfold rabs; rw [hs]; rfl
  go_enter Try.func35, Try.ntmps35
  go_upto_region 9 with (first | ((with_reducible refine gate_callee (f := 46) rfl ?_); refine goesL_ (some 9) rfl rfl Try.func46 (by kernel_rfl) rfl #[.float .f64 a0] rfl aT ?_; (with_reducible refine (r2_None.calls a0 false _ H0.out).mono ?_); rintro e w' ⟨rfl, ⟨⟨nd0, rfl⟩⟩⟩; refine ⟨_, rfl, ?_⟩) | ((with_reducible refine gate_callee (f := 47) rfl ?_); refine goesL_ (some 12) rfl rfl Try.func47 (by kernel_rfl) rfl #[.float .f64 a0] rfl aT ?_; (with_reducible refine (r2_Minus.calls a0 false _ H1.out).mono ?_); rintro e w' ⟨rfl, ⟨⟨nd1, rfl⟩⟩⟩; refine ⟨_, rfl, ?_⟩))
  generalize hp1 : p (w.drewN (nd0 + nd1), 4636737291354636288, a0) = p1
  generalize m (w.drewN (nd0 + nd1), 4636737291354636288, a0) = m1
  generalize hp2 : p (w.drewN (nd0 + nd1 + m1), p1, a0) = p2
  generalize m (w.drewN (nd0 + nd1 + m1), p1, a0) = m2
  generalize hp3 : p (w.drewN (nd0 + nd1 + m1 + m2), p2, a0) = p3
  generalize m (w.drewN (nd0 + nd1 + m1 + m2), p2, a0) = m3
  have hz : FR (rcube a0) p3 := by
   unfold rcube
   rw [ha]; exact ((show FR (fop .mul 4636737291354636288 a0) p1 from hp1 ▸ hf.out _ _ _).fop_l (show FR (fop .mul p1 a0) p2 from hp2 ▸ hf.out _ _ _)).fop_l (show FR (fop .mul p2 a0) p3 from hp3 ▸ hf.out _ _ _)
  clear hp1 hp2 hp3 hf hm hr; have hoz := hz.order_l 4666723172467343360; rw [← hoz] at h; clear hoz; have hnz := none_nan p3; rw [← hz.nan] at hnz; have hge : (FloatKind.f64.format.order p3 4666723172467343360 = some .gt ∨ FloatKind.f64.format.order p3 4666723172467343360 = some .eq) ∨ (FloatKind.f64.format.order p3 4666723172467343360 = none ∨ FloatKind.f64.format.order p3 4666723172467343360 = some .lt) := by
   cases FloatKind.f64.format.order p3 4666723172467343360 with
   | none => exact .inr (.inl rfl)
   | some o => cases o <;> simp
  rcases hge with ho | ho
  ·have h2 : r = 10000 := by rcases ho with ho | ho <;> (rw [ho] at h; exact (Option.some.inj h).symm)
   subst h2; clear h hz hnz; rcases ho with ho | ho <;> (go_wp2; go_ret; exact ⟨rfl, ⟨⟨_, rfl⟩⟩⟩)
  have h2 : (if isNan (rcube a0) = true then some 10000 else r2_Badness.l0 k (rcube a0) 0) = some r := by rcases ho with ho | ho <;> (rw [ho] at h; exact h)
  clear h; by_cases hnn : isNan (rcube a0) = true
  ·rw [if_pos hnn] at h2
   rw [hnn] at hnz; obtain rfl := Option.some.inj h2
   have H2 := zA.mk hnz; clear hnz hz hnn; rcases ho with ho | ho <;> (go_wp2_with (first | (((with_reducible refine gate_callee (f := 46) rfl ?_); (refine gate_guard (by rfl) ?_; dsimp only); refine goesL_ (some 27) rfl rfl Try.func46 (by kernel_rfl) rfl #[.float .f64 p3] rfl aT ?_; (with_reducible refine (r2_None.calls p3 true _ H2.out).mono ?_); rintro e w' ⟨rfl, ⟨⟨nd2, rfl⟩⟩⟩; refine ⟨_, rfl, ?_⟩))); go_ret; exact ⟨rfl, ⟨⟨_, rfl⟩⟩⟩)
  rw [if_neg hnn] at h2; have hnn' : isNan (rcube a0) = false := by simpa using hnn
  rw [hnn'] at hnz; have H2 := zA.mk hnz; clear hnz; obtain rfl := hz.eq_of hnn'
  have H' := zA.mk h2
  clear h2 hnn hnn' hz; generalize rcube a0 = z at *
  rcases ho with ho | ho <;> (go_wp2_with (first | (((with_reducible refine gate_callee (f := 46) rfl ?_); (refine gate_guard (by rfl) ?_; dsimp only); refine goesL_ (some 27) rfl rfl Try.func46 (by kernel_rfl) rfl #[.float .f64 z] rfl aT ?_; (with_reducible refine (r2_None.calls z false _ H2.out).mono ?_); rintro e w' ⟨rfl, ⟨⟨nd2, rfl⟩⟩⟩; refine ⟨_, rfl, ?_⟩))); clear ho; go_loopg [7] k (fun kq v7 w' => ∃ (x7_1 : Int), v7 = .int .i64 x7_1 ∧ zA (r2_Badness.l0 kq z x7_1 = some r) ∧ zA (kq ≤ k) ∧ zA (Drawn0 w w')); (case atStart => exact ⟨0, rfl, H', ⟨Nat.le_refl _⟩, ⟨⟨⟨_, rfl⟩⟩⟩⟩); clear H'; obtain ⟨n, rfl, HA, HK1, HB⟩ := hrel; cases gk with
   | zero => exact absurd HA.out (by simp [r2_Badness.l0])
   | succ k1 =>
    have H := HA.out; clear HA; simp only [r2_Badness.l0] at H; rcases bad_step (floatOfInt .f64 (wrap64 (n + 1))) z with ho | ho
    ·have H2 : r2_Badness.l0 k1 z (wrap64 (n + 1)) = some r := by rcases ho with ho | ho <;> (rw [ho] at H; exact H)
     have H' := zA.mk H2
     clear H H2; rcases ho with ho | ho <;> (go_wp2; go_roundg k1; (case measure => have := HK1.out; omega); (case rel => exact ⟨wrap64 (n + 1), rfl, H', ⟨by have := HK1.out; omega⟩, ⟨by repeat (first | exact HB.out | apply Drawn0.step)⟩⟩))
    ·have H2 : n = r := by rcases ho with ho | ho <;> (rw [ho] at H; exact Option.some.inj H)
     subst H2; clear H; rcases ho with ho | ho <;> (go_wp2; go_ret; exact ⟨rfl, by repeat (first | exact HB.out | apply Drawn0.step)⟩))
mutual
def r3_Cost.j0 : Nat → Int → Int → Bool → Bool → List (S66) → List Int → Int → Int → Int → Int → Int → Nat → Option (Int × Bool)
 | 0, _, _, _, _, _, _, _, _, _, _, _, _ => none
 | k + 1, x1, x2, x3, x26, x418000, x418001, x419000, x419001, x419002, x419003, x419004, x419005 => if x26 = true then (some (0, false)) else (if 0 ≤ x2 then (if x2 < (x418001.length : Int) then ((r3_Cells.f k x418000 x418001 x1 x2 (rd x418001 x2) x419001).bind fun t421 => (if t421 > x419000 then (some (0, false)) else (if x3 = true then (r3_Cost.j1 k x1 x2 0 x418000 x418001 x419000 x419001 x419002 x419003 x419004 x419005) else ((r3_Gaps.f k x418000 x418001 x1 x2).bind fun t422 => ((r2_Of.f (wrap64 (x419000 - t421)) t422).bind fun t423 => (if (FloatKind.f64.format.order t423 x419005 == some .gt) = true then (some (0, false)) else ((r2_Badness.f k t423).bind fun t424 => (r3_Cost.j1 k x1 x2 t424 x418000 x418001 x419000 x419001 x419002 x419003 x419004 x419005)))))))) else (none)) else (none))
def r3_Cost.j1 : Nat → Int → Int → Int → List (S66) → List Int → Int → Int → Int → Int → Int → Nat → Option (Int × Bool)
 | 0, _, _, _, _, _, _, _, _, _, _, _ => none
 | k + 1, x1, x2, x13, x418000, x418001, x419000, x419001, x419002, x419003, x419004, x419005 => if 0 ≤ x2 then (if x2 < (x418001.length : Int) then (if (rd x418001 x2) = 3 then (if 0 ≤ x1 then (if x1 < (x418001.length : Int) then (if (rd x418001 x1) = 3 then (some (wrap64 ((wrap64 ((wrap64 ((wrap64 (100 + (wrap64 (20 * x13)))) + (wrap64 (x13 * x13)))) + x419003)) + x419004), true)) else (some (wrap64 ((wrap64 ((wrap64 (100 + (wrap64 (20 * x13)))) + (wrap64 (x13 * x13)))) + x419003), true))) else (none)) else (none)) else (some (wrap64 ((wrap64 (100 + (wrap64 (20 * x13)))) + (wrap64 (x13 * x13))), true))) else (none)) else (none)
end
def r3_Cost.f (k : Nat) (l0_0 : List (S66)) (l0_1 : List Int) (a1 : Int) (a2 : Int) (a3 : Bool) (a4_0 : Int) (a4_1 : Int) (a4_2 : Int) (a4_3 : Int) (a4_4 : Int) (a4_5 : Nat) : Option (Int × Bool) := if a2 ≤ a1 then (r3_Cost.j0 k a1 a2 a3 true l0_0 l0_1 a4_0 a4_1 a4_2 a4_3 a4_4 a4_5) else (if 0 ≤ a2 then (if a2 < (l0_1.length : Int) then (r3_Cost.j0 k a1 a2 a3 ((rd l0_1 a2) == 0) l0_0 l0_1 a4_0 a4_1 a4_2 a4_3 a4_4 a4_5) else (none)) else (none))
theorem r3_Cost.mono_l : ∀ k, (∀ y0 y1 y2 y3 y4 y5 y6 y7 y8 y9 y10 y11, LeO (r3_Cost.j0 k y0 y1 y2 y3 y4 y5 y6 y7 y8 y9 y10 y11) (r3_Cost.j0 (k + 1) y0 y1 y2 y3 y4 y5 y6 y7 y8 y9 y10 y11)) ∧ (∀ y0 y1 y2 y3 y4 y5 y6 y7 y8 y9 y10, LeO (r3_Cost.j1 k y0 y1 y2 y3 y4 y5 y6 y7 y8 y9 y10) (r3_Cost.j1 (k + 1) y0 y1 y2 y3 y4 y5 y6 y7 y8 y9 y10))
 | 0 => ⟨fun _ _ _ _ _ _ _ _ _ _ _ _ r h => by simp [r3_Cost.j0] at h, fun _ _ _ _ _ _ _ _ _ _ _ r h => by simp [r3_Cost.j1] at h⟩
 | k + 1 => by
  obtain ⟨ih0, ih1⟩ := r3_Cost.mono_l k; refine ⟨?_, ?_⟩
  ·intro y0 y1 y2 y3 y4 y5 y6 y7 y8 y9 y10 y11
   unfold r3_Cost.j0
   repeat' (with_reducible first | exact ih0 _ _ _ _ _ _ _ _ _ _ _ _ | exact ih1 _ _ _ _ _ _ _ _ _ _ _ | exact r2_Badness.mono _ _ | exact r3_Cells.mono _ _ _ _ _ _ _ | exact r3_Gaps.mono _ _ _ _ _ | exact LeO.refl _ | exact LeO.none _ | refine LeO.ite ?_ ?_ | refine LeO.bind ?_ (fun _ => ?_))
  ·intro y0 y1 y2 y3 y4 y5 y6 y7 y8 y9 y10
   unfold r3_Cost.j1
   repeat' (with_reducible first | exact ih0 _ _ _ _ _ _ _ _ _ _ _ _ | exact ih1 _ _ _ _ _ _ _ _ _ _ _ | exact r2_Badness.mono _ _ | exact r3_Cells.mono _ _ _ _ _ _ _ | exact r3_Gaps.mono _ _ _ _ _ | exact LeO.refl _ | exact LeO.none _ | refine LeO.ite ?_ ?_ | refine LeO.bind ?_ (fun _ => ?_))
theorem r3_Cost.mono : ∀ a0 a1 a2 a3 a4 a5 a6 a7 a8 a9 a10 k, LeO (r3_Cost.f k a0 a1 a2 a3 a4 a5 a6 a7 a8 a9 a10) (r3_Cost.f (k + 1) a0 a1 a2 a3 a4 a5 a6 a7 a8 a9 a10) := by
 intro a0 a1 a2 a3 a4 a5 a6 a7 a8 a9 a10 k
 obtain ⟨ih0, ih1⟩ := r3_Cost.mono_l k; unfold r3_Cost.f
 repeat' (with_reducible first | exact ih0 _ _ _ _ _ _ _ _ _ _ _ _ | exact ih1 _ _ _ _ _ _ _ _ _ _ _ | exact r2_Badness.mono _ _ | exact r3_Cells.mono _ _ _ _ _ _ _ | exact r3_Gaps.mono _ _ _ _ _ | exact LeO.refl _ | exact LeO.none _ | refine LeO.ite ?_ ?_ | refine LeO.bind ?_ (fun _ => ?_))
def r3_Cost.T3 : Bool × List (List Nat × List Nat) := (true, [([], []), ([], []), ([], []), ([], []), ([3], [3]), ([], []), ([4, 5], [4, 5]), ([6], [6]), ([], []), ([8], [8]), ([0, 1, 2, 7, 9], [0, 1, 2, 7, 9]), ([10, 10, 0, 1, 2, 3, 4, 5, 6, 7, 8, 9, 10], [10])])
def r3_Cost.B3 : List Nat := [0, 0, 0, 0, 8, 0, 56, 120, 0, 256, 1023, 2047]
theorem r3_Cost.tab3 : rtab .any (opsOf Try.f25 3) = r3_Cost.T3 := by kernel_rfl
theorem r3_Cost.bits3 : waitsOk r3_Cost.T3.2 r3_Cost.B3 = true := by kernel_rfl
def r3_Cost.T8 : Bool × List (List Nat × List Nat) := (true, [([], []), ([0], [0]), ([], []), ([1, 2], [1, 2]), ([], []), ([], []), ([], []), ([4, 5, 6], [4, 5, 6]), ([3, 7, 7], [3, 7]), ([8, 8, 0, 1, 2, 3, 4, 5, 6, 7, 8], [8])])
def r3_Cost.B8 : List Nat := [0, 1, 0, 7, 0, 0, 0, 112, 255, 511]
theorem r3_Cost.tab8 : rtab .any (opsOf Try.f25 8) = r3_Cost.T8 := by kernel_rfl
theorem r3_Cost.bits8 : waitsOk r3_Cost.T8.2 r3_Cost.B8 = true := by kernel_rfl
set_option maxHeartbeats 8000000 in
set_option maxRecDepth 100000 in
theorem r3_Cost.calls (k : Nat) (A0_0 : Option Addr) (c0_0 : Nat) (l0_0 : List (S66)) (A0_1 : Option Addr) (c0_1 : Nat) (l0_1 : List Int) (a1 : Int) (a2 : Int) (a3 : Bool) (a4_0 : Int) (a4_1 : Int) (a4_2 : Int) (a4_3 : Int) (a4_4 : Int) (a4_5 : Nat) (r1 : Int) (r2 : Bool) (w : World) (hr0_0 : Kd.C k66 w A0_0 l0_0.length l0_0) (hc0_0 : l0_0.length ≤ c0_0) (hr0_1 : Kd.C (Kd.int .u8) w A0_1 l0_1.length l0_1) (hc0_1 : l0_1.length ≤ c0_1) (h : r3_Cost.f k l0_0 l0_1 a1 a2 a3 a4_0 a4_1 a4_2 a4_3 a4_4 a4_5 = some (r1, r2)) :
  Calls Try.prog 25 #[.agg #[.slice A0_0 l0_0.length c0_0, .slice A0_1 l0_1.length c0_1], .int .i64 a1, .int .i64 a2, .bool a3, .agg #[.int .i64 a4_0, .int .i64 a4_1, .int .u8 a4_2, .int .i64 a4_3, .int .i64 a4_4, .float .f64 a4_5]] w fun e w' => e = .returned (.tuple #[.int .i64 r1, .bool r2]) ∧ Below w.heap.size w w' := by
 have hu31 := Try.underlying31; have hu35 := Try.underlying35; have HR0_0 := zA.mk hr0_0; have HC0_0 := zA.mk hc0_0; clear hr0_0 hc0_0; have HR0_1 := zA.mk hr0_1; have HC0_1 := zA.mk hc0_1; clear hr0_1 hc0_1; have HB := zA.mk (Below.refl w.heap.size w); have H : (if a2 ≤ a1 then (r3_Cost.j0 k a1 a2 a3 true l0_0 l0_1 a4_0 a4_1 a4_2 a4_3 a4_4 a4_5) else (if 0 ≤ a2 then (if a2 < (l0_1.length : Int) then (r3_Cost.j0 k a1 a2 a3 ((rd l0_1 a2) == 0) l0_0 l0_1 a4_0 a4_1 a4_2 a4_3 a4_4 a4_5) else (none)) else (none))) = some (r1, r2) := h
 clear h; have HC6 := zA.mk H; clear H; go_enter Try.func25, Try.ntmps25
 go_upto_region 1 with (first | ((with_reducible refine gate_dst (N := 5) rfl ?_); refine box_event ?hg (N := 5) ?hd (cs := #[.slice A0_0 l0_0.length c0_0, .slice A0_1 l0_1.length c0_1]) (t := 31) ?hr ?_; (case hd => rfl); (case hg => rfl); (case hr => first | (go_simp; done) | (go_simp; rfl)); intro gb417 hg w7 hbox hb; have BK417 := zA.mk (hbox); have GW417 := zA.mk ((by rw [hg]; exact (zH (aL HB)) : w.heap.size ≤ gb417)); replace HB := zA.mk (zD (aL HB) hb); have GE417 := GW417; clear hb hbox hg) | ((with_reducible refine gate_dst (N := 9) rfl ?_); refine box_event ?hg (N := 9) ?hd (cs := #[.int .i64 a4_0, .int .i64 a4_1, .int .u8 a4_2, .int .i64 a4_3, .int .i64 a4_4, .float .f64 a4_5]) (t := 35) ?hr ?_; (case hd => rfl); (case hg => rfl); (case hr => first | (go_simp; done) | (go_simp; rfl)); intro gb418 hg w8 hbox hb; have BK418 := zA.mk (hbox); have GW418 := zA.mk ((by rw [hg]; exact (zH (aL HB)) : w.heap.size ≤ gb418)); replace HB := zA.mk (zD (aL HB) hb); have GE418 := GW418; have NB417_418 := zA.mk ((by rw [hg]; exact Nat.ne_of_lt (blk_lt (aB BK417)) : gb417 ≠ gb418)); have NB418_417 := zA.mk ((by rw [hg]; exact Nat.ne_of_gt (blk_lt (g := gb417) (o := .cells #[.slice A0_0 l0_0.length c0_0, .slice A0_1 l0_1.length c0_1] 31 (0, 0)) (aB BK417)) : gb418 ≠ gb417)); replace BK417 := zA.mk (zC (aB BK417) hb); clear hb hbox hg))
 (try simp only [Act.put, sA_, sB_, sC_])
 go_cut [26] (fun v26 wc => ∃ (kq : Nat) (x26_5 : Bool), v26 = .bool x26_5 ∧ zA (r3_Cost.j0 kq a1 a2 a3 x26_5 l0_0 l0_1 a4_0 a4_1 a4_2 a4_3 a4_4 a4_5 = some (r1, r2)) ∧ zA (kq ≤ k) ∧ zA (wc.heap[gb417]? = some (.cells #[(.slice A0_0 l0_0.length c0_0), (.slice A0_1 l0_1.length c0_1)] 31 (0, 0))) ∧ zA (wc.heap[gb418]? = some (.cells #[.int .i64 a4_0, .int .i64 a4_1, .int .u8 a4_2, .int .i64 a4_3, .int .i64 a4_4, .float .f64 a4_5] 35 (0, 0))) ∧ zA (Below w.heap.size w wc))
 case first =>
  have H := HC6.out; clear HC6; by_cases c9 : a2 ≤ a1
  ·rw [if_pos c9] at H
   have c9b0 : decide (a2 ≤ a1) = true := decide_eq_true c9
   clear c9; (first | rw [c9b0] | (simp only [i64_w, i32_w]; rw [c9b0]) | skip)
   have H' := zA.mk H
   clear H; go_wp2
   go_meet
   case rel => exact ⟨_, (true), aZ, H', ⟨by first | omega | exact Nat.le_refl _⟩, ⟨aB BK417⟩, ⟨aB BK418⟩, ⟨aL HB⟩⟩
  rw [if_neg c9] at H; have c9b0 : decide (a2 ≤ a1) = false := decide_eq_false c9
  clear c9; (first | rw [c9b0] | (simp only [i64_w, i32_w]; rw [c9b0]) | skip)
  by_cases c10 : 0 ≤ a2
  rotate_left
  ·rw [if_neg c10] at H
   exact absurd H (by simp)
  rw [if_pos c10] at H; have c10b0 : decide (0 ≤ a2) = true := decide_eq_true c10
  clear c10; by_cases c11 : a2 < (l0_1.length : Int)
  rotate_left
  ·rw [if_neg c11] at H
   exact absurd H (by simp)
  rw [if_pos c11] at H; have c11b0 : decide (a2 < (l0_1.length : Int)) = true := decide_eq_true c11
  clear c11; have H' := zA.mk H
  clear H; have hnb12 := NB417_418.out; have hnc12 := NB418_417.out; obtain ⟨hcz13_0, hcz13_1, hfz13_0, hfz13_1⟩ := aC2 BK417; have p419 : 0 ≤ (a2 : Int) := aD
  have q419 : a2 < (l0_1.length : Int) := aD
  obtain ⟨ad419, e419, hx419_0⟩ := Kd.at_int HR0_1.out a2 p419 q419; cases e419
  replace hx419_0 := (HB.out.cell (World.block_lt_of_cell? w _ hx419_0)).trans hx419_0; replace p419 := eq_true p419; replace q419 := eq_true q419; go_wp2
  go_meet
  case rel => exact ⟨_, (((rd l0_1 a2) == 0)), aZ, H', ⟨by first | omega | exact Nat.le_refl _⟩, ⟨aB BK417⟩, ⟨aB BK418⟩, ⟨aL HB⟩⟩
 clear HC6; obtain ⟨kq, x26_5, rfl, HA, HJ5, BK417, BK418, HB⟩ := hcut; cases kq with
 | zero => exact absurd HA.out (by simp [r3_Cost.j0])
 | succ kj5 =>
  have H := HA.out; clear HA; simp only [r3_Cost.j0] at H; by_cases c14 : x26_5 = true
  ·subst c14
   have H1 : (some (0, false)) = some (r1, r2) := by rw [if_pos rfl] at H; exact H
   clear H; have H := H1; clear H1; simp only [Option.some.injEq, Prod.mk.injEq] at H; obtain ⟨rfl, rfl⟩ := H; go_wp2
   go_ret2
   exact ⟨aX, aL HB⟩
  replace c14 := Bool.eq_false_iff.mpr c14; subst c14; have H1 : (if 0 ≤ a2 then (if a2 < (l0_1.length : Int) then ((r3_Cells.f kj5 l0_0 l0_1 a1 a2 (rd l0_1 a2) a4_1).bind fun t421 => (if t421 > a4_0 then (some (0, false)) else (if a3 = true then (r3_Cost.j1 kj5 a1 a2 0 l0_0 l0_1 a4_0 a4_1 a4_2 a4_3 a4_4 a4_5) else ((r3_Gaps.f kj5 l0_0 l0_1 a1 a2).bind fun t422 => ((r2_Of.f (wrap64 (a4_0 - t421)) t422).bind fun t423 => (if (FloatKind.f64.format.order t423 a4_5 == some .gt) = true then (some (0, false)) else ((r2_Badness.f kj5 t423).bind fun t424 => (r3_Cost.j1 kj5 a1 a2 t424 l0_0 l0_1 a4_0 a4_1 a4_2 a4_3 a4_4 a4_5)))))))) else (none)) else (none)) = some (r1, r2) := by rw [if_neg (show ¬ (false = true) by decide)] at H; exact H
  clear H; have H := H1; clear H1; by_cases c15 : 0 ≤ a2
  rotate_left
  ·rw [if_neg c15] at H
   exact absurd H (by simp)
  rw [if_pos c15] at H; have c15b0 : decide (0 ≤ a2) = true := decide_eq_true c15
  clear c15; by_cases c16 : a2 < (l0_1.length : Int)
  rotate_left
  ·rw [if_neg c16] at H
   exact absurd H (by simp)
  rw [if_pos c16] at H; have c16b0 : decide (a2 < (l0_1.length : Int)) = true := decide_eq_true c16
  clear c16; replace H := Option.bind_eq_some_iff.mp H; obtain ⟨t421, A170, H⟩ := H; replace H : (if t421 > a4_0 then (some (0, false)) else (if a3 = true then (r3_Cost.j1 kj5 a1 a2 0 l0_0 l0_1 a4_0 a4_1 a4_2 a4_3 a4_4 a4_5) else ((r3_Gaps.f kj5 l0_0 l0_1 a1 a2).bind fun t422 => ((r2_Of.f (wrap64 (a4_0 - t421)) t422).bind fun t423 => (if (FloatKind.f64.format.order t423 a4_5 == some .gt) = true then (some (0, false)) else ((r2_Badness.f kj5 t423).bind fun t424 => (r3_Cost.j1 kj5 a1 a2 t424 l0_0 l0_1 a4_0 a4_1 a4_2 a4_3 a4_4 a4_5))))))) = some (r1, r2) := H
  have A17 := zA.mk A170; clear A170; by_cases c18 : t421 > a4_0
  ·rw [if_pos c18] at H
   have c18b0 : decide (a4_0 < t421) = true := decide_eq_true c18
   clear c18; simp only [Option.some.injEq, Prod.mk.injEq] at H; obtain ⟨rfl, rfl⟩ := H; try go_wp2
   replace BK417 := zA.mk (zF BK417.out); replace BK418 := zA.mk (zF BK418.out); replace HB := zA.mk (below_drew1 HB.out); have p420 : 0 ≤ (a2 : Int) := aD
   have q420 : a2 < (l0_1.length : Int) := aD
   obtain ⟨ad420, e420, hx420_0⟩ := Kd.at_int HR0_1.out a2 p420 q420; have hw420_0 := hx420_0; cases e420
   replace hx420_0 := (HB.out.cell (World.block_lt_of_cell? w _ hx420_0)).trans hx420_0; replace p420 := eq_true p420; replace q420 := eq_true q420; refine start_ (n := 12) (S := fun w' => w'.cell? ⟨gb417, 0, none⟩ = some (.slice A0_0 l0_0.length c0_0) ∧ w'.cell? ⟨gb417, 1, none⟩ = some (.slice (some ad420) l0_1.length c0_1) ∧ w'.cell? ⟨gb418, 0, none⟩ = some (.int .i64 a4_0) ∧ w'.cell? ⟨gb418, 1, none⟩ = some (.int .i64 a4_1) ∧ w'.cell? ⟨gb418, 2, none⟩ = some (.int .u8 a4_2) ∧ w'.cell? ⟨gb418, 3, none⟩ = some (.int .i64 a4_3) ∧ w'.cell? ⟨gb418, 4, none⟩ = some (.int .i64 a4_4) ∧ w'.cell? ⟨gb418, 5, none⟩ = some (.float .f64 a4_5) ∧ w'.cell? (ad420.add (a2).toNat) = some (.int .u8 (rd l0_1 a2))) (ds := []) #[false, false, false, false, false, false, false, false, false, false, false, false] (by kernel_rfl) rfl rfl ⟨(zB BK417.out 0).trans rfl, (zB BK417.out 1).trans rfl, (zB BK418.out 0).trans rfl, (zB BK418.out 1).trans rfl, (zB BK418.out 2).trans rfl, (zB BK418.out 3).trans rfl, (zB BK418.out 4).trans rfl, (zB BK418.out 5).trans rfl, ((HB.out.cell (World.block_lt_of_cell? w _ hw420_0)).trans hw420_0)⟩ (fun hHeld => ?_); refine with_tabW r3_Cost.tab3 r3_Cost.bits3 (fun HT_ HW_ => ?_)
   generalize wc.drew = w19 at BK417 BK418 HB hx420_0 hHeld ⊢
   refine aP 1 (some 28) (tb_ 2 12) HT_ ?_
   refine aP 2 (some 29) (tb_ 6 12) HT_ ?_
   refine aP 3 (some 30) (tb_ 14 12) HT_ ?_
   refine aP 5 (some 32) (tb_ 46 12) HT_ ?_
   refine aP 8 (some 35) (tb_ 302 12) HT_ ?_
   refine take_ (i := 0) (N := some 27) (v := ?_) (a' := ?_) (tb_ 303 12) rfl rfl (take_ofW HT_.out HW_.out (by kernel_rfl)) (fun _ _ _ h => h) (Or.inl ⟨by rfl, ?_⟩) hHeld ?_ ?_
   rotate_left
   ·rintro w' ⟨s0, s1, s2, s3, s4, s5, s6, s7, s8⟩
    go_simp
    with_reducible rfl
   rotate_left
   ·simp only [Act.put, sA_, sB_, sC_, i64_w, i32_w]
    rfl
   refine take_ (i := 4) (N := some 31) (v := ?_) (a' := ?_) (tb_ 319 12) rfl rfl (take_ofW HT_.out HW_.out (by kernel_rfl)) (fun _ _ _ h => h) (Or.inl ⟨by rfl, ?_⟩) hHeld ?_ ?_
   rotate_left
   ·rintro w' ⟨s0, s1, s2, s3, s4, s5, s6, s7, s8⟩
    go_simp
    with_reducible rfl
   rotate_left
   ·simp only [Act.put, sA_, sB_, sC_, i64_w, i32_w]
    rfl
   refine aP 6 (some 33) (tb_ 383 12) HT_ ?_
   refine take_ (i := 7) (N := some 34) (v := ?_) (a' := ?_) (tf_ 9 12) rfl rfl (take_ofW HT_.out HW_.out (by kernel_rfl)) (fun _ _ _ h => h) (Or.inl ⟨by rfl, ?_⟩) hHeld ?_ ?_
   rotate_left
   ·rintro w' ⟨s0, s1, s2, s3, s4, s5, s6, s7, s8⟩
    go_simp
    with_reducible rfl
   rotate_left
   ·simp only [Act.put, sA_, sB_, sC_, i64_w, i32_w]
    rfl
   refine take_ (i := 9) (N := some 36) (v := ?_) (a' := ?_) (tf_ 10 12) rfl rfl (take_ofW HT_.out HW_.out (by kernel_rfl)) (fun _ _ _ h => h) (Or.inl ⟨by rfl, ?_⟩) hHeld ?_ ?_
   rotate_left
   ·rintro w' ⟨s0, s1, s2, s3, s4, s5, s6, s7, s8⟩
    go_simp
    with_reducible rfl
   rotate_left
   ·simp only [Act.put, sA_, sB_, sC_, i64_w, i32_w]
    rfl
   refine one_ (i := 10) (N := some 37) (tb_ 2047 12) rfl rfl (one_of HT_.out (by kernel_rfl)) (by decide) (fun K hK => ?_)
   refine goes_ Try.func32 (by kernel_rfl) rfl #[.agg #[.slice A0_0 l0_0.length c0_0, .slice (some ad420) l0_1.length c0_1], .int .i64 a1, .int .i64 a2, .int .u8 (rd l0_1 a2), .int .i64 a4_1] (by rfl) rfl rfl aT ?_
   with_reducible refine (r3_Cells.calls kj5 _ _ l0_0 _ _ l0_1 a1 a2 (rd l0_1 a2) a4_1 t421 _ ?side1 ?side2 ?side3 ?side4 A17.out).mono ?_
   (case side1 => exact aA HR0_0 HB)
   (case side2 => exact HC0_0.out)
   (case side3 => exact aA HR0_1 HB)
   (case side4 => exact HC0_1.out)
   rintro e w20 ⟨rfl, hb⟩
   refine ⟨_, rfl, ?_⟩
   replace BK417 := zA.mk (zC (aB BK417) hb); replace BK418 := zA.mk (zC (aB BK418) hb); replace HB := zA.mk (zD (aL HB) hb); (try clear hb)
   (try clear hb2)
   (try clear hk)
   (try clear hi)
   refine hK.out _ _ ⟨(zB BK417.out 0).trans rfl, (zB BK417.out 1).trans rfl, (zB BK418.out 0).trans rfl, (zB BK418.out 1).trans rfl, (zB BK418.out 2).trans rfl, (zB BK418.out 3).trans rfl, (zB BK418.out 4).trans rfl, (zB BK418.out 5).trans rfl, ((HB.out.cell (World.block_lt_of_cell? w _ hw420_0)).trans hw420_0)⟩ (fun hHeld => ?_)
   clear hK K; refine norm_ (a' := ?_) ?_ ?_
   rotate_left
   ·show Act.put _ (some 37) _ = _
    simp only [Act.put, sA_, sB_, sC_, i64_w, i32_w]; rfl
   refine aP 11 (some 12) (tb_ 4095 12) HT_ ?_
   refine done_ (done_of HT_.out (by kernel_rfl)) ?_
   have hnb21 := NB418_417.out; have hnc21 := NB417_418.out; obtain ⟨hcz22_0, hcz22_1, hcz22_2, hcz22_3, hcz22_4, hcz22_5, hfz22_0, hfz22_1, hfz22_2, hfz22_3, hfz22_4, hfz22_5⟩ := aC6 BK418; try go_wp2
   go_ret2
   exact ⟨aX, aL HB⟩
  rw [if_neg c18] at H; have c18b0 : decide (a4_0 < t421) = false := decide_eq_false c18
  clear c18; have HC23 := zA.mk H; clear H; try go_wp2
  replace BK417 := zA.mk (zF BK417.out); replace BK418 := zA.mk (zF BK418.out); replace HB := zA.mk (below_drew1 HB.out); have p420 : 0 ≤ (a2 : Int) := aD
  have q420 : a2 < (l0_1.length : Int) := aD
  obtain ⟨ad420, e420, hx420_0⟩ := Kd.at_int HR0_1.out a2 p420 q420; have hw420_0 := hx420_0; cases e420
  replace hx420_0 := (HB.out.cell (World.block_lt_of_cell? w _ hx420_0)).trans hx420_0; replace p420 := eq_true p420; replace q420 := eq_true q420; refine start_ (n := 12) (S := fun w' => w'.cell? ⟨gb417, 0, none⟩ = some (.slice A0_0 l0_0.length c0_0) ∧ w'.cell? ⟨gb417, 1, none⟩ = some (.slice (some ad420) l0_1.length c0_1) ∧ w'.cell? ⟨gb418, 0, none⟩ = some (.int .i64 a4_0) ∧ w'.cell? ⟨gb418, 1, none⟩ = some (.int .i64 a4_1) ∧ w'.cell? ⟨gb418, 2, none⟩ = some (.int .u8 a4_2) ∧ w'.cell? ⟨gb418, 3, none⟩ = some (.int .i64 a4_3) ∧ w'.cell? ⟨gb418, 4, none⟩ = some (.int .i64 a4_4) ∧ w'.cell? ⟨gb418, 5, none⟩ = some (.float .f64 a4_5) ∧ w'.cell? (ad420.add (a2).toNat) = some (.int .u8 (rd l0_1 a2))) (ds := []) #[false, false, false, false, false, false, false, false, false, false, false, false] (by kernel_rfl) rfl rfl ⟨(zB BK417.out 0).trans rfl, (zB BK417.out 1).trans rfl, (zB BK418.out 0).trans rfl, (zB BK418.out 1).trans rfl, (zB BK418.out 2).trans rfl, (zB BK418.out 3).trans rfl, (zB BK418.out 4).trans rfl, (zB BK418.out 5).trans rfl, ((HB.out.cell (World.block_lt_of_cell? w _ hw420_0)).trans hw420_0)⟩ (fun hHeld => ?_); refine with_tabW r3_Cost.tab3 r3_Cost.bits3 (fun HT_ HW_ => ?_)
  generalize wc.drew = w24 at BK417 BK418 HB hx420_0 hHeld ⊢
  refine aP 1 (some 28) (tb_ 2 12) HT_ ?_
  refine aP 2 (some 29) (tb_ 6 12) HT_ ?_
  refine aP 3 (some 30) (tb_ 14 12) HT_ ?_
  refine aP 5 (some 32) (tb_ 46 12) HT_ ?_
  refine aP 8 (some 35) (tb_ 302 12) HT_ ?_
  refine take_ (i := 0) (N := some 27) (v := ?_) (a' := ?_) (tb_ 303 12) rfl rfl (take_ofW HT_.out HW_.out (by kernel_rfl)) (fun _ _ _ h => h) (Or.inl ⟨by rfl, ?_⟩) hHeld ?_ ?_
  rotate_left
  ·rintro w' ⟨s0, s1, s2, s3, s4, s5, s6, s7, s8⟩
   go_simp
   with_reducible rfl
  rotate_left
  ·simp only [Act.put, sA_, sB_, sC_, i64_w, i32_w]
   rfl
  refine take_ (i := 4) (N := some 31) (v := ?_) (a' := ?_) (tb_ 319 12) rfl rfl (take_ofW HT_.out HW_.out (by kernel_rfl)) (fun _ _ _ h => h) (Or.inl ⟨by rfl, ?_⟩) hHeld ?_ ?_
  rotate_left
  ·rintro w' ⟨s0, s1, s2, s3, s4, s5, s6, s7, s8⟩
   go_simp
   with_reducible rfl
  rotate_left
  ·simp only [Act.put, sA_, sB_, sC_, i64_w, i32_w]
   rfl
  refine aP 6 (some 33) (tb_ 383 12) HT_ ?_
  refine take_ (i := 7) (N := some 34) (v := ?_) (a' := ?_) (tf_ 9 12) rfl rfl (take_ofW HT_.out HW_.out (by kernel_rfl)) (fun _ _ _ h => h) (Or.inl ⟨by rfl, ?_⟩) hHeld ?_ ?_
  rotate_left
  ·rintro w' ⟨s0, s1, s2, s3, s4, s5, s6, s7, s8⟩
   go_simp
   with_reducible rfl
  rotate_left
  ·simp only [Act.put, sA_, sB_, sC_, i64_w, i32_w]
   rfl
  refine take_ (i := 9) (N := some 36) (v := ?_) (a' := ?_) (tf_ 10 12) rfl rfl (take_ofW HT_.out HW_.out (by kernel_rfl)) (fun _ _ _ h => h) (Or.inl ⟨by rfl, ?_⟩) hHeld ?_ ?_
  rotate_left
  ·rintro w' ⟨s0, s1, s2, s3, s4, s5, s6, s7, s8⟩
   go_simp
   with_reducible rfl
  rotate_left
  ·simp only [Act.put, sA_, sB_, sC_, i64_w, i32_w]
   rfl
  refine one_ (i := 10) (N := some 37) (tb_ 2047 12) rfl rfl (one_of HT_.out (by kernel_rfl)) (by decide) (fun K hK => ?_)
  refine goes_ Try.func32 (by kernel_rfl) rfl #[.agg #[.slice A0_0 l0_0.length c0_0, .slice (some ad420) l0_1.length c0_1], .int .i64 a1, .int .i64 a2, .int .u8 (rd l0_1 a2), .int .i64 a4_1] (by rfl) rfl rfl aT ?_
  with_reducible refine (r3_Cells.calls kj5 _ _ l0_0 _ _ l0_1 a1 a2 (rd l0_1 a2) a4_1 t421 _ ?side1 ?side2 ?side3 ?side4 A17.out).mono ?_
  (case side1 => exact aA HR0_0 HB)
  (case side2 => exact HC0_0.out)
  (case side3 => exact aA HR0_1 HB)
  (case side4 => exact HC0_1.out)
  rintro e w25 ⟨rfl, hb⟩
  refine ⟨_, rfl, ?_⟩
  replace BK417 := zA.mk (zC (aB BK417) hb); replace BK418 := zA.mk (zC (aB BK418) hb); replace HB := zA.mk (zD (aL HB) hb); (try clear hb)
  (try clear hb2)
  (try clear hk)
  (try clear hi)
  refine hK.out _ _ ⟨(zB BK417.out 0).trans rfl, (zB BK417.out 1).trans rfl, (zB BK418.out 0).trans rfl, (zB BK418.out 1).trans rfl, (zB BK418.out 2).trans rfl, (zB BK418.out 3).trans rfl, (zB BK418.out 4).trans rfl, (zB BK418.out 5).trans rfl, ((HB.out.cell (World.block_lt_of_cell? w _ hw420_0)).trans hw420_0)⟩ (fun hHeld => ?_)
  clear hK K; refine norm_ (a' := ?_) ?_ ?_
  rotate_left
  ·show Act.put _ (some 37) _ = _
   simp only [Act.put, sA_, sB_, sC_, i64_w, i32_w]; rfl
  refine aP 11 (some 12) (tb_ 4095 12) HT_ ?_
  refine done_ (done_of HT_.out (by kernel_rfl)) ?_
  have hnb26 := NB418_417.out; have hnc26 := NB417_418.out; obtain ⟨hcz27_0, hcz27_1, hcz27_2, hcz27_3, hcz27_4, hcz27_5, hfz27_0, hfz27_1, hfz27_2, hfz27_3, hfz27_4, hfz27_5⟩ := aC6 BK418; go_upto_if 43 with (fail)
  go_cut [13] (fun v13 wc => ∃ (kq : Nat) (x13_22 : Int), v13 = .int .i64 x13_22 ∧ zA (r3_Cost.j1 kq a1 a2 x13_22 l0_0 l0_1 a4_0 a4_1 a4_2 a4_3 a4_4 a4_5 = some (r1, r2)) ∧ zA (kq ≤ kj5) ∧ zA (wc.heap[gb417]? = some (.cells #[(.slice A0_0 l0_0.length c0_0), (.slice (some ad420) l0_1.length c0_1)] 31 (0, 0))) ∧ zA (wc.heap[gb418]? = some (.cells #[.int .i64 a4_0, .int .i64 a4_1, .int .u8 a4_2, .int .i64 a4_3, .int .i64 a4_4, .float .f64 a4_5] 35 (0, 0))) ∧ zA (Below w.heap.size w wc))
  case first =>
   have H := HC23.out; clear HC23; by_cases c28 : a3 = true
   ·subst c28
    have H1 : (r3_Cost.j1 kj5 a1 a2 0 l0_0 l0_1 a4_0 a4_1 a4_2 a4_3 a4_4 a4_5) = some (r1, r2) := by rw [if_pos rfl] at H; exact H
    clear H; have H := H1; clear H1; have H' := zA.mk H
    clear H; go_wp2
    go_meet
    case rel => exact ⟨_, (0), aZ, H', ⟨by have := HJ5.out; first | omega | exact Nat.le_refl _⟩, ⟨aB BK417⟩, ⟨aB BK418⟩, ⟨aL HB⟩⟩
   replace c28 := Bool.eq_false_iff.mpr c28; subst c28; have H1 : ((r3_Gaps.f kj5 l0_0 l0_1 a1 a2).bind fun t422 => ((r2_Of.f (wrap64 (a4_0 - t421)) t422).bind fun t423 => (if (FloatKind.f64.format.order t423 a4_5 == some .gt) = true then (some (0, false)) else ((r2_Badness.f kj5 t423).bind fun t424 => (r3_Cost.j1 kj5 a1 a2 t424 l0_0 l0_1 a4_0 a4_1 a4_2 a4_3 a4_4 a4_5))))) = some (r1, r2) := by rw [if_neg (show ¬ (false = true) by decide)] at H; exact H
   clear H; have H := H1; clear H1; replace H := Option.bind_eq_some_iff.mp H; obtain ⟨t422, A290, H⟩ := H; replace H : ((r2_Of.f (wrap64 (a4_0 - t421)) t422).bind fun t423 => (if (FloatKind.f64.format.order t423 a4_5 == some .gt) = true then (some (0, false)) else ((r2_Badness.f kj5 t423).bind fun t424 => (r3_Cost.j1 kj5 a1 a2 t424 l0_0 l0_1 a4_0 a4_1 a4_2 a4_3 a4_4 a4_5)))) = some (r1, r2) := H
   have A29 := zA.mk A290; clear A290; replace H := Option.bind_eq_some_iff.mp H; obtain ⟨t423, A300, H⟩ := H; replace H : (if (FloatKind.f64.format.order t423 a4_5 == some .gt) = true then (some (0, false)) else ((r2_Badness.f kj5 t423).bind fun t424 => (r3_Cost.j1 kj5 a1 a2 t424 l0_0 l0_1 a4_0 a4_1 a4_2 a4_3 a4_4 a4_5))) = some (r1, r2) := H
   have A30 := zA.mk A300; clear A300; by_cases c31 : (FloatKind.f64.format.order t423 a4_5 == some .gt) = true
   ·rw [if_pos c31] at H
    have c31b0 : (FloatKind.f64.format.order t423 a4_5 == some .gt) = true := c31
    (try (have c31b1 : decide (FloatKind.f64.format.order t423 a4_5 = some .gt) = true := by simpa using c31))
    (try (have c31b2 : (FloatKind.f64.format.order t423 a4_5 == some .gt) = true := by simpa using c31))
    clear c31; (first | rw [c31b0] | (simp only [i64_w, i32_w]; rw [c31b0]) | skip)
    simp only [Option.some.injEq, Prod.mk.injEq] at H; obtain ⟨rfl, rfl⟩ := H; try go_wp2
    replace BK417 := zA.mk (zF BK417.out); replace BK418 := zA.mk (zF BK418.out); replace HB := zA.mk (below_drew1 HB.out); refine start_ (n := 10) (S := fun w' => w'.cell? ⟨gb418, 0, none⟩ = some (.int .i64 a4_0) ∧ w'.cell? ⟨gb418, 1, none⟩ = some (.int .i64 a4_1) ∧ w'.cell? ⟨gb418, 2, none⟩ = some (.int .u8 a4_2) ∧ w'.cell? ⟨gb418, 3, none⟩ = some (.int .i64 a4_3) ∧ w'.cell? ⟨gb418, 4, none⟩ = some (.int .i64 a4_4) ∧ w'.cell? ⟨gb418, 5, none⟩ = some (.float .f64 a4_5) ∧ w'.cell? ⟨gb417, 0, none⟩ = some (.slice A0_0 l0_0.length c0_0) ∧ w'.cell? ⟨gb417, 1, none⟩ = some (.slice (some ad420) l0_1.length c0_1)) (ds := []) #[false, false, false, false, false, false, false, false, false, false] (by kernel_rfl) rfl rfl ⟨(zB BK418.out 0).trans rfl, (zB BK418.out 1).trans rfl, (zB BK418.out 2).trans rfl, (zB BK418.out 3).trans rfl, (zB BK418.out 4).trans rfl, (zB BK418.out 5).trans rfl, (zB BK417.out 0).trans rfl, (zB BK417.out 1).trans rfl⟩ (fun hHeld => ?_); refine with_tabW r3_Cost.tab8 r3_Cost.bits8 (fun HT_ HW_ => ?_)
    generalize w25.drew = w32 at BK417 BK418 HB hHeld ⊢
    refine aP 0 (some 44) (tf_ 1 10) HT_ ?_
    refine aP 2 (some 46) (tb_ 5 10) HT_ ?_
    refine aP 5 (some 49) (tb_ 37 10) HT_ ?_
    refine aP 6 (some 50) (tb_ 101 10) HT_ ?_
    refine take_ (i := 1) (N := some 45) (v := ?_) (a' := ?_) (tb_ 103 10) rfl rfl (take_ofW HT_.out HW_.out (by kernel_rfl)) (fun _ _ _ h => h) (Or.inl ⟨by rfl, ?_⟩) hHeld ?_ ?_
    rotate_left
    ·rintro w' ⟨s0, s1, s2, s3, s4, s5, s6, s7⟩
     go_simp
     with_reducible rfl
    rotate_left
    ·simp only [Act.put, sA_, sB_, sC_, i64_w, i32_w]
     rfl
    refine aP 3 (some 47) (tb_ 111 10) HT_ ?_
    refine take_ (i := 4) (N := some 48) (v := ?_) (a' := ?_) (tf_ 7 10) rfl rfl (take_ofW HT_.out HW_.out (by kernel_rfl)) (fun _ _ _ h => h) (Or.inl ⟨by rfl, ?_⟩) hHeld ?_ ?_
    rotate_left
    ·rintro w' ⟨s0, s1, s2, s3, s4, s5, s6, s7⟩
     go_simp
     with_reducible rfl
    rotate_left
    ·simp only [Act.put, sA_, sB_, sC_, i64_w, i32_w]
     rfl
    refine one_ (i := 7) (N := some 51) (tb_ 255 10) rfl rfl (one_of HT_.out (by kernel_rfl)) (by decide) (fun K hK => ?_)
    refine goes_ Try.func34 (by kernel_rfl) rfl #[.agg #[.slice A0_0 l0_0.length c0_0, .slice (some ad420) l0_1.length c0_1], .int .i64 a1, .int .i64 a2] (by rfl) rfl rfl aT ?_
    with_reducible refine (r3_Gaps.calls kj5 _ _ l0_0 _ _ l0_1 a1 a2 t422 _ ?side1 ?side2 ?side3 ?side4 A29.out).mono ?_
    (case side1 => exact aA HR0_0 HB)
    (case side2 => exact HC0_0.out)
    (case side3 => exact aA HR0_1 HB)
    (case side4 => exact HC0_1.out)
    rintro e w33 ⟨rfl, hb⟩
    refine ⟨_, rfl, ?_⟩
    replace BK417 := zA.mk (zC (aB BK417) hb); replace BK418 := zA.mk (zC (aB BK418) hb); replace HB := zA.mk (zD (aL HB) hb); (try clear hb)
    (try clear hb2)
    (try clear hk)
    (try clear hi)
    refine hK.out _ _ ⟨(zB BK418.out 0).trans rfl, (zB BK418.out 1).trans rfl, (zB BK418.out 2).trans rfl, (zB BK418.out 3).trans rfl, (zB BK418.out 4).trans rfl, (zB BK418.out 5).trans rfl, (zB BK417.out 0).trans rfl, (zB BK417.out 1).trans rfl⟩ (fun hHeld => ?_)
    clear hK K; refine norm_ (a' := ?_) ?_ ?_
    rotate_left
    ·show Act.put _ (some 51) _ = _
     simp only [Act.put, sA_, sB_, sC_, i64_w, i32_w]; rfl
    refine one_ (i := 8) (N := some 52) (tb_ 511 10) rfl rfl (one_of HT_.out (by kernel_rfl)) (by decide) (fun K hK => ?_)
    refine goes_ Try.func33 (by kernel_rfl) rfl #[.int .i64 (wrap64 (a4_0 - t421)), .int .i64 t422] (by rfl) rfl rfl aT ?_
    with_reducible refine (r2_Of.calls (wrap64 (a4_0 - t421)) t422 t423 _ A30.out).mono ?_
    rintro e w' ⟨bt_t423, rfl, ⟨nd, rfl⟩, hfr_⟩; have HF_t423 := zA.mk hfr_; clear hfr_; have c31b0r : (FloatKind.f64.format.order bt_t423 a4_5 == some .gt) = true := (by first | (rw [HF_t423.out.order_l]; exact c31b0) | (rw [HF_t423.out.order_r]; exact c31b0)); have c31b1r : decide (FloatKind.f64.format.order bt_t423 a4_5 = some .gt) = true := (by first | (rw [HF_t423.out.order_l]; exact c31b1) | (rw [HF_t423.out.order_r]; exact c31b1)); have c31b2r : (FloatKind.f64.format.order bt_t423 a4_5 == some .gt) = true := (by first | (rw [HF_t423.out.order_l]; exact c31b2) | (rw [HF_t423.out.order_r]; exact c31b2))
    refine ⟨_, rfl, ?_⟩
    refine hK.out _ _ ⟨(zB BK418.out 0).trans rfl, (zB BK418.out 1).trans rfl, (zB BK418.out 2).trans rfl, (zB BK418.out 3).trans rfl, (zB BK418.out 4).trans rfl, (zB BK418.out 5).trans rfl, (zB BK417.out 0).trans rfl, (zB BK417.out 1).trans rfl⟩ (fun hHeld => ?_)
    clear hK K; refine norm_ (a' := ?_) ?_ ?_
    rotate_left
    ·show Act.put _ (some 52) _ = _
     simp only [Act.put, sA_, sB_, sC_, i64_w, i32_w]; rfl
    refine aP 9 (some 14) (tb_ 1023 10) HT_ ?_
    refine done_ (done_of HT_.out (by kernel_rfl)) ?_
    have hnb34 := NB418_417.out; have hnc34 := NB417_418.out; obtain ⟨hcz35_0, hcz35_1, hcz35_2, hcz35_3, hcz35_4, hcz35_5, hfz35_0, hfz35_1, hfz35_2, hfz35_3, hfz35_4, hfz35_5⟩ := aC6 BK418; try go_wp2
    go_ret2
    exact ⟨aX, aL HB⟩
   rw [if_neg c31] at H; have c31b0 : (FloatKind.f64.format.order t423 a4_5 == some .gt) = false := by simpa using c31
   (try (have c31b1 : decide (FloatKind.f64.format.order t423 a4_5 = some .gt) = false := by simpa using c31))
   (try (have c31b2 : (FloatKind.f64.format.order t423 a4_5 == some .gt) = false := by simpa using c31))
   (try (have c31b3 : ¬ (FloatKind.f64.format.order t423 a4_5 = some .gt) := by simpa using c31))
   clear c31; (first | rw [c31b0] | (simp only [i64_w, i32_w]; rw [c31b0]) | skip)
   replace H := Option.bind_eq_some_iff.mp H; obtain ⟨t424, A360, H⟩ := H; replace H : (r3_Cost.j1 kj5 a1 a2 t424 l0_0 l0_1 a4_0 a4_1 a4_2 a4_3 a4_4 a4_5) = some (r1, r2) := H; have A36 := zA.mk A360; clear A360; have H' := zA.mk H
   clear H; try go_wp2
   replace BK417 := zA.mk (zF BK417.out); replace BK418 := zA.mk (zF BK418.out); replace HB := zA.mk (below_drew1 HB.out); refine start_ (n := 10) (S := fun w' => w'.cell? ⟨gb418, 0, none⟩ = some (.int .i64 a4_0) ∧ w'.cell? ⟨gb418, 1, none⟩ = some (.int .i64 a4_1) ∧ w'.cell? ⟨gb418, 2, none⟩ = some (.int .u8 a4_2) ∧ w'.cell? ⟨gb418, 3, none⟩ = some (.int .i64 a4_3) ∧ w'.cell? ⟨gb418, 4, none⟩ = some (.int .i64 a4_4) ∧ w'.cell? ⟨gb418, 5, none⟩ = some (.float .f64 a4_5) ∧ w'.cell? ⟨gb417, 0, none⟩ = some (.slice A0_0 l0_0.length c0_0) ∧ w'.cell? ⟨gb417, 1, none⟩ = some (.slice (some ad420) l0_1.length c0_1)) (ds := []) #[false, false, false, false, false, false, false, false, false, false] (by kernel_rfl) rfl rfl ⟨(zB BK418.out 0).trans rfl, (zB BK418.out 1).trans rfl, (zB BK418.out 2).trans rfl, (zB BK418.out 3).trans rfl, (zB BK418.out 4).trans rfl, (zB BK418.out 5).trans rfl, (zB BK417.out 0).trans rfl, (zB BK417.out 1).trans rfl⟩ (fun hHeld => ?_); refine with_tabW r3_Cost.tab8 r3_Cost.bits8 (fun HT_ HW_ => ?_)
   generalize w25.drew = w37 at BK417 BK418 HB hHeld ⊢
   refine aP 0 (some 44) (tf_ 1 10) HT_ ?_
   refine aP 2 (some 46) (tb_ 5 10) HT_ ?_
   refine aP 5 (some 49) (tb_ 37 10) HT_ ?_
   refine aP 6 (some 50) (tb_ 101 10) HT_ ?_
   refine take_ (i := 1) (N := some 45) (v := ?_) (a' := ?_) (tb_ 103 10) rfl rfl (take_ofW HT_.out HW_.out (by kernel_rfl)) (fun _ _ _ h => h) (Or.inl ⟨by rfl, ?_⟩) hHeld ?_ ?_
   rotate_left
   ·rintro w' ⟨s0, s1, s2, s3, s4, s5, s6, s7⟩
    go_simp
    with_reducible rfl
   rotate_left
   ·simp only [Act.put, sA_, sB_, sC_, i64_w, i32_w]
    rfl
   refine aP 3 (some 47) (tb_ 111 10) HT_ ?_
   refine take_ (i := 4) (N := some 48) (v := ?_) (a' := ?_) (tf_ 7 10) rfl rfl (take_ofW HT_.out HW_.out (by kernel_rfl)) (fun _ _ _ h => h) (Or.inl ⟨by rfl, ?_⟩) hHeld ?_ ?_
   rotate_left
   ·rintro w' ⟨s0, s1, s2, s3, s4, s5, s6, s7⟩
    go_simp
    with_reducible rfl
   rotate_left
   ·simp only [Act.put, sA_, sB_, sC_, i64_w, i32_w]
    rfl
   refine one_ (i := 7) (N := some 51) (tb_ 255 10) rfl rfl (one_of HT_.out (by kernel_rfl)) (by decide) (fun K hK => ?_)
   refine goes_ Try.func34 (by kernel_rfl) rfl #[.agg #[.slice A0_0 l0_0.length c0_0, .slice (some ad420) l0_1.length c0_1], .int .i64 a1, .int .i64 a2] (by rfl) rfl rfl aT ?_
   with_reducible refine (r3_Gaps.calls kj5 _ _ l0_0 _ _ l0_1 a1 a2 t422 _ ?side1 ?side2 ?side3 ?side4 A29.out).mono ?_
   (case side1 => exact aA HR0_0 HB)
   (case side2 => exact HC0_0.out)
   (case side3 => exact aA HR0_1 HB)
   (case side4 => exact HC0_1.out)
   rintro e w38 ⟨rfl, hb⟩
   refine ⟨_, rfl, ?_⟩
   replace BK417 := zA.mk (zC (aB BK417) hb); replace BK418 := zA.mk (zC (aB BK418) hb); replace HB := zA.mk (zD (aL HB) hb); (try clear hb)
   (try clear hb2)
   (try clear hk)
   (try clear hi)
   refine hK.out _ _ ⟨(zB BK418.out 0).trans rfl, (zB BK418.out 1).trans rfl, (zB BK418.out 2).trans rfl, (zB BK418.out 3).trans rfl, (zB BK418.out 4).trans rfl, (zB BK418.out 5).trans rfl, (zB BK417.out 0).trans rfl, (zB BK417.out 1).trans rfl⟩ (fun hHeld => ?_)
   clear hK K; refine norm_ (a' := ?_) ?_ ?_
   rotate_left
   ·show Act.put _ (some 51) _ = _
    simp only [Act.put, sA_, sB_, sC_, i64_w, i32_w]; rfl
   refine one_ (i := 8) (N := some 52) (tb_ 511 10) rfl rfl (one_of HT_.out (by kernel_rfl)) (by decide) (fun K hK => ?_)
   refine goes_ Try.func33 (by kernel_rfl) rfl #[.int .i64 (wrap64 (a4_0 - t421)), .int .i64 t422] (by rfl) rfl rfl aT ?_
   with_reducible refine (r2_Of.calls (wrap64 (a4_0 - t421)) t422 t423 _ A30.out).mono ?_
   rintro e w' ⟨bt_t423, rfl, ⟨nd, rfl⟩, hfr_⟩; have HF_t423 := zA.mk hfr_; clear hfr_; have c31b0r : (FloatKind.f64.format.order bt_t423 a4_5 == some .gt) = false := (by first | (rw [HF_t423.out.order_l]; exact c31b0) | (rw [HF_t423.out.order_r]; exact c31b0)); have c31b1r : decide (FloatKind.f64.format.order bt_t423 a4_5 = some .gt) = false := (by first | (rw [HF_t423.out.order_l]; exact c31b1) | (rw [HF_t423.out.order_r]; exact c31b1)); have c31b2r : (FloatKind.f64.format.order bt_t423 a4_5 == some .gt) = false := (by first | (rw [HF_t423.out.order_l]; exact c31b2) | (rw [HF_t423.out.order_r]; exact c31b2)); have c31b3r : ¬ (FloatKind.f64.format.order bt_t423 a4_5 = some .gt) := (by first | (rw [HF_t423.out.order_l]; exact c31b3) | (rw [HF_t423.out.order_r]; exact c31b3))
   refine ⟨_, rfl, ?_⟩
   refine hK.out _ _ ⟨(zB BK418.out 0).trans rfl, (zB BK418.out 1).trans rfl, (zB BK418.out 2).trans rfl, (zB BK418.out 3).trans rfl, (zB BK418.out 4).trans rfl, (zB BK418.out 5).trans rfl, (zB BK417.out 0).trans rfl, (zB BK417.out 1).trans rfl⟩ (fun hHeld => ?_)
   clear hK K; refine norm_ (a' := ?_) ?_ ?_
   rotate_left
   ·show Act.put _ (some 52) _ = _
    simp only [Act.put, sA_, sB_, sC_, i64_w, i32_w]; rfl
   refine aP 9 (some 14) (tb_ 1023 10) HT_ ?_
   refine done_ (done_of HT_.out (by kernel_rfl)) ?_
   have hnb39 := NB418_417.out; have hnc39 := NB417_418.out; obtain ⟨hcz40_0, hcz40_1, hcz40_2, hcz40_3, hcz40_4, hcz40_5, hfz40_0, hfz40_1, hfz40_2, hfz40_3, hfz40_4, hfz40_5⟩ := aC6 BK418; try go_wp2_with (first | ((with_reducible refine gate_callee (f := 35) rfl ?_); refine goesL_ (some 58) rfl rfl Try.func35 (by kernel_rfl) rfl #[.float .f64 bt_t423] rfl aT ?_; (with_reducible refine (r2_Badness.calls kj5 t423 t424 _ A36.out).mono ?_); rintro e w' ⟨rfl, ⟨nd, rfl⟩⟩; refine ⟨_, rfl, ?_⟩))
   go_meet
   case rel => exact ⟨_, (t424), aZ, H', ⟨by have := HJ5.out; first | omega | exact Nat.le_refl _⟩, ⟨aB BK417⟩, ⟨aB BK418⟩, ⟨aL HB⟩⟩
  clear HC23; obtain ⟨kq, x13_22, rfl, HA, HJ22, BK417, BK418, HB⟩ := hcut; cases kq with
  | zero => exact absurd HA.out (by simp [r3_Cost.j1])
  | succ kj22 =>
   have H := HA.out; clear HA; simp only [r3_Cost.j1] at H; by_cases c41 : 0 ≤ a2
   rotate_left
   ·rw [if_neg c41] at H
    exact absurd H (by simp)
   rw [if_pos c41] at H; have c41b0 : decide (0 ≤ a2) = true := decide_eq_true c41
   clear c41; by_cases c42 : a2 < (l0_1.length : Int)
   rotate_left
   ·rw [if_neg c42] at H
    exact absurd H (by simp)
   rw [if_pos c42] at H; have c42b0 : decide (a2 < (l0_1.length : Int)) = true := decide_eq_true c42
   clear c42; by_cases c43 : (rd l0_1 a2) = 3
   rotate_left
   ·rw [if_neg c43] at H
    have c43b0 : ((rd l0_1 a2) == 3) = false := beq_eq_false_iff_ne.mpr c43
    have c43b1 : ((rd l0_1 a2) != 3) = true := bne_iff_ne.mpr c43
    simp only [Option.some.injEq, Prod.mk.injEq] at H; obtain ⟨rfl, rfl⟩ := H; have hnb53 := NB417_418.out; have hnc53 := NB418_417.out; obtain ⟨hcz54_0, hcz54_1, hfz54_0, hfz54_1⟩ := aC2 BK417; have p425 : 0 ≤ (a2 : Int) := aD
    have q425 : a2 < (l0_1.length : Int) := aD
    obtain ⟨ad425, e425, hx425_0⟩ := Kd.at_int HR0_1.out a2 p425 q425; obtain rfl : ad420 = ad425 := (by injection e425)
    replace hx425_0 := (HB.out.cell (World.block_lt_of_cell? w _ hx425_0)).trans hx425_0; replace p425 := eq_true p425; replace q425 := eq_true q425; go_wp2
    go_ret2
    exact ⟨aX, aL HB⟩
   rw [if_pos c43] at H; have c43b0 : ((rd l0_1 a2) == 3) = true := beq_iff_eq.mpr c43
   have c43b1 : ((rd l0_1 a2) != 3) = false := bne_eq_false_iff_eq.mpr c43
   clear c43; by_cases c44 : 0 ≤ a1
   rotate_left
   ·rw [if_neg c44] at H
    exact absurd H (by simp)
   rw [if_pos c44] at H; have c44b0 : decide (0 ≤ a1) = true := decide_eq_true c44
   clear c44; by_cases c45 : a1 < (l0_1.length : Int)
   rotate_left
   ·rw [if_neg c45] at H
    exact absurd H (by simp)
   rw [if_pos c45] at H; have c45b0 : decide (a1 < (l0_1.length : Int)) = true := decide_eq_true c45
   clear c45; by_cases c46 : (rd l0_1 a1) = 3
   ·rw [if_pos c46] at H
    have c46b0 : ((rd l0_1 a1) == 3) = true := beq_iff_eq.mpr c46
    have c46b1 : ((rd l0_1 a1) != 3) = false := bne_eq_false_iff_eq.mpr c46
    clear c46; simp only [Option.some.injEq, Prod.mk.injEq] at H; obtain ⟨rfl, rfl⟩ := H; have hnb47 := NB417_418.out; have hnc47 := NB418_417.out; obtain ⟨hcz48_0, hcz48_1, hfz48_0, hfz48_1⟩ := aC2 BK417; have p425 : 0 ≤ (a2 : Int) := aD
    have q425 : a2 < (l0_1.length : Int) := aD
    obtain ⟨ad425, e425, hx425_0⟩ := Kd.at_int HR0_1.out a2 p425 q425; obtain rfl : ad420 = ad425 := (by injection e425)
    replace hx425_0 := (HB.out.cell (World.block_lt_of_cell? w _ hx425_0)).trans hx425_0; replace p425 := eq_true p425; replace q425 := eq_true q425; obtain ⟨hcz49_0, hcz49_1, hcz49_2, hcz49_3, hcz49_4, hcz49_5, hfz49_0, hfz49_1, hfz49_2, hfz49_3, hfz49_4, hfz49_5⟩ := aC6 BK418; have p426 : 0 ≤ (a1 : Int) := aD
    have q426 : a1 < (l0_1.length : Int) := aD
    obtain ⟨ad426, e426, hx426_0⟩ := Kd.at_int HR0_1.out a1 p426 q426; obtain rfl : ad420 = ad426 := (by injection e426)
    replace hx426_0 := (HB.out.cell (World.block_lt_of_cell? w _ hx426_0)).trans hx426_0; replace p426 := eq_true p426; replace q426 := eq_true q426; go_wp2
    go_ret2
    exact ⟨aX, aL HB⟩
   rw [if_neg c46] at H; have c46b0 : ((rd l0_1 a1) == 3) = false := beq_eq_false_iff_ne.mpr c46
   have c46b1 : ((rd l0_1 a1) != 3) = true := bne_iff_ne.mpr c46
   simp only [Option.some.injEq, Prod.mk.injEq] at H; obtain ⟨rfl, rfl⟩ := H; have hnb50 := NB417_418.out; have hnc50 := NB418_417.out; obtain ⟨hcz51_0, hcz51_1, hfz51_0, hfz51_1⟩ := aC2 BK417; have p425 : 0 ≤ (a2 : Int) := aD
   have q425 : a2 < (l0_1.length : Int) := aD
   obtain ⟨ad425, e425, hx425_0⟩ := Kd.at_int HR0_1.out a2 p425 q425; obtain rfl : ad420 = ad425 := (by injection e425)
   replace hx425_0 := (HB.out.cell (World.block_lt_of_cell? w _ hx425_0)).trans hx425_0; replace p425 := eq_true p425; replace q425 := eq_true q425; obtain ⟨hcz52_0, hcz52_1, hcz52_2, hcz52_3, hcz52_4, hcz52_5, hfz52_0, hfz52_1, hfz52_2, hfz52_3, hfz52_4, hfz52_5⟩ := aC6 BK418; have p426 : 0 ≤ (a1 : Int) := aD
   have q426 : a1 < (l0_1.length : Int) := aD
   obtain ⟨ad426, e426, hx426_0⟩ := Kd.at_int HR0_1.out a1 p426 q426; obtain rfl : ad420 = ad426 := (by injection e426)
   replace hx426_0 := (HB.out.cell (World.block_lt_of_cell? w _ hx426_0)).trans hx426_0; replace p426 := eq_true p426; replace q426 := eq_true q426; go_wp2
   go_ret2
   exact ⟨aX, aL HB⟩
mutual
def r3_before.l0 : Nat → List Int → List Int → Int → Option (Bool)
 | 0, _, _, _ => none
 | k + 1, x0, x1, x5 => if x5 < (x0.length : Int) then (r3_before.j1 k x0 x1 x5 (decide (x5 < (x1.length : Int)))) else (r3_before.j1 k x0 x1 x5 false)
def r3_before.j1 : Nat → List Int → List Int → Int → Bool → Option (Bool)
 | 0, _, _, _, _ => none
 | k + 1, x0, x1, x5, x15 => if x15 = true then (if 0 ≤ x5 then (if x5 < (x0.length : Int) then (if x5 < (x1.length : Int) then (if (rd x0 x5) = (rd x1 x5) then (r3_before.l0 k x0 x1 (wrap64 (x5 + 1))) else (some (decide ((rd x0 x5) < (rd x1 x5))))) else (none)) else (none)) else (none)) else (some (decide ((x0.length : Int) < (x1.length : Int))))
end
def r3_before.f (k : Nat) (l0 : List Int) (l1 : List Int) : Option (Bool) := r3_before.l0 k l0 l1 0
theorem r3_before.mono_l : ∀ k, (∀ y0 y1 y2, LeO (r3_before.l0 k y0 y1 y2) (r3_before.l0 (k + 1) y0 y1 y2)) ∧ (∀ y0 y1 y2 y3, LeO (r3_before.j1 k y0 y1 y2 y3) (r3_before.j1 (k + 1) y0 y1 y2 y3))
 | 0 => ⟨fun _ _ _ r h => by simp [r3_before.l0] at h, fun _ _ _ _ r h => by simp [r3_before.j1] at h⟩
 | k + 1 => by
  obtain ⟨ih0, ih1⟩ := r3_before.mono_l k; refine ⟨?_, ?_⟩
  ·intro y0 y1 y2
   unfold r3_before.l0
   repeat' (with_reducible first | exact ih0 _ _ _ | exact ih1 _ _ _ _ | exact LeO.refl _ | exact LeO.none _ | refine LeO.ite ?_ ?_ | refine LeO.bind ?_ (fun _ => ?_))
  ·intro y0 y1 y2 y3
   unfold r3_before.j1
   repeat' (with_reducible first | exact ih0 _ _ _ | exact ih1 _ _ _ _ | exact LeO.refl _ | exact LeO.none _ | refine LeO.ite ?_ ?_ | refine LeO.bind ?_ (fun _ => ?_))
theorem r3_before.mono : ∀ a0 a1 k, LeO (r3_before.f k a0 a1) (r3_before.f (k + 1) a0 a1) := by
 intro a0 a1 k
 obtain ⟨ih0, ih1⟩ := r3_before.mono_l k; unfold r3_before.f
 repeat' (with_reducible first | exact ih0 _ _ _ | exact ih1 _ _ _ _ | exact LeO.refl _ | exact LeO.none _ | refine LeO.ite ?_ ?_ | refine LeO.bind ?_ (fun _ => ?_))
set_option maxHeartbeats 8000000 in
set_option maxRecDepth 100000 in
theorem r3_before.calls (k : Nat) (A0 : Option Addr) (c0 : Nat) (l0 : List Int) (A1 : Option Addr) (c1 : Nat) (l1 : List Int) (r : Bool) (w : World) (hr0 : Kd.C (Kd.int .i64) w A0 l0.length l0) (hc0 : l0.length ≤ c0) (hr1 : Kd.C (Kd.int .i64) w A1 l1.length l1) (hc1 : l1.length ≤ c1) (h : r3_before.f k l0 l1 = some r) :
  Calls Try.prog 48 #[.slice A0 l0.length c0, .slice A1 l1.length c1] w fun e w' => e = .returned (.bool r) ∧ Drawn0 w w' := by
 have HR0 := zA.mk hr0; have HC0 := zA.mk hc0; clear hr0 hc0; have HR1 := zA.mk hr1; have HC1 := zA.mk hc1; clear hr1 hc1; have H : (r3_before.l0 k l0 l1 0) = some r := h
 clear h; have H' := zA.mk H
 clear H; go_enter Try.func48, Try.ntmps48
 go_wp2
 repeat (go_quiet (fail); try go_wp2)
 go_loopg [5] k (fun kq v5 w' => ∃ (x5_1 : Int), v5 = .int .i64 x5_1 ∧ zA (r3_before.l0 kq l0 l1 x5_1 = some r) ∧ zA (kq ≤ k) ∧ Drawn0 w w')
 case atStart => exact ⟨(0), aZ, H', ⟨Nat.le_refl _⟩, by repeat (first | exact Drawn0.refl _ | apply Drawn0.step)⟩
 clear H'; obtain ⟨x5_1, rfl, HA, HK1, ⟨m1, rfl⟩⟩ := hrel; cases gk with
 | zero => exact absurd HA.out (by simp [r3_before.l0])
 | succ k1 =>
  have H := HA.out; clear HA; simp only [r3_before.l0] at H; have HC3 := zA.mk H; clear H; go_upto_region 2 with (fail)
  repeat (go_quiet (fail); go_upto_region 2 with (fail))
  go_cut [15] (fun v15 wc => ∃ (kq : Nat) (x15_2 : Bool), v15 = .bool x15_2 ∧ zA (r3_before.j1 kq l0 l1 x5_1 x15_2 = some r) ∧ zA (kq ≤ k1) ∧ Drawn0 w wc)
  case first =>
   have H := HC3.out; clear HC3; by_cases c4 : x5_1 < (l0.length : Int)
   ·rw [if_pos c4] at H
    have c4b0 : decide (x5_1 < (l0.length : Int)) = true := decide_eq_true c4
    clear c4; (first | rw [c4b0] | (simp only [i64_w, i32_w]; rw [c4b0]) | skip)
    have H' := zA.mk H
    clear H; go_wp2
    repeat (go_quiet (fail); try go_wp2)
    go_meet
    case rel => exact ⟨_, (decide (x5_1 < (l1.length : Int))), aZ, H', ⟨by have := HK1.out; first | omega | exact Nat.le_refl _⟩, by repeat (first | exact Drawn0.refl _ | apply Drawn0.step)⟩
   rw [if_neg c4] at H; have c4b0 : decide (x5_1 < (l0.length : Int)) = false := decide_eq_false c4
   clear c4; (first | rw [c4b0] | (simp only [i64_w, i32_w]; rw [c4b0]) | skip)
   have H' := zA.mk H
   clear H; go_wp2
   repeat (go_quiet (fail); try go_wp2)
   go_meet
   case rel => exact ⟨_, (false), aZ, H', ⟨by have := HK1.out; first | omega | exact Nat.le_refl _⟩, by repeat (first | exact Drawn0.refl _ | apply Drawn0.step)⟩
  clear HC3; obtain ⟨kq, x15_2, rfl, HA, HJ2, ⟨mc2, rfl⟩⟩ := hcut; cases kq with
  | zero => exact absurd HA.out (by simp [r3_before.j1])
  | succ kj2 =>
   have H := HA.out; clear HA; simp only [r3_before.j1] at H; by_cases c5 : x15_2 = true
   rotate_left
   ·replace c5 := Bool.eq_false_iff.mpr c5
    subst c5; have H1 : (some (decide ((l0.length : Int) < (l1.length : Int)))) = some r := by rw [if_neg (show ¬ (false = true) by decide)] at H; exact H
    clear H; have H := H1; clear H1; obtain rfl := Option.some.inj H
    go_wp2
    repeat (go_quiet (fail); try go_wp2)
    go_ret
    exact ⟨by first | rfl | (simp; done) | (simp [*]; done), by repeat (first | exact Drawn0.refl _ | apply Drawn0.step)⟩
   subst c5; have H1 : (if 0 ≤ x5_1 then (if x5_1 < (l0.length : Int) then (if x5_1 < (l1.length : Int) then (if (rd l0 x5_1) = (rd l1 x5_1) then (r3_before.l0 kj2 l0 l1 (wrap64 (x5_1 + 1))) else (some (decide ((rd l0 x5_1) < (rd l1 x5_1))))) else (none)) else (none)) else (none)) = some r := by rw [if_pos rfl] at H; exact H
   clear H; have H := H1; clear H1; by_cases c6 : 0 ≤ x5_1
   rotate_left
   ·rw [if_neg c6] at H
    exact absurd H (by simp)
   rw [if_pos c6] at H; have c6b0 : decide (0 ≤ x5_1) = true := decide_eq_true c6
   clear c6; by_cases c7 : x5_1 < (l0.length : Int)
   rotate_left
   ·rw [if_neg c7] at H
    exact absurd H (by simp)
   rw [if_pos c7] at H; have c7b0 : decide (x5_1 < (l0.length : Int)) = true := decide_eq_true c7
   clear c7; by_cases c8 : x5_1 < (l1.length : Int)
   rotate_left
   ·rw [if_neg c8] at H
    exact absurd H (by simp)
   rw [if_pos c8] at H; have c8b0 : decide (x5_1 < (l1.length : Int)) = true := decide_eq_true c8
   clear c8; by_cases c9 : (rd l0 x5_1) = (rd l1 x5_1)
   ·rw [if_pos c9] at H
    have c9b0 : ((rd l0 x5_1) == (rd l1 x5_1)) = true := beq_iff_eq.mpr c9
    have c9b1 : ((rd l0 x5_1) != (rd l1 x5_1)) = false := bne_eq_false_iff_eq.mpr c9
    clear c9; have H' := zA.mk H
    clear H; have p427 : 0 ≤ (x5_1 : Int) := aD
    have q427 : x5_1 < (l0.length : Int) := aD
    obtain ⟨ad427, e427, hx427_0⟩ := Kd.at_int HR0.out x5_1 p427 q427; cases e427
    replace p427 := eq_true p427; replace q427 := eq_true q427; have p428 : 0 ≤ (x5_1 : Int) := aD
    have q428 : x5_1 < (l1.length : Int) := aD
    obtain ⟨ad428, e428, hx428_0⟩ := Kd.at_int HR1.out x5_1 p428 q428; cases e428
    replace p428 := eq_true p428; replace q428 := eq_true q428; go_wp2
    repeat (go_quiet (fail); try go_wp2)
    go_roundg kj2
    case measure => have := HK1.out; have := HJ2.out; omega
    case rel => exact ⟨(wrap64 (x5_1 + 1)), aZ, H', ⟨by have := HK1.out; have := HJ2.out; omega⟩, by repeat (first | exact Drawn0.refl _ | apply Drawn0.step)⟩
   rw [if_neg c9] at H; have c9b0 : ((rd l0 x5_1) == (rd l1 x5_1)) = false := beq_eq_false_iff_ne.mpr c9
   have c9b1 : ((rd l0 x5_1) != (rd l1 x5_1)) = true := bne_iff_ne.mpr c9
   obtain rfl := Option.some.inj H
   have p427 : 0 ≤ (x5_1 : Int) := aD
   have q427 : x5_1 < (l0.length : Int) := aD
   obtain ⟨ad427, e427, hx427_0⟩ := Kd.at_int HR0.out x5_1 p427 q427; cases e427
   replace p427 := eq_true p427; replace q427 := eq_true q427; have p428 : 0 ≤ (x5_1 : Int) := aD
   have q428 : x5_1 < (l1.length : Int) := aD
   obtain ⟨ad428, e428, hx428_0⟩ := Kd.at_int HR1.out x5_1 p428 q428; cases e428
   replace p428 := eq_true p428; replace q428 := eq_true q428; have p429 : 0 ≤ (x5_1 : Int) := aD
   have q429 : x5_1 < (l0.length : Int) := aD
   obtain ⟨ad429, e429, hx429_0⟩ := Kd.at_int HR0.out x5_1 p429 q429; obtain rfl : ad427 = ad429 := (by injection e429)
   replace p429 := eq_true p429; replace q429 := eq_true q429; have p430 : 0 ≤ (x5_1 : Int) := aD
   have q430 : x5_1 < (l1.length : Int) := aD
   obtain ⟨ad430, e430, hx430_0⟩ := Kd.at_int HR1.out x5_1 p430 q430; obtain rfl : ad428 = ad430 := (by injection e430)
   replace p430 := eq_true p430; replace q430 := eq_true q430; go_wp2
   repeat (go_quiet (fail); try go_wp2)
   go_ret
   exact ⟨by first | rfl | (simp; done) | (simp [*]; done), by repeat (first | exact Drawn0.refl _ | apply Drawn0.step)⟩
end Go.Proofs.Ytcnblneghbgjgaa.F
end
