/- Printed by a program: Lean functions that answer as the Go functions do, and the proofs of it. -/
import Derived.Test.YtfeidhmkmbgnoaaXDrawWords0
import Derived.Test.YtfeidhmkmbgnoaaVDrawWords0
import Derived.Test.YtfeidhmkmbgnoaaVDrawWords1
section
namespace Go.Proofs.Ytfeidhmkmbgnoaa.F
open Go.RowKit Go.Proofs.YtfeidhmkmbgnoaaW.PrintWords Go.Proofs.YtfeidhmkmbgnoaaW.PrintLast Go.Proofs.YtfeidhmkmbgnoaaW.PrintMore
attribute [local go_sem] max2_int min2_int max_two min_two max_three min_three max_four min_four   -- for this text's walks alone
set_option linter.unusedVariables false
set_option linter.unusedSimpArgs false
def r0_Parts.l0 : Nat → List Int → Int → List (S61) → List Int → Option (List Int)
 | 0, _, _, _, _ => none
 | k + 1, x3, x4, x225000, x225001 => if x4 < (x225001.length : Int) then (if 0 ≤ x4 then (if (rd x225001 x4) = 2 then (if x3.length < 17592186044416 then (r0_Parts.l0 k (x3 ++ [x4]) (wrap64 (x4 + 1)) x225000 x225001) else (none)) else (r0_Parts.l0 k x3 (wrap64 (x4 + 1)) x225000 x225001)) else (none)) else (some x3)
def r0_Parts.f (k : Nat) (l0_0 : List (S61)) (l0_1 : List Int) : Option (List Int) := r0_Parts.l0 k ([] : List Int) 0 l0_0 l0_1
theorem r0_Parts.mono_l : ∀ k, (∀ y0 y1 y2 y3, LeO (r0_Parts.l0 k y0 y1 y2 y3) (r0_Parts.l0 (k + 1) y0 y1 y2 y3))
 | 0 => fun _ _ _ _ r h => by simp [r0_Parts.l0] at h
 | k + 1 => by
  have ih0 := r0_Parts.mono_l k
  ·intro y0 y1 y2 y3
   unfold r0_Parts.l0
   repeat' (with_reducible first | exact ih0 _ _ _ _ | exact LeO.refl _ | exact LeO.none _ | refine LeO.ite ?_ ?_ | refine LeO.bind ?_ (fun _ => ?_))
theorem r0_Parts.mono : ∀ a0 a1 k, LeO (r0_Parts.f k a0 a1) (r0_Parts.f (k + 1) a0 a1) := by
 intro a0 a1 k
 have ih0 := r0_Parts.mono_l k; unfold r0_Parts.f
 repeat' (with_reducible first | exact ih0 _ _ _ _ | exact LeO.refl _ | exact LeO.none _ | refine LeO.ite ?_ ?_ | refine LeO.bind ?_ (fun _ => ?_))
set_option maxHeartbeats 8000000 in
set_option maxRecDepth 100000 in
theorem r0_Parts.calls (k : Nat) (A0_0 : Option Addr) (c0_0 : Nat) (l0_0 : List (S61)) (A0_1 : Option Addr) (c0_1 : Nat) (l0_1 : List Int) (r : List Int) (w : World) (hr0_0 : Kd.C k61 w A0_0 l0_0.length l0_0) (hc0_0 : l0_0.length ≤ c0_0) (hr0_1 : Kd.C (Kd.int .u8) w A0_1 l0_1.length l0_1) (hc0_1 : l0_1.length ≤ c0_1) (h : r0_Parts.f k l0_0 l0_1 = some r) :
  Calls Try.prog 15 #[.agg #[.slice A0_0 l0_0.length c0_0, .slice A0_1 l0_1.length c0_1]] w fun e w' => ∃ v0_ : Value, e = .returned (v0_) ∧ Kd.R (Kd.int .i64) 3 w' w.heap.size (fun _ => True) v0_ r ∧ Below w.heap.size w w' := by
 have hu31 := Try.underlying31; have HR0_0 := zA.mk hr0_0; have HC0_0 := zA.mk hc0_0; clear hr0_0 hc0_0; have HR0_1 := zA.mk hr0_1; have HC0_1 := zA.mk hc0_1; clear hr0_1 hc0_1; have HB := zA.mk (Below.refl w.heap.size w); have H : (r0_Parts.l0 k ([] : List Int) 0 l0_0 l0_1) = some r := h
 clear h; have H' := zA.mk H
 clear H; go_enter Try.func15, Try.ntmps15
 go_wp2_with (first | ((with_reducible refine gate_dst (N := 1) rfl ?_); refine box_event ?hg (N := 1) ?hd (cs := #[.slice A0_0 l0_0.length c0_0, .slice A0_1 l0_1.length c0_1]) (t := 31) ?hr ?_; (case hd => rfl); (case hg => rfl); (case hr => first | (go_simp; done) | (go_simp; rfl)); intro gb224 hg w2 hbox hb; have BK224 := zA.mk (hbox); have GW224 := zA.mk ((by rw [hg]; exact (zE (aL HB)) : w.heap.size ≤ gb224)); replace HB := zA.mk (zH (aL HB) hb); have GE224 := GW224; clear hb hbox hg))
 go_loopg [3, 4] k (fun kq v3 v4 w' => ∃ (x3_1 : List Int) (x4_1 : Int), v4 = .int .i64 x4_1 ∧ zA (r0_Parts.l0 kq x3_1 x4_1 l0_0 l0_1 = some r) ∧ zA (kq ≤ k) ∧ zA (Kd.R (Kd.int .i64) 3 w' w.heap.size (fun _ => True) v3 x3_1) ∧ zA (w'.heap[gb224]? = some (.cells #[(.slice A0_0 l0_0.length c0_0), (.slice A0_1 l0_1.length c0_1)] 31 (0, 0))) ∧ zA (Below w.heap.size w w'))
 case atStart => exact ⟨(([] : List Int)), (0), aZ, H', ⟨Nat.le_refl _⟩, ⟨by first | exact Kd.R_nil _ _ _ _ _ | exact Kd.N_nil _ _ _ _ _ | exact Kd.V_nil _ _ _ _ _ | exact Kd.Q_nil _ _ _ _ _ | exact Kd.S_nil _ _ _ _ _⟩, ⟨aB BK224⟩, ⟨aL HB⟩⟩
 clear H'; obtain ⟨x3_1, x4_1, rfl, HA, HK1, HO_3, BK224, HB⟩ := hrel; cases gk with
 | zero => exact absurd HA.out (by simp [r0_Parts.l0])
 | succ k1 =>
  have H := HA.out; clear HA; simp only [r0_Parts.l0] at H; by_cases c3 : x4_1 < (l0_1.length : Int)
  rotate_left
  ·rw [if_neg c3] at H
   have c3b0 : decide (x4_1 < (l0_1.length : Int)) = false := decide_eq_false c3
   clear c3; obtain rfl := Option.some.inj H
   obtain ⟨hcz10_0, hcz10_1, hfz10_0, hfz10_1⟩ := aC2 BK224; go_wp2
   go_ret
   exact ⟨_, aX, aR HO_3, aL HB⟩
  rw [if_pos c3] at H; have c3b0 : decide (x4_1 < (l0_1.length : Int)) = true := decide_eq_true c3
  clear c3; by_cases c4 : 0 ≤ x4_1
  rotate_left
  ·rw [if_neg c4] at H
   exact absurd H (by simp)
  rw [if_pos c4] at H; have c4b0 : decide (0 ≤ x4_1) = true := decide_eq_true c4
  clear c4; by_cases c5 : (rd l0_1 x4_1) = 2
  rotate_left
  ·rw [if_neg c5] at H
   have c5b0 : ((rd l0_1 x4_1) == 2) = false := beq_eq_false_iff_ne.mpr c5
   have c5b1 : ((rd l0_1 x4_1) != 2) = true := bne_iff_ne.mpr c5
   have H' := zA.mk H
   clear H; obtain ⟨hcz9_0, hcz9_1, hfz9_0, hfz9_1⟩ := aC2 BK224; have p225 : 0 ≤ (x4_1 : Int) := aD
   have q225 : x4_1 < (l0_1.length : Int) := aD
   obtain ⟨ad225, e225, hx225_0⟩ := Kd.at_int HR0_1.out x4_1 p225 q225; cases e225
   replace hx225_0 := (HB.out.cell (World.block_lt_of_cell? w _ hx225_0)).trans hx225_0; replace p225 := eq_true p225; replace q225 := eq_true q225; go_wp2
   go_roundg k1
   case measure => have := HK1.out; omega
   case rel => exact ⟨(x3_1), (wrap64 (x4_1 + 1)), aZ, H', ⟨by have := HK1.out; omega⟩, ⟨aR HO_3⟩, ⟨aB BK224⟩, ⟨aL HB⟩⟩
  rw [if_pos c5] at H; have c5b0 : ((rd l0_1 x4_1) == 2) = true := beq_iff_eq.mpr c5
  have c5b1 : ((rd l0_1 x4_1) != 2) = false := bne_eq_false_iff_eq.mpr c5
  clear c5; by_cases c6 : x3_1.length < 17592186044416
  rotate_left
  ·rw [if_neg c6] at H
   exact absurd H (by simp)
  rw [if_pos c6] at H; have LMc6 := zA.mk c6; clear c6; obtain ⟨y226, hy226⟩ : ∃ y_ : List Int, y_ = (x3_1 ++ [x4_1]) := ⟨_, rfl⟩; replace H : (r0_Parts.l0 k1 y226 (wrap64 (x4_1 + 1)) l0_0 l0_1) = some r := by first | (rw [hy226]; with_reducible exact H) | (have H2_ := (Option.bind_some _ _).symm.trans H; rw [hy226]; with_reducible exact H2_) | (have H2_ := (Option.bind_some _ _).symm.trans H; with_reducible exact H2_) | with_reducible exact H | (rw [hy226]; exact H) | exact H
  have Ny226 := zA.mk hy226; clear hy226; have H' := zA.mk H
  clear H; obtain ⟨hcz7_0, hcz7_1, hfz7_0, hfz7_1⟩ := aC2 BK224; have p225 : 0 ≤ (x4_1 : Int) := aD
  have q225 : x4_1 < (l0_1.length : Int) := aD
  obtain ⟨ad225, e225, hx225_0⟩ := Kd.at_int HR0_1.out x4_1 p225 q225; cases e225
  replace hx225_0 := (HB.out.cell (World.block_lt_of_cell? w _ hx225_0)).trans hx225_0; replace p225 := eq_true p225; replace q225 := eq_true q225; go_wp2_with (first | ((with_reducible refine gate_builtin (b := .append) (xs := #[.tmp 18, .tmp 20]) rfl ?_); at_builtin; refine Kd.R_append (Kd.int .i64) (w0 := w) w.heap.size rfl (.tmp 18) (.tmp 20) 37 3 (.int .i64 0) 8 rfl Try.underlying37 info3 rfl (by decide) (by omega) u3 x3_1 x4_1 [.int .i64 x4_1] (fun _ => True) (fun _ => False) rfl rfl ?aP (fun _ hk => hk.elim) ?aF ?aO ?aB ?aS ?aL ?_; (case aP => exact rfl); (case aB => exact (aL HB)); (case aF => exact (fun _ _ => trivial)); (case aO => exact (aR HO_3)); (case aS => exact (zE (aL HB))); (case aL => have := LMc6.out; omega); intro v227 w8 ho hb hg hat; rw [← Ny226.out] at ho; replace BK224 := zA.mk (blk_grown (g := gb224) (o := .cells #[.slice A0_0 l0_0.length c0_0, .slice (some ad225) l0_1.length c0_1] 31 (0, 0)) (aB BK224) hg (Kd.R_ne HO_3.out BK224.out (by decide))); replace HB := zA.mk (hb); have HO228 := zA.mk (ho); clear HO_3; clear ho hb hg hat))
  go_roundg k1
  case measure => have := HK1.out; omega
  case rel => exact ⟨(y226), (wrap64 (x4_1 + 1)), aZ, H', ⟨by have := HK1.out; omega⟩, ⟨aR HO228⟩, ⟨aB BK224⟩, ⟨aL HB⟩⟩
def r3_Next.l0 : Nat → Int → Int → Option (Int)
 | 0, _, _ => none
 | k + 1, x2, x7 => if x2 = 0 then (none) else (if (Int.tmod x7 x2) = 0 then (some x7) else (r3_Next.l0 k x2 (wrap64 (x7 + 1))))
def r3_Next.f (k : Nat) (a0_0 : Int) (a0_1 : Int) (a0_2 : Int) (a0_3 : Int) (a1 : Int) (a2 : Int) : Option (Int) := if a0_3 = 2 then (r3_Next.l0 k a2 (wrap64 (a1 + 1))) else (some (wrap64 (a1 + a0_2)))
theorem r3_Next.mono_l : ∀ k, (∀ y0 y1, LeO (r3_Next.l0 k y0 y1) (r3_Next.l0 (k + 1) y0 y1))
 | 0 => fun _ _ r h => by simp [r3_Next.l0] at h
 | k + 1 => by
  have ih0 := r3_Next.mono_l k
  ·intro y0 y1
   unfold r3_Next.l0
   repeat' (with_reducible first | exact ih0 _ _ | exact LeO.refl _ | exact LeO.none _ | refine LeO.ite ?_ ?_ | refine LeO.bind ?_ (fun _ => ?_))
theorem r3_Next.mono : ∀ a0 a1 a2 a3 a4 a5 k, LeO (r3_Next.f k a0 a1 a2 a3 a4 a5) (r3_Next.f (k + 1) a0 a1 a2 a3 a4 a5) := by
 intro a0 a1 a2 a3 a4 a5 k
 have ih0 := r3_Next.mono_l k; unfold r3_Next.f
 repeat' (with_reducible first | exact ih0 _ _ | exact LeO.refl _ | exact LeO.none _ | refine LeO.ite ?_ ?_ | refine LeO.bind ?_ (fun _ => ?_))
set_option maxHeartbeats 8000000 in
set_option maxRecDepth 100000 in
theorem r3_Next.calls (k : Nat) (a0_0 : Int) (a0_1 : Int) (a0_2 : Int) (a0_3 : Int) (a1 : Int) (a2 : Int) (r : Int) (w : World) (h : r3_Next.f k a0_0 a0_1 a0_2 a0_3 a1 a2 = some r) :
  Calls Try.prog 44 #[.agg #[.int .i64 a0_0, .int .i64 a0_1, .int .i64 a0_2, .int .u8 a0_3], .int .i64 a1, .int .i64 a2] w fun e w' => e = .returned (.int .i64 r) ∧ Below w.heap.size w w' := by
 have hu61 := Try.underlying61; have HB := zA.mk (Below.refl w.heap.size w); have H : (if a0_3 = 2 then (r3_Next.l0 k a2 (wrap64 (a1 + 1))) else (some (wrap64 (a1 + a0_2)))) = some r := h
 clear h; by_cases c4 : a0_3 = 2
 rotate_left
 ·rw [if_neg c4] at H
  have c4b0 : (a0_3 == 2) = false := beq_eq_false_iff_ne.mpr c4
  have c4b1 : (a0_3 != 2) = true := bne_iff_ne.mpr c4
  obtain rfl := Option.some.inj H
  go_enter Try.func44, Try.ntmps44
  go_wp2_with (first | ((with_reducible refine gate_dst (N := 3) rfl ?_); refine box_event ?hg (N := 3) ?hd (cs := #[.int .i64 a0_0, .int .i64 a0_1, .int .i64 a0_2, .int .u8 a0_3]) (t := 61) ?hr ?_; (case hd => rfl); (case hg => rfl); (case hr => first | (go_simp; done) | (go_simp; rfl)); intro gb233 hg w9 hbox hb; have BK233 := zA.mk (hbox); have GW233 := zA.mk ((by rw [hg]; exact (zE (aL HB)) : w.heap.size ≤ gb233)); replace HB := zA.mk (zH (aL HB) hb); have GE233 := GW233; clear hb hbox hg; obtain ⟨hcz10_0, hcz10_1, hcz10_2, hcz10_3, hfz10_0, hfz10_1, hfz10_2, hfz10_3⟩ := aC4 BK233))
  go_ret
  exact ⟨aX, aL HB⟩
 rw [if_pos c4] at H; have c4b0 : (a0_3 == 2) = true := beq_iff_eq.mpr c4
 have c4b1 : (a0_3 != 2) = false := bne_eq_false_iff_eq.mpr c4
 clear c4; have H' := zA.mk H
 clear H; go_enter Try.func44, Try.ntmps44
 go_wp2_with (first | ((with_reducible refine gate_dst (N := 3) rfl ?_); refine box_event ?hg (N := 3) ?hd (cs := #[.int .i64 a0_0, .int .i64 a0_1, .int .i64 a0_2, .int .u8 a0_3]) (t := 61) ?hr ?_; (case hd => rfl); (case hg => rfl); (case hr => first | (go_simp; done) | (go_simp; rfl)); intro gb233 hg w5 hbox hb; have BK233 := zA.mk (hbox); have GW233 := zA.mk ((by rw [hg]; exact (zE (aL HB)) : w.heap.size ≤ gb233)); replace HB := zA.mk (zH (aL HB) hb); have GE233 := GW233; clear hb hbox hg; obtain ⟨hcz6_0, hcz6_1, hcz6_2, hcz6_3, hfz6_0, hfz6_1, hfz6_2, hfz6_3⟩ := aC4 BK233))
 go_loopg [7] k (fun kq v7 w' => ∃ (x7_1 : Int), v7 = .int .i64 x7_1 ∧ zA (r3_Next.l0 kq a2 x7_1 = some r) ∧ zA (kq ≤ k) ∧ zA (w'.heap[gb233]? = some (.cells #[.int .i64 a0_0, .int .i64 a0_1, .int .i64 a0_2, .int .u8 a0_3] 61 (0, 0))) ∧ zA (Below w.heap.size w w'))
 case atStart => exact ⟨(wrap64 (a1 + 1)), aZ, H', ⟨Nat.le_refl _⟩, ⟨aB BK233⟩, ⟨aL HB⟩⟩
 clear H'; obtain ⟨x7_1, rfl, HA, HK1, BK233, HB⟩ := hrel; cases gk with
 | zero => exact absurd HA.out (by simp [r3_Next.l0])
 | succ k1 =>
  have H := HA.out; clear HA; simp only [r3_Next.l0] at H; by_cases c7 : a2 = 0
  ·rw [if_pos c7] at H
   exact absurd H (by simp)
  rw [if_neg c7] at H; have c7b0 : (a2 == 0) = false := beq_eq_false_iff_ne.mpr c7
  have c7b1 : (a2 != 0) = true := bne_iff_ne.mpr c7
  by_cases c8 : (Int.tmod x7_1 a2) = 0
  ·rw [if_pos c8] at H
   have c8b0 : ((Int.tmod x7_1 a2) == 0) = true := beq_iff_eq.mpr c8
   have c8b1 : ((Int.tmod x7_1 a2) != 0) = false := bne_eq_false_iff_eq.mpr c8
   clear c8; obtain rfl := Option.some.inj H
   go_wp2
   go_ret
   exact ⟨aX, aL HB⟩
  rw [if_neg c8] at H; have c8b0 : ((Int.tmod x7_1 a2) == 0) = false := beq_eq_false_iff_ne.mpr c8
  have c8b1 : ((Int.tmod x7_1 a2) != 0) = true := bne_iff_ne.mpr c8
  have H' := zA.mk H
  clear H; go_wp2
  go_roundg k1
  case measure => have := HK1.out; omega
  case rel => exact ⟨(wrap64 (x7_1 + 1)), aZ, H', ⟨by have := HK1.out; omega⟩, ⟨aB BK233⟩, ⟨aL HB⟩⟩
def r3_Columns.l0 : Nat → Int → Int → Int → List Int → Int → List (S61) → List Int → Option (List Int)
 | 0, _, _, _, _, _, _, _ => none
 | k + 1, x2, x3, x9, x10, x11, x235000, x235001 => if x11 < x2 then (if 0 ≤ x11 then (if x11 < (x235000.length : Int) then ((r3_Next.f k ((rd_T61 x235000 x11).f0) ((rd_T61 x235000 x11).f1) ((rd_T61 x235000 x11).f2) ((rd_T61 x235000 x11).f3) x9 x3).bind fun t239 => (if x10.length < 17592186044416 then (r3_Columns.l0 k x2 x3 t239 (x10 ++ [t239]) (wrap64 (x11 + 1)) x235000 x235001) else (none))) else (none)) else (none)) else (some x10)
def r3_Columns.f (k : Nat) (l0_0 : List (S61)) (l0_1 : List Int) (a1 : Int) (a2 : Int) (a3 : Int) : Option (List Int) := r3_Columns.l0 k a2 a3 0 (([0] : List Int)) a1 l0_0 l0_1
theorem r3_Columns.mono_l : ∀ k, (∀ y0 y1 y2 y3 y4 y5 y6, LeO (r3_Columns.l0 k y0 y1 y2 y3 y4 y5 y6) (r3_Columns.l0 (k + 1) y0 y1 y2 y3 y4 y5 y6))
 | 0 => fun _ _ _ _ _ _ _ r h => by simp [r3_Columns.l0] at h
 | k + 1 => by
  have ih0 := r3_Columns.mono_l k
  ·intro y0 y1 y2 y3 y4 y5 y6
   unfold r3_Columns.l0
   repeat' (with_reducible first | exact ih0 _ _ _ _ _ _ _ | exact r3_Next.mono _ _ _ _ _ _ _ | exact LeO.refl _ | exact LeO.none _ | refine LeO.ite ?_ ?_ | refine LeO.bind ?_ (fun _ => ?_))
theorem r3_Columns.mono : ∀ a0 a1 a2 a3 a4 k, LeO (r3_Columns.f k a0 a1 a2 a3 a4) (r3_Columns.f (k + 1) a0 a1 a2 a3 a4) := by
 intro a0 a1 a2 a3 a4 k
 have ih0 := r3_Columns.mono_l k; unfold r3_Columns.f
 repeat' (with_reducible first | exact ih0 _ _ _ _ _ _ _ | exact r3_Next.mono _ _ _ _ _ _ _ | exact LeO.refl _ | exact LeO.none _ | refine LeO.ite ?_ ?_ | refine LeO.bind ?_ (fun _ => ?_))
set_option maxHeartbeats 8000000 in
set_option maxRecDepth 100000 in
theorem r3_Columns.calls (k : Nat) (A0_0 : Option Addr) (c0_0 : Nat) (l0_0 : List (S61)) (A0_1 : Option Addr) (c0_1 : Nat) (l0_1 : List Int) (a1 : Int) (a2 : Int) (a3 : Int) (r : List Int) (w : World) (hr0_0 : Kd.C k61 w A0_0 l0_0.length l0_0) (hc0_0 : l0_0.length ≤ c0_0) (hr0_1 : Kd.C (Kd.int .u8) w A0_1 l0_1.length l0_1) (hc0_1 : l0_1.length ≤ c0_1) (h : r3_Columns.f k l0_0 l0_1 a1 a2 a3 = some r) :
  Calls Try.prog 35 #[.agg #[.slice A0_0 l0_0.length c0_0, .slice A0_1 l0_1.length c0_1], .int .i64 a1, .int .i64 a2, .int .i64 a3] w fun e w' => ∃ v0_ : Value, e = .returned (v0_) ∧ Kd.R (Kd.int .i64) 3 w' w.heap.size (fun _ => True) v0_ r ∧ Below w.heap.size w w' := by
 have hu31 := Try.underlying31; have hu61 := Try.underlying61; have HR0_0 := zA.mk hr0_0; have HC0_0 := zA.mk hc0_0; clear hr0_0 hc0_0; have HR0_1 := zA.mk hr0_1; have HC0_1 := zA.mk hc0_1; clear hr0_1 hc0_1; have HB := zA.mk (Below.refl w.heap.size w); have H : (r3_Columns.l0 k a2 a3 0 (([0] : List Int)) a1 l0_0 l0_1) = some r := h
 clear h; obtain ⟨y235, hy235⟩ : ∃ y_ : List Int, y_ = (([0] : List Int)) := ⟨_, rfl⟩; replace H : (r3_Columns.l0 k a2 a3 0 y235 a1 l0_0 l0_1) = some r := by first | (rw [hy235]; with_reducible exact H) | (have H2_ := (Option.bind_some _ _).symm.trans H; rw [hy235]; with_reducible exact H2_) | (have H2_ := (Option.bind_some _ _).symm.trans H; with_reducible exact H2_) | with_reducible exact H | (rw [hy235]; exact H) | exact H
 have Ny235 := zA.mk hy235; clear hy235; have H' := zA.mk H
 clear H; go_enter Try.func35, Try.ntmps35
 go_wp2_with (first | ((with_reducible refine gate_dst (N := 4) rfl ?_); refine box_event ?hg (N := 4) ?hd (cs := #[.slice A0_0 l0_0.length c0_0, .slice A0_1 l0_1.length c0_1]) (t := 31) ?hr ?_; (case hd => rfl); (case hg => rfl); (case hr => first | (go_simp; done) | (go_simp; rfl)); intro gb234 hg w5 hbox hb; have BK234 := zA.mk (hbox); have GW234 := zA.mk ((by rw [hg]; exact (zE (aL HB)) : w.heap.size ≤ gb234)); replace HB := zA.mk (zH (aL HB) hb); have GE234 := GW234; clear hb hbox hg) | ((with_reducible refine gate_dst (N := 12) rfl ?_); refine Kd.R_lit (Kd.int .i64) _ 3 ?hg (N := 12) ?hd (xs := ([0] : List Int)) (inner := [.int .i64 0]) (ok := fun _ => True) (okp := fun _ => True) ?hr ?hp (fun _ hk => hk) trivial (Below.refl _ _) (Nat.le_refl _) (by simp) ?_; (case hd => rfl); (case hg => rfl); (case hr => first | (go_simp; done) | (go_simp; rfl)); (case hp => exact (Reps.one (show Kd.M (Kd.int .i64) _ _ _ 0 [.int .i64 0] from rfl) (Reps.none _ _))); intro v236 w6 ho7 hb hg_ hnew_; clear hg_ hnew_; (first | rw [← Ny235.out] at ho7 | (simp only [Int.reduceToNat] at ho7; rw [← Ny235.out] at ho7)); have HO237 := zA.mk (Kd.zT ho7 (zE (aL HB))); replace BK234 := zA.mk (zB (aB BK234) hb); replace HB := zA.mk (zH (aL HB) hb); clear hb ho7))
 go_loopg [9, 10, 11] k (fun kq v9 v10 v11 w' => ∃ (x9_1 : Int) (x10_1 : List Int) (x11_1 : Int), v9 = .int .i64 x9_1 ∧ v11 = .int .i64 x11_1 ∧ zA (r3_Columns.l0 kq a2 a3 x9_1 x10_1 x11_1 l0_0 l0_1 = some r) ∧ zA (kq ≤ k) ∧ zA (Kd.R (Kd.int .i64) 3 w' w.heap.size (fun _ => True) v10 x10_1) ∧ zA (w'.heap[gb234]? = some (.cells #[(.slice A0_0 l0_0.length c0_0), (.slice A0_1 l0_1.length c0_1)] 31 (0, 0))) ∧ zA (Below w.heap.size w w'))
 case atStart => exact ⟨(0), (y235), (a1), aZ, aZ, H', ⟨Nat.le_refl _⟩, ⟨aR HO237⟩, ⟨aB BK234⟩, ⟨aL HB⟩⟩
 clear H'; obtain ⟨x9_1, x10_1, x11_1, rfl, rfl, HA, HK1, HO_10, BK234, HB⟩ := hrel; cases gk with
 | zero => exact absurd HA.out (by simp [r3_Columns.l0])
 | succ k1 =>
  have H := HA.out; clear HA; simp only [r3_Columns.l0] at H; by_cases c8 : x11_1 < a2
  rotate_left
  ·rw [if_neg c8] at H
   have c8b0 : decide (x11_1 < a2) = false := decide_eq_false c8
   clear c8; obtain rfl := Option.some.inj H
   go_wp2
   go_ret
   exact ⟨_, aX, aR HO_10, aL HB⟩
  rw [if_pos c8] at H; have c8b0 : decide (x11_1 < a2) = true := decide_eq_true c8
  clear c8; by_cases c9 : 0 ≤ x11_1
  rotate_left
  ·rw [if_neg c9] at H
   exact absurd H (by simp)
  rw [if_pos c9] at H; have c9b0 : decide (0 ≤ x11_1) = true := decide_eq_true c9
  clear c9; by_cases c10 : x11_1 < (l0_0.length : Int)
  rotate_left
  ·rw [if_neg c10] at H
   exact absurd H (by simp)
  rw [if_pos c10] at H; have c10b0 : decide (x11_1 < (l0_0.length : Int)) = true := decide_eq_true c10
  clear c10; replace H := Option.bind_eq_some_iff.mp H; obtain ⟨t239, A110, H⟩ := H; replace H : (if x10_1.length < 17592186044416 then (r3_Columns.l0 k1 a2 a3 t239 (x10_1 ++ [t239]) (wrap64 (x11_1 + 1)) l0_0 l0_1) else (none)) = some r := H; have A11 := zA.mk A110; clear A110; by_cases c12 : x10_1.length < 17592186044416
  rotate_left
  ·rw [if_neg c12] at H
   exact absurd H (by simp)
  rw [if_pos c12] at H; have LMc12 := zA.mk c12; clear c12; obtain ⟨y240, hy240⟩ : ∃ y_ : List Int, y_ = (x10_1 ++ [t239]) := ⟨_, rfl⟩; replace H : (r3_Columns.l0 k1 a2 a3 t239 y240 (wrap64 (x11_1 + 1)) l0_0 l0_1) = some r := by first | (rw [hy240]; with_reducible exact H) | (have H2_ := (Option.bind_some _ _).symm.trans H; rw [hy240]; with_reducible exact H2_) | (have H2_ := (Option.bind_some _ _).symm.trans H; with_reducible exact H2_) | with_reducible exact H | (rw [hy240]; exact H) | exact H
  have Ny240 := zA.mk hy240; clear hy240; have H' := zA.mk H
  clear H; obtain ⟨hcz13_0, hcz13_1, hfz13_0, hfz13_1⟩ := aC2 BK234; have p238 : 0 ≤ (x11_1 : Int) := aD
  have q238 : x11_1 < (l0_0.length : Int) := aD
  obtain ⟨ad238, e238, hx238_0, hx238_1, hx238_2, hx238_3⟩ := at_T61 HR0_0.out x11_1 p238 q238; cases e238
  replace hx238_0 := (HB.out.cell (World.block_lt_of_cell? w _ hx238_0)).trans hx238_0; replace hx238_1 := (HB.out.cell (World.block_lt_of_cell? w _ hx238_1)).trans hx238_1; replace hx238_2 := (HB.out.cell (World.block_lt_of_cell? w _ hx238_2)).trans hx238_2; replace hx238_3 := (HB.out.cell (World.block_lt_of_cell? w _ hx238_3)).trans hx238_3; replace p238 := eq_true p238; replace q238 := eq_true q238; go_wp2_with (first | ((with_reducible refine gate_callee (f := 44) rfl ?_); refine goesL_ (some 26) rfl rfl Try.func44 (by kernel_rfl) rfl #[.agg #[.int .i64 ((rd_T61 l0_0 x11_1).f0), .int .i64 ((rd_T61 l0_0 x11_1).f1), .int .i64 ((rd_T61 l0_0 x11_1).f2), .int .u8 ((rd_T61 l0_0 x11_1).f3)], .int .i64 x9_1, .int .i64 a3] rfl aT ?_; (with_reducible refine (r3_Next.calls k1 ((rd_T61 l0_0 x11_1).f0) ((rd_T61 l0_0 x11_1).f1) ((rd_T61 l0_0 x11_1).f2) ((rd_T61 l0_0 x11_1).f3) x9_1 a3 t239 _ A11.out).mono ?_); rintro e w14 ⟨rfl, hb⟩; refine ⟨_, rfl, ?_⟩; replace HO_10 := zA.mk (Kd.zQ (aR HO_10) hb); replace BK234 := zA.mk (zB (aB BK234) hb); replace HB := zA.mk (zH (aL HB) hb); (try clear hb); (try clear hb2); (try clear hk); (try clear hi)) | ((with_reducible refine gate_builtin (b := .append) (xs := #[.tmp 27, .tmp 29]) rfl ?_); at_builtin; refine Kd.R_append (Kd.int .i64) (w0 := w) w.heap.size rfl (.tmp 27) (.tmp 29) 37 3 (.int .i64 0) 8 rfl Try.underlying37 info3 rfl (by decide) (by omega) u10 x10_1 t239 [.int .i64 t239] (fun _ => True) (fun _ => False) rfl rfl ?aP (fun _ hk => hk.elim) ?aF ?aO ?aB ?aS ?aL ?_; (case aP => exact rfl); (case aB => exact (aL HB)); (case aF => exact (fun _ _ => trivial)); (case aO => exact (aR HO_10)); (case aS => exact (zE (aL HB))); (case aL => have := LMc12.out; omega); intro v241 w15 ho hb hg hat; rw [← Ny240.out] at ho; replace BK234 := zA.mk (blk_grown (g := gb234) (o := .cells #[.slice (some ad238) l0_0.length c0_0, .slice A0_1 l0_1.length c0_1] 31 (0, 0)) (aB BK234) hg (Kd.R_ne HO_10.out BK234.out (by decide))); replace HB := zA.mk (hb); have HO242 := zA.mk (ho); clear HO_10; clear ho hb hg hat))
  go_roundg k1
  case measure => have := HK1.out; omega
  case rel => exact ⟨(t239), (y240), (wrap64 (x11_1 + 1)), aZ, aZ, H', ⟨by have := HK1.out; omega⟩, ⟨aR HO242⟩, ⟨aB BK234⟩, ⟨aL HB⟩⟩
def r3_Cells.f (k : Nat) (l0_0 : List (S61)) (l0_1 : List Int) (a1 : Int) (a2 : Int) (a3 : Int) (a4 : Int) : Option (Int) := (r3_Trim.f k l0_0 l0_1 a1 a2).bind fun t244 => ((r3_Columns.f k l0_0 l0_1 a1 t244 a4).bind fun t245 => (if 0 ≤ (wrap64 ((t245.length : Int) - 1)) then (if (wrap64 ((t245.length : Int) - 1)) < (t245.length : Int) then (if a3 = 3 then (some (wrap64 ((rd t245 (wrap64 ((t245.length : Int) - 1))) + 1))) else (some (rd t245 (wrap64 ((t245.length : Int) - 1))))) else (none)) else (none)))
theorem r3_Cells.mono : ∀ a0 a1 a2 a3 a4 a5 k, LeO (r3_Cells.f k a0 a1 a2 a3 a4 a5) (r3_Cells.f (k + 1) a0 a1 a2 a3 a4 a5) := by
 intro a0 a1 a2 a3 a4 a5 k
 unfold r3_Cells.f
 repeat' (with_reducible first | exact r3_Columns.mono _ _ _ _ _ _ | exact r3_Trim.mono _ _ _ _ _ | exact LeO.refl _ | exact LeO.none _ | refine LeO.ite ?_ ?_ | refine LeO.bind ?_ (fun _ => ?_))
def r3_Cells.T1 : Bool × List (List Nat × List Nat) := (true, [([], []), ([], []), ([], []), ([], []), ([], []), ([2, 3, 4], [2, 3, 4]), ([], []), ([0, 1, 5, 6, 5], [0, 1, 5, 6]), ([7, 7, 0, 1, 2, 3, 4, 5, 6, 7], [7])])
def r3_Cells.B1 : List Nat := [0, 0, 0, 0, 0, 28, 0, 127, 255]
theorem r3_Cells.tab1 : rtab .any (opsOf Try.f30 1) = r3_Cells.T1 := by kernel_rfl
theorem r3_Cells.bits1 : waitsOk r3_Cells.T1.2 r3_Cells.B1 = true := by kernel_rfl
set_option maxHeartbeats 8000000 in
set_option maxRecDepth 100000 in
theorem r3_Cells.calls (k : Nat) (A0_0 : Option Addr) (c0_0 : Nat) (l0_0 : List (S61)) (A0_1 : Option Addr) (c0_1 : Nat) (l0_1 : List Int) (a1 : Int) (a2 : Int) (a3 : Int) (a4 : Int) (r : Int) (w : World) (hr0_0 : Kd.C k61 w A0_0 l0_0.length l0_0) (hc0_0 : l0_0.length ≤ c0_0) (hr0_1 : Kd.C (Kd.int .u8) w A0_1 l0_1.length l0_1) (hc0_1 : l0_1.length ≤ c0_1) (h : r3_Cells.f k l0_0 l0_1 a1 a2 a3 a4 = some r) :
  Calls Try.prog 30 #[.agg #[.slice A0_0 l0_0.length c0_0, .slice A0_1 l0_1.length c0_1], .int .i64 a1, .int .i64 a2, .int .u8 a3, .int .i64 a4] w fun e w' => e = .returned (.int .i64 r) ∧ Below w.heap.size w w' := by
 have hu31 := Try.underlying31; have HR0_0 := zA.mk hr0_0; have HC0_0 := zA.mk hc0_0; clear hr0_0 hc0_0; have HR0_1 := zA.mk hr0_1; have HC0_1 := zA.mk hc0_1; clear hr0_1 hc0_1; have HB := zA.mk (Below.refl w.heap.size w); have H : ((r3_Trim.f k l0_0 l0_1 a1 a2).bind fun t244 => ((r3_Columns.f k l0_0 l0_1 a1 t244 a4).bind fun t245 => (if 0 ≤ (wrap64 ((t245.length : Int) - 1)) then (if (wrap64 ((t245.length : Int) - 1)) < (t245.length : Int) then (if a3 = 3 then (some (wrap64 ((rd t245 (wrap64 ((t245.length : Int) - 1))) + 1))) else (some (rd t245 (wrap64 ((t245.length : Int) - 1))))) else (none)) else (none)))) = some r := h
 clear h; replace H := Option.bind_eq_some_iff.mp H; obtain ⟨t244, A60, H⟩ := H; replace H : ((r3_Columns.f k l0_0 l0_1 a1 t244 a4).bind fun t245 => (if 0 ≤ (wrap64 ((t245.length : Int) - 1)) then (if (wrap64 ((t245.length : Int) - 1)) < (t245.length : Int) then (if a3 = 3 then (some (wrap64 ((rd t245 (wrap64 ((t245.length : Int) - 1))) + 1))) else (some (rd t245 (wrap64 ((t245.length : Int) - 1))))) else (none)) else (none))) = some r := H
 have A6 := zA.mk A60; clear A60; replace H := Option.bind_eq_some_iff.mp H; obtain ⟨t245, A70, H⟩ := H; replace H : (if 0 ≤ (wrap64 ((t245.length : Int) - 1)) then (if (wrap64 ((t245.length : Int) - 1)) < (t245.length : Int) then (if a3 = 3 then (some (wrap64 ((rd t245 (wrap64 ((t245.length : Int) - 1))) + 1))) else (some (rd t245 (wrap64 ((t245.length : Int) - 1))))) else (none)) else (none)) = some r := H; have A7 := zA.mk A70; clear A70; obtain ⟨ji8, hji8⟩ : ∃ j_ : Int, (wrap64 ((t245.length : Int) - 1)) = j_ := ⟨_, rfl⟩; replace H : (if 0 ≤ (ji8) then (if (ji8) < (t245.length : Int) then (if a3 = 3 then (some (wrap64 ((rd t245 (ji8)) + 1))) else (some (rd t245 (ji8)))) else (none)) else (none)) = some r := by first | (rw [hji8] at H; exact H) | (simp only [hji8] at H ⊢; exact H)
 (try rw [hji8] at A6)
 (try rw [hji8] at A7)
 have hji8w : (IntKind.i64.wrap ((t245.length : Int) - 1)) = ji8 := (i64_w _).trans hji8
 by_cases c9 : 0 ≤ (ji8)
 rotate_left
 ·rw [if_neg c9] at H
  exact absurd H (by simp)
 rw [if_pos c9] at H; have c9b0 : decide (0 ≤ (ji8)) = true := decide_eq_true c9
 clear c9; by_cases c10 : (ji8) < (t245.length : Int)
 rotate_left
 ·rw [if_neg c10] at H
  exact absurd H (by simp)
 rw [if_pos c10] at H; have c10b0 : decide ((ji8) < (t245.length : Int)) = true := decide_eq_true c10
 clear c10; by_cases c11 : a3 = 3
 ·rw [if_pos c11] at H
  have c11b0 : (a3 == 3) = true := beq_iff_eq.mpr c11
  have c11b1 : (a3 != 3) = false := bne_eq_false_iff_eq.mpr c11
  clear c11; obtain rfl := Option.some.inj H
  go_enter Try.func30, Try.ntmps30
  try go_wp2_with (first | ((with_reducible refine gate_dst (N := 5) rfl ?_); refine box_event ?hg (N := 5) ?hd (cs := #[.slice A0_0 l0_0.length c0_0, .slice A0_1 l0_1.length c0_1]) (t := 31) ?hr ?_; (case hd => rfl); (case hg => rfl); (case hr => first | (go_simp; done) | (go_simp; rfl)); intro gb243 hg w12 hbox hb; have BK243 := zA.mk (hbox); have GW243 := zA.mk ((by rw [hg]; exact (zE (aL HB)) : w.heap.size ≤ gb243)); replace HB := zA.mk (zH (aL HB) hb); have GE243 := GW243; clear hb hbox hg))
  replace BK243 := zA.mk (zD BK243.out); replace HB := zA.mk (below_drew1 HB.out); refine start_ (n := 9) (S := fun w' => w'.cell? ⟨gb243, 0, none⟩ = some (.slice A0_0 l0_0.length c0_0) ∧ w'.cell? ⟨gb243, 1, none⟩ = some (.slice A0_1 l0_1.length c0_1)) (ds := []) #[false, false, false, false, false, false, false, false, false] (by kernel_rfl) rfl rfl ⟨(zC BK243.out 0).trans rfl, (zC BK243.out 1).trans rfl⟩ (fun hHeld => ?_); refine with_tabW r3_Cells.tab1 r3_Cells.bits1 (fun HT_ HW_ => ?_)
  generalize w12.drew = w13 at BK243 HB hHeld ⊢
  refine aP 1 (some 14) (tb_ 2 9) HT_ ?_
  refine aP 3 (some 16) (tb_ 10 9) HT_ ?_
  refine aP 4 (some 17) (tb_ 26 9) HT_ ?_
  refine aP 6 (some 19) (tb_ 90 9) HT_ ?_
  refine take_ (i := 0) (N := some 13) (v := ?_) (a' := ?_) (tb_ 91 9) rfl rfl (take_ofW HT_.out HW_.out (by kernel_rfl)) (fun _ _ _ h => h) (Or.inl ⟨by rfl, ?_⟩) hHeld ?_ ?_
  rotate_left
  ·rintro w' ⟨s0, s1⟩
   go_simp
   with_reducible rfl
  rotate_left
  ·simp only [Act.put, sA_, sB_, sC_, i64_w, i32_w]
   rfl
  refine take_ (i := 2) (N := some 15) (v := ?_) (a' := ?_) (tb_ 95 9) rfl rfl (take_ofW HT_.out HW_.out (by kernel_rfl)) (fun _ _ _ h => h) (Or.inl ⟨by rfl, ?_⟩) hHeld ?_ ?_
  rotate_left
  ·rintro w' ⟨s0, s1⟩
   go_simp
   with_reducible rfl
  rotate_left
  ·simp only [Act.put, sA_, sB_, sC_, i64_w, i32_w]
   rfl
  refine one_ (i := 5) (N := some 18) (tb_ 127 9) rfl rfl (one_of HT_.out (by kernel_rfl)) (by decide) (fun K hK => ?_)
  refine goes_ Try.func27 (by kernel_rfl) rfl #[.agg #[.slice A0_0 l0_0.length c0_0, .slice A0_1 l0_1.length c0_1], .int .i64 a1, .int .i64 a2] (by rfl) rfl rfl aT ?_
  with_reducible refine (r3_Trim.calls k _ _ l0_0 _ _ l0_1 a1 a2 t244 _ ?side1 ?side2 ?side3 ?side4 A6.out).mono ?_
  (case side1 => exact aA HR0_0 HB)
  (case side2 => exact HC0_0.out)
  (case side3 => exact aA HR0_1 HB)
  (case side4 => exact HC0_1.out)
  rintro e w14 ⟨rfl, hb⟩
  refine ⟨_, rfl, ?_⟩
  replace BK243 := zA.mk (zB (aB BK243) hb); replace HB := zA.mk (zH (aL HB) hb); (try clear hb)
  (try clear hb2)
  (try clear hk)
  (try clear hi)
  refine hK.out _ _ ⟨(zC BK243.out 0).trans rfl, (zC BK243.out 1).trans rfl⟩ (fun hHeld => ?_)
  clear hK K; refine norm_ (a' := ?_) ?_ ?_
  rotate_left
  ·show Act.put _ (some 18) _ = _
   simp only [Act.put, sA_, sB_, sC_, i64_w, i32_w]; rfl
  refine one_ (i := 7) (N := some 20) (tb_ 255 9) rfl rfl (one_of HT_.out (by kernel_rfl)) (by decide) (fun K hK => ?_)
  refine goes_ Try.func35 (by kernel_rfl) rfl #[.agg #[.slice A0_0 l0_0.length c0_0, .slice A0_1 l0_1.length c0_1], .int .i64 a1, .int .i64 t244, .int .i64 a4] (by rfl) rfl rfl aT ?_
  with_reducible refine (r3_Columns.calls k _ _ l0_0 _ _ l0_1 a1 t244 a4 t245 _ ?side1 ?side2 ?side3 ?side4 A7.out).mono ?_
  (case side1 => exact aA HR0_0 HB)
  (case side2 => exact HC0_0.out)
  (case side3 => exact aA HR0_1 HB)
  (case side4 => exact HC0_1.out)
  rintro e w15 ⟨v246, rfl, ho0, hb⟩
  refine ⟨_, rfl, ?_⟩
  have HO247 := zA.mk (Kd.zT ho0 (zE (aL HB))); replace BK243 := zA.mk (zB (aB BK243) hb); replace HB := zA.mk (zH (aL HB) hb); (try clear hb)
  (try clear hb2)
  (try clear hk)
  (try clear hi)
  (try clear ho0)
  refine hK.out _ _ ⟨(zC BK243.out 0).trans rfl, (zC BK243.out 1).trans rfl⟩ (fun hHeld => ?_)
  clear hK K; refine norm_ (a' := ?_) ?_ ?_
  rotate_left
  ·show Act.put _ (some 20) _ = _
   simp only [Act.put, sA_, sB_, sC_, i64_w, i32_w]; rfl
  refine aP 8 (some 11) (tb_ 511 9) HT_ ?_
  refine done_ (done_of HT_.out (by kernel_rfl)) ?_
  obtain ⟨Ao16, co16, eo16⟩ := Kd.zS HO247.out; subst eo16; have p248 : 0 ≤ ((ji8) : Int) := aD
  have q248 : (ji8) < (t245.length : Int) := aD
  obtain ⟨ad248, e248, hx248_0⟩ := Kd.at_int (Kd.zP HO247.out).2.2 (ji8) p248 q248; cases e248
  replace p248 := eq_true p248; replace q248 := eq_true q248; try go_wp2
  go_ret
  exact ⟨by first | rfl | (simp [errW_none, errW_some] <;> rfl) | (simp only [← hji8]; first | rfl | (simp [errW_none, errW_some] <;> rfl)) | (simp [*, errW_none, errW_some] <;> rfl), aL HB⟩
 rw [if_neg c11] at H; have c11b0 : (a3 == 3) = false := beq_eq_false_iff_ne.mpr c11
 have c11b1 : (a3 != 3) = true := bne_iff_ne.mpr c11
 obtain rfl := Option.some.inj H
 go_enter Try.func30, Try.ntmps30
 try go_wp2_with (first | ((with_reducible refine gate_dst (N := 5) rfl ?_); refine box_event ?hg (N := 5) ?hd (cs := #[.slice A0_0 l0_0.length c0_0, .slice A0_1 l0_1.length c0_1]) (t := 31) ?hr ?_; (case hd => rfl); (case hg => rfl); (case hr => first | (go_simp; done) | (go_simp; rfl)); intro gb243 hg w17 hbox hb; have BK243 := zA.mk (hbox); have GW243 := zA.mk ((by rw [hg]; exact (zE (aL HB)) : w.heap.size ≤ gb243)); replace HB := zA.mk (zH (aL HB) hb); have GE243 := GW243; clear hb hbox hg))
 replace BK243 := zA.mk (zD BK243.out); replace HB := zA.mk (below_drew1 HB.out); refine start_ (n := 9) (S := fun w' => w'.cell? ⟨gb243, 0, none⟩ = some (.slice A0_0 l0_0.length c0_0) ∧ w'.cell? ⟨gb243, 1, none⟩ = some (.slice A0_1 l0_1.length c0_1)) (ds := []) #[false, false, false, false, false, false, false, false, false] (by kernel_rfl) rfl rfl ⟨(zC BK243.out 0).trans rfl, (zC BK243.out 1).trans rfl⟩ (fun hHeld => ?_); refine with_tabW r3_Cells.tab1 r3_Cells.bits1 (fun HT_ HW_ => ?_)
 generalize w17.drew = w18 at BK243 HB hHeld ⊢
 refine aP 1 (some 14) (tb_ 2 9) HT_ ?_
 refine aP 3 (some 16) (tb_ 10 9) HT_ ?_
 refine aP 4 (some 17) (tb_ 26 9) HT_ ?_
 refine aP 6 (some 19) (tb_ 90 9) HT_ ?_
 refine take_ (i := 0) (N := some 13) (v := ?_) (a' := ?_) (tb_ 91 9) rfl rfl (take_ofW HT_.out HW_.out (by kernel_rfl)) (fun _ _ _ h => h) (Or.inl ⟨by rfl, ?_⟩) hHeld ?_ ?_
 rotate_left
 ·rintro w' ⟨s0, s1⟩
  go_simp
  with_reducible rfl
 rotate_left
 ·simp only [Act.put, sA_, sB_, sC_, i64_w, i32_w]
  rfl
 refine take_ (i := 2) (N := some 15) (v := ?_) (a' := ?_) (tb_ 95 9) rfl rfl (take_ofW HT_.out HW_.out (by kernel_rfl)) (fun _ _ _ h => h) (Or.inl ⟨by rfl, ?_⟩) hHeld ?_ ?_
 rotate_left
 ·rintro w' ⟨s0, s1⟩
  go_simp
  with_reducible rfl
 rotate_left
 ·simp only [Act.put, sA_, sB_, sC_, i64_w, i32_w]
  rfl
 refine one_ (i := 5) (N := some 18) (tb_ 127 9) rfl rfl (one_of HT_.out (by kernel_rfl)) (by decide) (fun K hK => ?_)
 refine goes_ Try.func27 (by kernel_rfl) rfl #[.agg #[.slice A0_0 l0_0.length c0_0, .slice A0_1 l0_1.length c0_1], .int .i64 a1, .int .i64 a2] (by rfl) rfl rfl aT ?_
 with_reducible refine (r3_Trim.calls k _ _ l0_0 _ _ l0_1 a1 a2 t244 _ ?side1 ?side2 ?side3 ?side4 A6.out).mono ?_
 (case side1 => exact aA HR0_0 HB)
 (case side2 => exact HC0_0.out)
 (case side3 => exact aA HR0_1 HB)
 (case side4 => exact HC0_1.out)
 rintro e w19 ⟨rfl, hb⟩
 refine ⟨_, rfl, ?_⟩
 replace BK243 := zA.mk (zB (aB BK243) hb); replace HB := zA.mk (zH (aL HB) hb); (try clear hb)
 (try clear hb2)
 (try clear hk)
 (try clear hi)
 refine hK.out _ _ ⟨(zC BK243.out 0).trans rfl, (zC BK243.out 1).trans rfl⟩ (fun hHeld => ?_)
 clear hK K; refine norm_ (a' := ?_) ?_ ?_
 rotate_left
 ·show Act.put _ (some 18) _ = _
  simp only [Act.put, sA_, sB_, sC_, i64_w, i32_w]; rfl
 refine one_ (i := 7) (N := some 20) (tb_ 255 9) rfl rfl (one_of HT_.out (by kernel_rfl)) (by decide) (fun K hK => ?_)
 refine goes_ Try.func35 (by kernel_rfl) rfl #[.agg #[.slice A0_0 l0_0.length c0_0, .slice A0_1 l0_1.length c0_1], .int .i64 a1, .int .i64 t244, .int .i64 a4] (by rfl) rfl rfl aT ?_
 with_reducible refine (r3_Columns.calls k _ _ l0_0 _ _ l0_1 a1 t244 a4 t245 _ ?side1 ?side2 ?side3 ?side4 A7.out).mono ?_
 (case side1 => exact aA HR0_0 HB)
 (case side2 => exact HC0_0.out)
 (case side3 => exact aA HR0_1 HB)
 (case side4 => exact HC0_1.out)
 rintro e w20 ⟨v246, rfl, ho0, hb⟩
 refine ⟨_, rfl, ?_⟩
 have HO247 := zA.mk (Kd.zT ho0 (zE (aL HB))); replace BK243 := zA.mk (zB (aB BK243) hb); replace HB := zA.mk (zH (aL HB) hb); (try clear hb)
 (try clear hb2)
 (try clear hk)
 (try clear hi)
 (try clear ho0)
 refine hK.out _ _ ⟨(zC BK243.out 0).trans rfl, (zC BK243.out 1).trans rfl⟩ (fun hHeld => ?_)
 clear hK K; refine norm_ (a' := ?_) ?_ ?_
 rotate_left
 ·show Act.put _ (some 20) _ = _
  simp only [Act.put, sA_, sB_, sC_, i64_w, i32_w]; rfl
 refine aP 8 (some 11) (tb_ 511 9) HT_ ?_
 refine done_ (done_of HT_.out (by kernel_rfl)) ?_
 obtain ⟨Ao21, co21, eo21⟩ := Kd.zS HO247.out; subst eo21; have p248 : 0 ≤ ((ji8) : Int) := aD
 have q248 : (ji8) < (t245.length : Int) := aD
 obtain ⟨ad248, e248, hx248_0⟩ := Kd.at_int (Kd.zP HO247.out).2.2 (ji8) p248 q248; cases e248
 replace p248 := eq_true p248; replace q248 := eq_true q248; try go_wp2
 go_ret
 exact ⟨by first | rfl | (simp [errW_none, errW_some] <;> rfl) | (simp only [← hji8]; first | rfl | (simp [errW_none, errW_some] <;> rfl)) | (simp [*, errW_none, errW_some] <;> rfl), aL HB⟩
def r3_Line.f (k : Nat) (l0_0 : List (S61)) (l0_1 : List Int) (a1 : Int) (a2 : Int) (a3 : Int) (a4 : Int) : Option (Int × Int × Int × Int) := (r3_Cells.f k l0_0 l0_1 a1 a2 a3 a4).bind fun t251 => (some (a1, a2, t251, a3))
theorem r3_Line.mono : ∀ a0 a1 a2 a3 a4 a5 k, LeO (r3_Line.f k a0 a1 a2 a3 a4 a5) (r3_Line.f (k + 1) a0 a1 a2 a3 a4 a5) := by
 intro a0 a1 a2 a3 a4 a5 k
 unfold r3_Line.f
 repeat' (with_reducible first | exact r3_Cells.mono _ _ _ _ _ _ _ | exact LeO.refl _ | exact LeO.none _ | refine LeO.ite ?_ ?_ | refine LeO.bind ?_ (fun _ => ?_))
set_option maxHeartbeats 8000000 in
set_option maxRecDepth 100000 in
theorem r3_Line.calls (k : Nat) (A0_0 : Option Addr) (c0_0 : Nat) (l0_0 : List (S61)) (A0_1 : Option Addr) (c0_1 : Nat) (l0_1 : List Int) (a1 : Int) (a2 : Int) (a3 : Int) (a4 : Int) (r1 : Int) (r2 : Int) (r3 : Int) (r4 : Int) (w : World) (hr0_0 : Kd.C k61 w A0_0 l0_0.length l0_0) (hc0_0 : l0_0.length ≤ c0_0) (hr0_1 : Kd.C (Kd.int .u8) w A0_1 l0_1.length l0_1) (hc0_1 : l0_1.length ≤ c0_1) (h : r3_Line.f k l0_0 l0_1 a1 a2 a3 a4 = some (r1, r2, r3, r4)) :
  Calls Try.prog 31 #[.agg #[.slice A0_0 l0_0.length c0_0, .slice A0_1 l0_1.length c0_1], .int .i64 a1, .int .i64 a2, .int .u8 a3, .int .i64 a4] w fun e w' => e = .returned (.agg #[.int .i64 r1, .int .i64 r2, .int .i64 r3, .int .u8 r4]) ∧ Below w.heap.size w w' := by
 have hu31 := Try.underlying31; have hu45 := Try.underlying45; have HR0_0 := zA.mk hr0_0; have HC0_0 := zA.mk hc0_0; clear hr0_0 hc0_0; have HR0_1 := zA.mk hr0_1; have HC0_1 := zA.mk hc0_1; clear hr0_1 hc0_1; have HB := zA.mk (Below.refl w.heap.size w); have H : ((r3_Cells.f k l0_0 l0_1 a1 a2 a3 a4).bind fun t251 => (some (a1, a2, t251, a3))) = some (r1, r2, r3, r4) := h
 clear h; replace H := Option.bind_eq_some_iff.mp H; obtain ⟨t251, A60, H⟩ := H; replace H : (some (a1, a2, t251, a3)) = some (r1, r2, r3, r4) := H; have A6 := zA.mk A60; clear A60; simp only [Option.some.injEq, Prod.mk.injEq] at H; obtain ⟨rfl, rfl, rfl, rfl⟩ := H; go_enter Try.func31, Try.ntmps31
 go_wp2_with (first | ((with_reducible refine gate_dst (N := 5) rfl ?_); refine box_event ?hg (N := 5) ?hd (cs := #[.slice A0_0 l0_0.length c0_0, .slice A0_1 l0_1.length c0_1]) (t := 31) ?hr ?_; (case hd => rfl); (case hg => rfl); (case hr => first | (go_simp; done) | (go_simp; rfl)); intro gb249 hg w7 hbox hb; have BK249 := zA.mk (hbox); have GW249 := zA.mk ((by rw [hg]; exact (zE (aL HB)) : w.heap.size ≤ gb249)); replace HB := zA.mk (zH (aL HB) hb); have GE249 := GW249; clear hb hbox hg) | ((with_reducible refine gate_dst (N := 10) rfl ?_); refine box_event ?hg (N := 10) ?hd (cs := #[.int .i64 0, .int .i64 0, .int .i64 0, .int .u8 0]) (t := 45) ?hr ?_; (case hd => rfl); (case hg => rfl); (case hr => first | (go_simp; done) | (go_simp; rfl)); intro gb250 hg w8 hbox hb; have BK250 := zA.mk (hbox); have GW250 := zA.mk ((by rw [hg]; exact (zE (aL HB)) : w.heap.size ≤ gb250)); replace HB := zA.mk (zH (aL HB) hb); have GE250 := GW250; have NB249_250 := zA.mk ((by rw [hg]; exact Nat.ne_of_lt (blk_lt (aB BK249)) : gb249 ≠ gb250)); have NB250_249 := zA.mk ((by rw [hg]; exact Nat.ne_of_gt (blk_lt (g := gb249) (o := .cells #[.slice A0_0 l0_0.length c0_0, .slice A0_1 l0_1.length c0_1] 31 (0, 0)) (aB BK249)) : gb250 ≠ gb249)); replace BK249 := zA.mk (zB (aB BK249) hb); clear hb hbox hg; have hnb9 := NB249_250.out; have hnc9 := NB250_249.out; obtain ⟨hcz10_0, hcz10_1, hfz10_0, hfz10_1⟩ := aC2 BK249) | ((with_reducible refine gate_callee (f := 30) rfl ?_); refine goesL_ (some 18) rfl rfl Try.func30 (by kernel_rfl) rfl #[.agg #[.slice A0_0 l0_0.length c0_0, .slice A0_1 l0_1.length c0_1], .int .i64 a1, .int .i64 a2, .int .u8 a3, .int .i64 a4] rfl aT ?_; (with_reducible refine (r3_Cells.calls k _ _ l0_0 _ _ l0_1 a1 a2 a3 a4 t251 _ ?side1 ?side2 ?side3 ?side4 A6.out).mono ?_); (case side1 => exact aA HR0_0 HB); (case side2 => exact HC0_0.out); (case side3 => exact aA HR0_1 HB); (case side4 => exact HC0_1.out); rintro e w11 ⟨rfl, hb⟩; refine ⟨_, rfl, ?_⟩; replace BK249 := zA.mk (zB (aB BK249) hb); replace BK250 := zA.mk (zB (aB BK250) hb); replace HB := zA.mk (zH (aL HB) hb); (try clear hb); (try clear hb2); (try clear hk); (try clear hi); obtain ⟨hcz12_0, hcz12_1, hcz12_2, hcz12_3, hfz12_0, hfz12_1, hfz12_2, hfz12_3⟩ := aC4 BK250) | ((with_reducible refine gate_store (t := 45) (p := 10) rfl ?_); refine store_event (t := 45) (p := 10) (v := ?vo_w13) (w1 := ((((w11.setCell ⟨gb250, 0, none⟩ (.int .i64 a1)).setCell ⟨gb250, 1, none⟩ (.int .i64 a2)).setCell ⟨gb250, 2, none⟩ (.int .i64 t251)).setCell ⟨gb250, 3, none⟩ (.int .u8 a3))) ?hg ?ho ?hn ?hr ?_; (case ho => rfl); (case hg => rfl); (case hn => rfl); (case hr => first | (go_simp; done) | (go_simp; rfl)); intro w13 hw; have n0_ : zA (w13.heap[gb249]? = some (.cells #[.slice A0_0 l0_0.length c0_0, .slice A0_1 l0_1.length c0_1] 31 (0, 0))) := ⟨(by rw [hw]; exact (aB BK249))⟩; have n1_ : zA (w13.heap[gb250]? = some (.cells #[.int .i64 a1, .int .i64 a2, .int .i64 t251, .int .u8 a3] 45 (0, 0))) := ⟨(by rw [hw]; exact (by (with_reducible repeat (first | refine zF ?_ _ | refine zD ?_ | refine zG ?_ _)); refine blk_put (cs := #[.int .i64 a1, .int .i64 a2, .int .i64 t251, .int .u8 0]) ?_ 3 _ rfl; (with_reducible repeat (first | refine zF ?_ _ | refine zD ?_ | refine zG ?_ _)); refine blk_put (cs := #[.int .i64 a1, .int .i64 a2, .int .i64 0, .int .u8 0]) ?_ 2 _ rfl; (with_reducible repeat (first | refine zF ?_ _ | refine zD ?_ | refine zG ?_ _)); refine blk_put (cs := #[.int .i64 a1, .int .i64 0, .int .i64 0, .int .u8 0]) ?_ 1 _ rfl; (with_reducible repeat (first | refine zF ?_ _ | refine zD ?_ | refine zG ?_ _)); refine blk_put (cs := #[.int .i64 0, .int .i64 0, .int .i64 0, .int .u8 0]) ?_ 0 _ rfl; (with_reducible repeat (first | refine zF ?_ _ | refine zD ?_ | refine zG ?_ _)); exact BK250.out))⟩; have n2_ : zA (Below w.heap.size w w13) := ⟨(by rw [hw]; exact (aL HB))⟩; clear hw; clear BK249; clear BK250; clear HB; have BK249 := n0_; have BK250 := n1_; have HB := n2_; clear n0_ n1_ n2_))
 refine bodyPost_ret (results_cell_row rfl _ _ gb250 45 #[.int .i64 a1, .int .i64 a2, .int .i64 t251, .int .u8 a3] (0, 0) _ rfl (aB BK250) Try.underlying45 rfl (by kernel_rfl)) rfl ?_
 exact ⟨aX, aL HB⟩
mutual
def r3_First.l0 : Nat → Int → Int → List (S45) → List (S61) → List Int → Int → Int → Int → Int → Int → Nat → Option ((List (S45)))
 | 0, _, _, _, _, _, _, _, _, _, _, _ => none
 | k + 1, x1, x2, x9, x253000, x253001, x254000, x254001, x254002, x254003, x254004, x254005 => if x1 < x2 then (r3_First.l1 k x1 x2 x9 (-1) (-1) (wrap64 (x1 + 1)) x253000 x253001 x254000 x254001 x254002 x254003 x254004 x254005) else (some x9)
def r3_First.l1 : Nat → Int → Int → List (S45) → Int → Int → Int → List (S61) → List Int → Int → Int → Int → Int → Int → Nat → Option ((List (S45)))
 | 0, _, _, _, _, _, _, _, _, _, _, _, _, _, _ => none
 | k + 1, x1, x2, x9, x10, x11, x12, x253000, x253001, x254000, x254001, x254002, x254003, x254004, x254005 => if x12 ≤ x2 then ((r3_Cells.f k x253000 x253001 x1 x12 0 x254001).bind fun t254 => (if t254 ≤ x254000 then (if 0 ≤ x12 then (if x12 < (x253001.length : Int) then (if (rd x253001 x12) = 0 then (r3_First.l1 k x1 x2 x9 x10 x12 (wrap64 (x12 + 1)) x253000 x253001 x254000 x254001 x254002 x254003 x254004 x254005) else ((r3_Cells.f k x253000 x253001 x1 x12 (rd x253001 x12) x254001).bind fun t257 => (if t257 ≤ x254000 then (r3_First.l1 k x1 x2 x9 x12 x12 (wrap64 (x12 + 1)) x253000 x253001 x254000 x254001 x254002 x254003 x254004 x254005) else (r3_First.l1 k x1 x2 x9 x10 x12 (wrap64 (x12 + 1)) x253000 x253001 x254000 x254001 x254002 x254003 x254004 x254005)))) else (none)) else (none)) else (r3_First.l1 k x1 x2 x9 x10 x11 (wrap64 (x12 + 1)) x253000 x253001 x254000 x254001 x254002 x254003 x254004 x254005))) else (if x10 ≥ 0 then (if 0 ≤ x10 then (if x10 < (x253001.length : Int) then ((r3_Line.f k x253000 x253001 x1 x10 (rd x253001 x10) x254001).bind fun bt259 => (if x9.length < 4398046511104 then (r3_First.l0 k x10 x2 (x9 ++ [(⟨bt259.1, bt259.2.1, bt259.2.2.1, bt259.2.2.2⟩ : S45)]) x253000 x253001 x254000 x254001 x254002 x254003 x254004 x254005) else (none))) else (none)) else (none)) else (if x11 < 0 then (if 0 ≤ (wrap64 (x1 + 1)) then (if (wrap64 (x1 + 1)) < (x253001.length : Int) then (if (rd x253001 (wrap64 (x1 + 1))) = 2 then ((r3_Line.f k x253000 x253001 x1 (wrap64 (x1 + 1)) (rd x253001 (wrap64 (x1 + 1))) x254001).bind fun bt268 => (if x9.length < 4398046511104 then (r3_First.l0 k (wrap64 (x1 + 1)) x2 (x9 ++ [(⟨bt268.1, bt268.2.1, bt268.2.2.1, bt268.2.2.2⟩ : S45)]) x253000 x253001 x254000 x254001 x254002 x254003 x254004 x254005) else (none))) else (if (rd x253001 (wrap64 (x1 + 1))) = 1 then ((r3_Line.f k x253000 x253001 x1 (wrap64 (x1 + 1)) (rd x253001 (wrap64 (x1 + 1))) x254001).bind fun bt277 => (if x9.length < 4398046511104 then (r3_First.l0 k (wrap64 (x1 + 1)) x2 (x9 ++ [(⟨bt277.1, bt277.2.1, bt277.2.2.1, bt277.2.2.2⟩ : S45)]) x253000 x253001 x254000 x254001 x254002 x254003 x254004 x254005) else (none))) else ((r3_Line.f k x253000 x253001 x1 (wrap64 (x1 + 1)) 4 x254001).bind fun bt284 => (if x9.length < 4398046511104 then (r3_First.l0 k (wrap64 (x1 + 1)) x2 (x9 ++ [(⟨bt284.1, bt284.2.1, bt284.2.2.1, bt284.2.2.2⟩ : S45)]) x253000 x253001 x254000 x254001 x254002 x254003 x254004 x254005) else (none))))) else (none)) else (none)) else (if 0 ≤ x11 then (if x11 < (x253001.length : Int) then (if (rd x253001 x11) = 2 then ((r3_Line.f k x253000 x253001 x1 x11 (rd x253001 x11) x254001).bind fun bt293 => (if x9.length < 4398046511104 then (r3_First.l0 k x11 x2 (x9 ++ [(⟨bt293.1, bt293.2.1, bt293.2.2.1, bt293.2.2.2⟩ : S45)]) x253000 x253001 x254000 x254001 x254002 x254003 x254004 x254005) else (none))) else (if (rd x253001 x11) = 1 then ((r3_Line.f k x253000 x253001 x1 x11 (rd x253001 x11) x254001).bind fun bt302 => (if x9.length < 4398046511104 then (r3_First.l0 k x11 x2 (x9 ++ [(⟨bt302.1, bt302.2.1, bt302.2.2.1, bt302.2.2.2⟩ : S45)]) x253000 x253001 x254000 x254001 x254002 x254003 x254004 x254005) else (none))) else ((r3_Line.f k x253000 x253001 x1 x11 4 x254001).bind fun bt309 => (if x9.length < 4398046511104 then (r3_First.l0 k x11 x2 (x9 ++ [(⟨bt309.1, bt309.2.1, bt309.2.2.1, bt309.2.2.2⟩ : S45)]) x253000 x253001 x254000 x254001 x254002 x254003 x254004 x254005) else (none))))) else (none)) else (none))))
end
def r3_First.f (k : Nat) (l0_0 : List (S61)) (l0_1 : List Int) (a1 : Int) (a2 : Int) (a3_0 : Int) (a3_1 : Int) (a3_2 : Int) (a3_3 : Int) (a3_4 : Int) (a3_5 : Nat) : Option ((List (S45))) := r3_First.l0 k a1 a2 ([] : List (S45)) l0_0 l0_1 a3_0 a3_1 a3_2 a3_3 a3_4 a3_5
theorem r3_First.mono_l : ∀ k, (∀ y0 y1 y2 y3 y4 y5 y6 y7 y8 y9 y10, LeO (r3_First.l0 k y0 y1 y2 y3 y4 y5 y6 y7 y8 y9 y10) (r3_First.l0 (k + 1) y0 y1 y2 y3 y4 y5 y6 y7 y8 y9 y10)) ∧ (∀ y0 y1 y2 y3 y4 y5 y6 y7 y8 y9 y10 y11 y12 y13, LeO (r3_First.l1 k y0 y1 y2 y3 y4 y5 y6 y7 y8 y9 y10 y11 y12 y13) (r3_First.l1 (k + 1) y0 y1 y2 y3 y4 y5 y6 y7 y8 y9 y10 y11 y12 y13))
 | 0 => ⟨fun _ _ _ _ _ _ _ _ _ _ _ r h => by simp [r3_First.l0] at h, fun _ _ _ _ _ _ _ _ _ _ _ _ _ _ r h => by simp [r3_First.l1] at h⟩
 | k + 1 => by
  obtain ⟨ih0, ih1⟩ := r3_First.mono_l k; refine ⟨?_, ?_⟩
  ·intro y0 y1 y2 y3 y4 y5 y6 y7 y8 y9 y10
   unfold r3_First.l0
   repeat' (with_reducible first | exact ih0 _ _ _ _ _ _ _ _ _ _ _ | exact ih1 _ _ _ _ _ _ _ _ _ _ _ _ _ _ | exact r3_Cells.mono _ _ _ _ _ _ _ | exact r3_Line.mono _ _ _ _ _ _ _ | exact LeO.refl _ | exact LeO.none _ | refine LeO.ite ?_ ?_ | refine LeO.bind ?_ (fun _ => ?_))
  ·intro y0 y1 y2 y3 y4 y5 y6 y7 y8 y9 y10 y11 y12 y13
   unfold r3_First.l1
   repeat' (with_reducible first | exact ih0 _ _ _ _ _ _ _ _ _ _ _ | exact ih1 _ _ _ _ _ _ _ _ _ _ _ _ _ _ | exact r3_Cells.mono _ _ _ _ _ _ _ | exact r3_Line.mono _ _ _ _ _ _ _ | exact LeO.refl _ | exact LeO.none _ | refine LeO.ite ?_ ?_ | refine LeO.bind ?_ (fun _ => ?_))
theorem r3_First.mono : ∀ a0 a1 a2 a3 a4 a5 a6 a7 a8 a9 k, LeO (r3_First.f k a0 a1 a2 a3 a4 a5 a6 a7 a8 a9) (r3_First.f (k + 1) a0 a1 a2 a3 a4 a5 a6 a7 a8 a9) := by
 intro a0 a1 a2 a3 a4 a5 a6 a7 a8 a9 k
 obtain ⟨ih0, ih1⟩ := r3_First.mono_l k; unfold r3_First.f
 repeat' (with_reducible first | exact ih0 _ _ _ _ _ _ _ _ _ _ _ | exact ih1 _ _ _ _ _ _ _ _ _ _ _ _ _ _ | exact r3_Cells.mono _ _ _ _ _ _ _ | exact r3_Line.mono _ _ _ _ _ _ _ | exact LeO.refl _ | exact LeO.none _ | refine LeO.ite ?_ ?_ | refine LeO.bind ?_ (fun _ => ?_))
def r3_First.T7 : Bool × List (List Nat × List Nat) := (true, [([], []), ([], []), ([], []), ([], []), ([3], [3]), ([0, 1, 2, 4], [0, 1, 2, 4]), ([], []), ([6], [6]), ([5, 7], [5, 7])])
def r3_First.B7 : List Nat := [0, 0, 0, 0, 8, 31, 0, 64, 255]
theorem r3_First.tab7 : rtab .any (opsOf Try.f18 7) = r3_First.T7 := by kernel_rfl
theorem r3_First.bits7 : waitsOk r3_First.T7.2 r3_First.B7 = true := by kernel_rfl
def r3_First.T9 : Bool × List (List Nat × List Nat) := (true, [([], []), ([0], [0]), ([], []), ([1, 2], [1, 2]), ([3], [3]), ([4], [4]), ([5], [5]), ([6], [6]), ([6], [6]), ([6], [6]), ([6], [6]), ([10, 6], [6, 10]), ([6], [6]), ([11, 12, 6], [6, 11, 12]), ([13, 6], [6, 13]), ([6], [6]), ([15, 6], [6, 15]), ([7, 8, 9, 14, 16, 6, 6], [6, 7, 8, 9, 14, 16]), ([6], [6]), ([18, 6], [6, 18]), ([17, 19, 6], [6, 17, 19]), ([6, 20], [6, 20])])
def r3_First.B9 : List Nat := [0, 1, 0, 7, 15, 31, 63, 127, 127, 127, 127, 1151, 127, 7295, 15487, 127, 32895, 131071, 127, 262271, 1048575, 2097151]
theorem r3_First.tab9 : rtab .any (opsOf Try.f18 9) = r3_First.T9 := by kernel_rfl
theorem r3_First.bits9 : waitsOk r3_First.T9.2 r3_First.B9 = true := by kernel_rfl
set_option maxHeartbeats 8000000 in
set_option maxRecDepth 100000 in
theorem r3_First.calls (k : Nat) (A0_0 : Option Addr) (c0_0 : Nat) (l0_0 : List (S61)) (A0_1 : Option Addr) (c0_1 : Nat) (l0_1 : List Int) (a1 : Int) (a2 : Int) (a3_0 : Int) (a3_1 : Int) (a3_2 : Int) (a3_3 : Int) (a3_4 : Int) (a3_5 : Nat) (r : List (S45)) (w : World) (hr0_0 : Kd.C k61 w A0_0 l0_0.length l0_0) (hc0_0 : l0_0.length ≤ c0_0) (hr0_1 : Kd.C (Kd.int .u8) w A0_1 l0_1.length l0_1) (hc0_1 : l0_1.length ≤ c0_1) (h : r3_First.f k l0_0 l0_1 a1 a2 a3_0 a3_1 a3_2 a3_3 a3_4 a3_5 = some r) :
  Calls Try.prog 18 #[.agg #[.slice A0_0 l0_0.length c0_0, .slice A0_1 l0_1.length c0_1], .int .i64 a1, .int .i64 a2, .agg #[.int .i64 a3_0, .int .i64 a3_1, .int .u8 a3_2, .int .i64 a3_3, .int .i64 a3_4, .float .f64 a3_5]] w fun e w' => ∃ v0_ : Value, e = .returned (v0_) ∧ Kd.R k45 45 w' w.heap.size (fun _ => True) v0_ r ∧ Below w.heap.size w w' := by
 have hu31 := Try.underlying31; have hu35 := Try.underlying35; have HR0_0 := zA.mk hr0_0; have HC0_0 := zA.mk hc0_0; clear hr0_0 hc0_0; have HR0_1 := zA.mk hr0_1; have HC0_1 := zA.mk hc0_1; clear hr0_1 hc0_1; have HB := zA.mk (Below.refl w.heap.size w); have H : (r3_First.l0 k a1 a2 ([] : List (S45)) l0_0 l0_1 a3_0 a3_1 a3_2 a3_3 a3_4 a3_5) = some r := h
 clear h; have H' := zA.mk H
 clear H; go_enter Try.func18, Try.ntmps18
 go_wp2_with (first | ((with_reducible refine gate_dst (N := 4) rfl ?_); refine box_event ?hg (N := 4) ?hd (cs := #[.slice A0_0 l0_0.length c0_0, .slice A0_1 l0_1.length c0_1]) (t := 31) ?hr ?_; (case hd => rfl); (case hg => rfl); (case hr => first | (go_simp; done) | (go_simp; rfl)); intro gb252 hg w5 hbox hb; have BK252 := zA.mk (hbox); have GW252 := zA.mk ((by rw [hg]; exact (zE (aL HB)) : w.heap.size ≤ gb252)); replace HB := zA.mk (zH (aL HB) hb); have GE252 := GW252; clear hb hbox hg) | ((with_reducible refine gate_dst (N := 7) rfl ?_); refine box_event ?hg (N := 7) ?hd (cs := #[.int .i64 a3_0, .int .i64 a3_1, .int .u8 a3_2, .int .i64 a3_3, .int .i64 a3_4, .float .f64 a3_5]) (t := 35) ?hr ?_; (case hd => rfl); (case hg => rfl); (case hr => first | (go_simp; done) | (go_simp; rfl)); intro gb253 hg w6 hbox hb; have BK253 := zA.mk (hbox); have GW253 := zA.mk ((by rw [hg]; exact (zE (aL HB)) : w.heap.size ≤ gb253)); replace HB := zA.mk (zH (aL HB) hb); have GE253 := GW253; have NB252_253 := zA.mk ((by rw [hg]; exact Nat.ne_of_lt (blk_lt (aB BK252)) : gb252 ≠ gb253)); have NB253_252 := zA.mk ((by rw [hg]; exact Nat.ne_of_gt (blk_lt (g := gb252) (o := .cells #[.slice A0_0 l0_0.length c0_0, .slice A0_1 l0_1.length c0_1] 31 (0, 0)) (aB BK252)) : gb253 ≠ gb252)); replace BK252 := zA.mk (zB (aB BK252) hb); clear hb hbox hg))
 go_loopg [1, 9] k (fun kq v1 v9 w' => ∃ (x1_1 : Int) (x9_1 : List (S45)), v1 = .int .i64 x1_1 ∧ zA (r3_First.l0 kq x1_1 a2 x9_1 l0_0 l0_1 a3_0 a3_1 a3_2 a3_3 a3_4 a3_5 = some r) ∧ zA (kq ≤ k) ∧ zA (Kd.R k45 45 w' w.heap.size (fun _ => True) v9 x9_1) ∧ zA (w'.heap[gb252]? = some (.cells #[(.slice A0_0 l0_0.length c0_0), (.slice A0_1 l0_1.length c0_1)] 31 (0, 0))) ∧ zA (w'.heap[gb253]? = some (.cells #[.int .i64 a3_0, .int .i64 a3_1, .int .u8 a3_2, .int .i64 a3_3, .int .i64 a3_4, .float .f64 a3_5] 35 (0, 0))) ∧ zA (Below w.heap.size w w'))
 case atStart => exact ⟨(a1), (([] : List (S45))), aZ, H', ⟨Nat.le_refl _⟩, ⟨by first | exact Kd.R_nil _ _ _ _ _ | exact Kd.N_nil _ _ _ _ _ | exact Kd.V_nil _ _ _ _ _ | exact Kd.Q_nil _ _ _ _ _ | exact Kd.S_nil _ _ _ _ _⟩, ⟨aB BK252⟩, ⟨aB BK253⟩, ⟨aL HB⟩⟩
 clear H'; obtain ⟨x1_1, x9_1, rfl, HA, HK1, HO_9, BK252, BK253, HB⟩ := hrel; cases gk with
 | zero => exact absurd HA.out (by simp [r3_First.l0])
 | succ k1 =>
  have H := HA.out; clear HA; simp only [r3_First.l0] at H; by_cases c7 : x1_1 < a2
  rotate_left
  ·rw [if_neg c7] at H
   have c7b0 : decide (x1_1 < a2) = false := decide_eq_false c7
   clear c7; obtain rfl := Option.some.inj H
   go_wp2
   go_ret
   exact ⟨_, aX, aR HO_9, aL HB⟩
  rw [if_pos c7] at H; have c7b0 : decide (x1_1 < a2) = true := decide_eq_true c7
  clear c7; have H' := zA.mk H
  clear H; go_wp2
  go_loopg [10, 11, 12] k1 (fun kq v10 v11 v12 w' => ∃ (x10_2 : Int) (x11_2 : Int) (x12_2 : Int), v10 = .int .i64 x10_2 ∧ v11 = .int .i64 x11_2 ∧ v12 = .int .i64 x12_2 ∧ zA (r3_First.l1 kq x1_1 a2 x9_1 x10_2 x11_2 x12_2 l0_0 l0_1 a3_0 a3_1 a3_2 a3_3 a3_4 a3_5 = some r) ∧ zA (kq ≤ k1) ∧ zA (Kd.R k45 45 w' w.heap.size (fun _ => True) u9 x9_1) ∧ zA (w'.heap[gb252]? = some (.cells #[(.slice A0_0 l0_0.length c0_0), (.slice A0_1 l0_1.length c0_1)] 31 (0, 0))) ∧ zA (w'.heap[gb253]? = some (.cells #[.int .i64 a3_0, .int .i64 a3_1, .int .u8 a3_2, .int .i64 a3_3, .int .i64 a3_4, .float .f64 a3_5] 35 (0, 0))) ∧ zA (Below w.heap.size w w'))
  case atStart => exact ⟨((-1)), ((-1)), (wrap64 (x1_1 + 1)), aZ, aZ, aZ, H', ⟨Nat.le_refl _⟩, ⟨aR HO_9⟩, ⟨aB BK252⟩, ⟨aB BK253⟩, ⟨aL HB⟩⟩
  clear H'; obtain ⟨x10_2, x11_2, x12_2, rfl, rfl, rfl, HA, HK2, HO_9, BK252, BK253, HB⟩ := hrel; cases gk with
  | zero => exact absurd HA.out (by simp [r3_First.l1])
  | succ k2 =>
   have H := HA.out; clear HA; simp only [r3_First.l1] at H; by_cases c8 : x12_2 ≤ a2
   rotate_left
   ·rw [if_neg c8] at H
    have c8b0 : decide (x12_2 ≤ a2) = false := decide_eq_false c8
    clear c8; by_cases c29 : x10_2 ≥ 0
    ·rw [if_pos c29] at H
     have c29b0 : decide (0 ≤ x10_2) = true := decide_eq_true c29
     clear c29; by_cases c30 : 0 ≤ x10_2
     rotate_left
     ·rw [if_neg c30] at H
      exact absurd H (by simp)
     rw [if_pos c30] at H; have c30b0 : decide (0 ≤ x10_2) = true := decide_eq_true c30
     clear c30; by_cases c31 : x10_2 < (l0_1.length : Int)
     rotate_left
     ·rw [if_neg c31] at H
      exact absurd H (by simp)
     rw [if_pos c31] at H; have c31b0 : decide (x10_2 < (l0_1.length : Int)) = true := decide_eq_true c31
     clear c31; replace H := Option.bind_eq_some_iff.mp H; obtain ⟨⟨t259, t260, t261, t262⟩, A320, H⟩ := H; replace H : (if x9_1.length < 4398046511104 then (r3_First.l0 k2 x10_2 a2 (x9_1 ++ [(⟨t259, t260, t261, t262⟩ : S45)]) l0_0 l0_1 a3_0 a3_1 a3_2 a3_3 a3_4 a3_5) else (none)) = some r := H; have A32 := zA.mk A320; clear A320; by_cases c33 : x9_1.length < 4398046511104
     rotate_left
     ·rw [if_neg c33] at H
      exact absurd H (by simp)
     rw [if_pos c33] at H; have LMc33 := zA.mk c33; clear c33; obtain ⟨y263, hy263⟩ : ∃ y_ : List (S45), y_ = (x9_1 ++ [(⟨t259, t260, t261, t262⟩ : S45)]) := ⟨_, rfl⟩; replace H : (r3_First.l0 k2 x10_2 a2 y263 l0_0 l0_1 a3_0 a3_1 a3_2 a3_3 a3_4 a3_5) = some r := by first | (rw [hy263]; with_reducible exact H) | (have H2_ := (Option.bind_some _ _).symm.trans H; rw [hy263]; with_reducible exact H2_) | (have H2_ := (Option.bind_some _ _).symm.trans H; with_reducible exact H2_) | with_reducible exact H | (rw [hy263]; exact H) | exact H
     have Ny263 := zA.mk hy263; clear hy263; have H' := zA.mk H
     clear H; have hnb34 := NB252_253.out; have hnc34 := NB253_252.out; obtain ⟨hcz35_0, hcz35_1, hfz35_0, hfz35_1⟩ := aC2 BK252; have p258 : 0 ≤ (x10_2 : Int) := aD
     have q258 : x10_2 < (l0_1.length : Int) := aD
     obtain ⟨ad258, e258, hx258_0⟩ := Kd.at_int HR0_1.out x10_2 p258 q258; cases e258
     replace hx258_0 := (HB.out.cell (World.block_lt_of_cell? w _ hx258_0)).trans hx258_0; replace p258 := eq_true p258; replace q258 := eq_true q258; obtain ⟨hcz36_0, hcz36_1, hcz36_2, hcz36_3, hcz36_4, hcz36_5, hfz36_0, hfz36_1, hfz36_2, hfz36_3, hfz36_4, hfz36_5⟩ := aC6 BK253; go_wp2_with (first | ((with_reducible refine gate_callee (f := 31) rfl ?_); refine goesL_ (some 95) rfl rfl Try.func31 (by kernel_rfl) rfl #[.agg #[.slice A0_0 l0_0.length c0_0, .slice (some ad258) l0_1.length c0_1], .int .i64 x1_1, .int .i64 x10_2, .int .u8 (rd l0_1 x10_2), .int .i64 a3_1] rfl aT ?_; (with_reducible refine (r3_Line.calls k2 _ _ l0_0 _ _ l0_1 x1_1 x10_2 (rd l0_1 x10_2) a3_1 t259 t260 t261 t262 _ ?side1 ?side2 ?side3 ?side4 A32.out).mono ?_); (case side1 => exact aA HR0_0 HB); (case side2 => exact HC0_0.out); (case side3 => exact aA HR0_1 HB); (case side4 => exact HC0_1.out); rintro e w37 ⟨rfl, hb⟩; refine ⟨_, rfl, ?_⟩; replace HO_9 := zA.mk (Kd.zQ (aR HO_9) hb); replace BK252 := zA.mk (zB (aB BK252) hb); replace BK253 := zA.mk (zB (aB BK253) hb); replace HB := zA.mk (zH (aL HB) hb); (try clear hb); (try clear hb2); (try clear hk); (try clear hi)) | ((with_reducible refine gate_builtin (b := .append) (xs := #[.tmp 88, .tmp 96]) rfl ?_); at_builtin; refine Kd.R_append k45 (w0 := w) w.heap.size rfl (.tmp 88) (.tmp 96) 40 45 (.agg #[(.int .i64 0), (.int .i64 0), (.int .i64 0), (.int .u8 0)]) 32 rfl Try.underlying40 info45 rfl (by decide) (by omega) u9 x9_1 (⟨t259, t260, t261, t262⟩ : S45) [.int .i64 t259, .int .i64 t260, .int .i64 t261, .int .u8 t262] (fun _ => True) (fun _ => False) rfl rfl ?aP (fun _ hk => hk.elim) ?aF ?aO ?aB ?aS ?aL ?_; (case aP => exact k45_mkM _ _ _ (⟨t259, t260, t261, t262⟩ : S45)); (case aB => exact (aL HB)); (case aF => exact (fun _ _ => trivial)); (case aO => exact (aR HO_9)); (case aS => exact (zE (aL HB))); (case aL => have := LMc33.out; omega); intro v264 w38 ho hb hg hat; rw [← Ny263.out] at ho; replace BK252 := zA.mk (blk_grown (g := gb252) (o := .cells #[.slice A0_0 l0_0.length c0_0, .slice (some ad258) l0_1.length c0_1] 31 (0, 0)) (aB BK252) hg (Kd.R_ne HO_9.out BK252.out (by decide))); replace BK253 := zA.mk (blk_grown (g := gb253) (o := .cells #[.int .i64 a3_0, .int .i64 a3_1, .int .u8 a3_2, .int .i64 a3_3, .int .i64 a3_4, .float .f64 a3_5] 35 (0, 0)) (aB BK253) hg (Kd.R_ne HO_9.out BK253.out (by decide))); replace HB := zA.mk (hb); have HO265 := zA.mk (ho); clear HO_9; clear ho hb hg hat))
     go_roundg k2
     case measure => have := HK1.out; have := HK2.out; omega
     case rel => exact ⟨(x10_2), (y263), aZ, H', ⟨by have := HK1.out; have := HK2.out; omega⟩, ⟨aR HO265⟩, ⟨aB BK252⟩, ⟨aB BK253⟩, ⟨aL HB⟩⟩
    rw [if_neg c29] at H; have c29b0 : decide (0 ≤ x10_2) = false := decide_eq_false c29
    clear c29; by_cases c39 : x11_2 < 0
    rotate_left
    ·rw [if_neg c39] at H
     have c39b0 : decide (x11_2 < 0) = false := decide_eq_false c39
     clear c39; by_cases c66 : 0 ≤ x11_2
     rotate_left
     ·rw [if_neg c66] at H
      exact absurd H (by simp)
     rw [if_pos c66] at H; have c66b0 : decide (0 ≤ x11_2) = true := decide_eq_true c66
     clear c66; by_cases c67 : x11_2 < (l0_1.length : Int)
     rotate_left
     ·rw [if_neg c67] at H
      exact absurd H (by simp)
     rw [if_pos c67] at H; have c67b0 : decide (x11_2 < (l0_1.length : Int)) = true := decide_eq_true c67
     clear c67; by_cases c68 : (rd l0_1 x11_2) = 2
     ·rw [if_pos c68] at H
      have c68b0 : ((rd l0_1 x11_2) == 2) = true := beq_iff_eq.mpr c68
      have c68b1 : ((rd l0_1 x11_2) != 2) = false := bne_eq_false_iff_eq.mpr c68
      clear c68; replace H := Option.bind_eq_some_iff.mp H; obtain ⟨⟨t293, t294, t295, t296⟩, A690, H⟩ := H; replace H : (if x9_1.length < 4398046511104 then (r3_First.l0 k2 x11_2 a2 (x9_1 ++ [(⟨t293, t294, t295, t296⟩ : S45)]) l0_0 l0_1 a3_0 a3_1 a3_2 a3_3 a3_4 a3_5) else (none)) = some r := H; have A69 := zA.mk A690; clear A690; by_cases c70 : x9_1.length < 4398046511104
      rotate_left
      ·rw [if_neg c70] at H
       exact absurd H (by simp)
      rw [if_pos c70] at H; have LMc70 := zA.mk c70; clear c70; obtain ⟨y297, hy297⟩ : ∃ y_ : List (S45), y_ = (x9_1 ++ [(⟨t293, t294, t295, t296⟩ : S45)]) := ⟨_, rfl⟩; replace H : (r3_First.l0 k2 x11_2 a2 y297 l0_0 l0_1 a3_0 a3_1 a3_2 a3_3 a3_4 a3_5) = some r := by first | (rw [hy297]; with_reducible exact H) | (have H2_ := (Option.bind_some _ _).symm.trans H; rw [hy297]; with_reducible exact H2_) | (have H2_ := (Option.bind_some _ _).symm.trans H; with_reducible exact H2_) | with_reducible exact H | (rw [hy297]; exact H) | exact H
      have Ny297 := zA.mk hy297; clear hy297; have H' := zA.mk H
      clear H; have hnb71 := NB252_253.out; have hnc71 := NB253_252.out; obtain ⟨hcz72_0, hcz72_1, hfz72_0, hfz72_1⟩ := aC2 BK252; have p291 : 0 ≤ (x11_2 : Int) := aD
      have q291 : x11_2 < (l0_1.length : Int) := aD
      obtain ⟨ad291, e291, hx291_0⟩ := Kd.at_int HR0_1.out x11_2 p291 q291; cases e291
      replace hx291_0 := (HB.out.cell (World.block_lt_of_cell? w _ hx291_0)).trans hx291_0; replace p291 := eq_true p291; replace q291 := eq_true q291; have p292 : 0 ≤ (x11_2 : Int) := aD
      have q292 : x11_2 < (l0_1.length : Int) := aD
      obtain ⟨ad292, e292, hx292_0⟩ := Kd.at_int HR0_1.out x11_2 p292 q292; obtain rfl : ad291 = ad292 := (by injection e292)
      replace hx292_0 := (HB.out.cell (World.block_lt_of_cell? w _ hx292_0)).trans hx292_0; replace p292 := eq_true p292; replace q292 := eq_true q292; obtain ⟨hcz73_0, hcz73_1, hcz73_2, hcz73_3, hcz73_4, hcz73_5, hfz73_0, hfz73_1, hfz73_2, hfz73_3, hfz73_4, hfz73_5⟩ := aC6 BK253; go_wp2_with (first | ((with_reducible refine gate_callee (f := 31) rfl ?_); refine goesL_ (some 95) rfl rfl Try.func31 (by kernel_rfl) rfl #[.agg #[.slice A0_0 l0_0.length c0_0, .slice (some ad291) l0_1.length c0_1], .int .i64 x1_1, .int .i64 x11_2, .int .u8 (rd l0_1 x11_2), .int .i64 a3_1] rfl aT ?_; (with_reducible refine (r3_Line.calls k2 _ _ l0_0 _ _ l0_1 x1_1 x11_2 (rd l0_1 x11_2) a3_1 t293 t294 t295 t296 _ ?side1 ?side2 ?side3 ?side4 A69.out).mono ?_); (case side1 => exact aA HR0_0 HB); (case side2 => exact HC0_0.out); (case side3 => exact aA HR0_1 HB); (case side4 => exact HC0_1.out); rintro e w74 ⟨rfl, hb⟩; refine ⟨_, rfl, ?_⟩; replace HO_9 := zA.mk (Kd.zQ (aR HO_9) hb); replace BK252 := zA.mk (zB (aB BK252) hb); replace BK253 := zA.mk (zB (aB BK253) hb); replace HB := zA.mk (zH (aL HB) hb); (try clear hb); (try clear hb2); (try clear hk); (try clear hi)) | ((with_reducible refine gate_builtin (b := .append) (xs := #[.tmp 88, .tmp 96]) rfl ?_); at_builtin; refine Kd.R_append k45 (w0 := w) w.heap.size rfl (.tmp 88) (.tmp 96) 40 45 (.agg #[(.int .i64 0), (.int .i64 0), (.int .i64 0), (.int .u8 0)]) 32 rfl Try.underlying40 info45 rfl (by decide) (by omega) u9 x9_1 (⟨t293, t294, t295, t296⟩ : S45) [.int .i64 t293, .int .i64 t294, .int .i64 t295, .int .u8 t296] (fun _ => True) (fun _ => False) rfl rfl ?aP (fun _ hk => hk.elim) ?aF ?aO ?aB ?aS ?aL ?_; (case aP => exact k45_mkM _ _ _ (⟨t293, t294, t295, t296⟩ : S45)); (case aB => exact (aL HB)); (case aF => exact (fun _ _ => trivial)); (case aO => exact (aR HO_9)); (case aS => exact (zE (aL HB))); (case aL => have := LMc70.out; omega); intro v298 w75 ho hb hg hat; rw [← Ny297.out] at ho; replace BK252 := zA.mk (blk_grown (g := gb252) (o := .cells #[.slice A0_0 l0_0.length c0_0, .slice (some ad291) l0_1.length c0_1] 31 (0, 0)) (aB BK252) hg (Kd.R_ne HO_9.out BK252.out (by decide))); replace BK253 := zA.mk (blk_grown (g := gb253) (o := .cells #[.int .i64 a3_0, .int .i64 a3_1, .int .u8 a3_2, .int .i64 a3_3, .int .i64 a3_4, .float .f64 a3_5] 35 (0, 0)) (aB BK253) hg (Kd.R_ne HO_9.out BK253.out (by decide))); replace HB := zA.mk (hb); have HO299 := zA.mk (ho); clear HO_9; clear ho hb hg hat))
      go_roundg k2
      case measure => have := HK1.out; have := HK2.out; omega
      case rel => exact ⟨(x11_2), (y297), aZ, H', ⟨by have := HK1.out; have := HK2.out; omega⟩, ⟨aR HO299⟩, ⟨aB BK252⟩, ⟨aB BK253⟩, ⟨aL HB⟩⟩
     rw [if_neg c68] at H; have c68b0 : ((rd l0_1 x11_2) == 2) = false := beq_eq_false_iff_ne.mpr c68
     have c68b1 : ((rd l0_1 x11_2) != 2) = true := bne_iff_ne.mpr c68
     by_cases c76 : (rd l0_1 x11_2) = 1
     rotate_left
     ·rw [if_neg c76] at H
      have c76b0 : ((rd l0_1 x11_2) == 1) = false := beq_eq_false_iff_ne.mpr c76
      have c76b1 : ((rd l0_1 x11_2) != 1) = true := bne_iff_ne.mpr c76
      replace H := Option.bind_eq_some_iff.mp H; obtain ⟨⟨t309, t310, t311, t312⟩, A840, H⟩ := H; replace H : (if x9_1.length < 4398046511104 then (r3_First.l0 k2 x11_2 a2 (x9_1 ++ [(⟨t309, t310, t311, t312⟩ : S45)]) l0_0 l0_1 a3_0 a3_1 a3_2 a3_3 a3_4 a3_5) else (none)) = some r := H; have A84 := zA.mk A840; clear A840; by_cases c85 : x9_1.length < 4398046511104
      rotate_left
      ·rw [if_neg c85] at H
       exact absurd H (by simp)
      rw [if_pos c85] at H; have LMc85 := zA.mk c85; clear c85; obtain ⟨y313, hy313⟩ : ∃ y_ : List (S45), y_ = (x9_1 ++ [(⟨t309, t310, t311, t312⟩ : S45)]) := ⟨_, rfl⟩; replace H : (r3_First.l0 k2 x11_2 a2 y313 l0_0 l0_1 a3_0 a3_1 a3_2 a3_3 a3_4 a3_5) = some r := by first | (rw [hy313]; with_reducible exact H) | (have H2_ := (Option.bind_some _ _).symm.trans H; rw [hy313]; with_reducible exact H2_) | (have H2_ := (Option.bind_some _ _).symm.trans H; with_reducible exact H2_) | with_reducible exact H | (rw [hy313]; exact H) | exact H
      have Ny313 := zA.mk hy313; clear hy313; have H' := zA.mk H
      clear H; have hnb86 := NB252_253.out; have hnc86 := NB253_252.out; obtain ⟨hcz87_0, hcz87_1, hfz87_0, hfz87_1⟩ := aC2 BK252; have p291 : 0 ≤ (x11_2 : Int) := aD
      have q291 : x11_2 < (l0_1.length : Int) := aD
      obtain ⟨ad291, e291, hx291_0⟩ := Kd.at_int HR0_1.out x11_2 p291 q291; cases e291
      replace hx291_0 := (HB.out.cell (World.block_lt_of_cell? w _ hx291_0)).trans hx291_0; replace p291 := eq_true p291; replace q291 := eq_true q291; have p300 : 0 ≤ (x11_2 : Int) := aD
      have q300 : x11_2 < (l0_1.length : Int) := aD
      obtain ⟨ad300, e300, hx300_0⟩ := Kd.at_int HR0_1.out x11_2 p300 q300; obtain rfl : ad291 = ad300 := (by injection e300)
      replace hx300_0 := (HB.out.cell (World.block_lt_of_cell? w _ hx300_0)).trans hx300_0; replace p300 := eq_true p300; replace q300 := eq_true q300; obtain ⟨hcz88_0, hcz88_1, hcz88_2, hcz88_3, hcz88_4, hcz88_5, hfz88_0, hfz88_1, hfz88_2, hfz88_3, hfz88_4, hfz88_5⟩ := aC6 BK253; go_wp2_with (first | ((with_reducible refine gate_callee (f := 31) rfl ?_); refine goesL_ (some 95) rfl rfl Try.func31 (by kernel_rfl) rfl #[.agg #[.slice A0_0 l0_0.length c0_0, .slice (some ad291) l0_1.length c0_1], .int .i64 x1_1, .int .i64 x11_2, .int .u8 4, .int .i64 a3_1] rfl aT ?_; (with_reducible refine (r3_Line.calls k2 _ _ l0_0 _ _ l0_1 x1_1 x11_2 4 a3_1 t309 t310 t311 t312 _ ?side1 ?side2 ?side3 ?side4 A84.out).mono ?_); (case side1 => exact aA HR0_0 HB); (case side2 => exact HC0_0.out); (case side3 => exact aA HR0_1 HB); (case side4 => exact HC0_1.out); rintro e w89 ⟨rfl, hb⟩; refine ⟨_, rfl, ?_⟩; replace HO_9 := zA.mk (Kd.zQ (aR HO_9) hb); replace BK252 := zA.mk (zB (aB BK252) hb); replace BK253 := zA.mk (zB (aB BK253) hb); replace HB := zA.mk (zH (aL HB) hb); (try clear hb); (try clear hb2); (try clear hk); (try clear hi)) | ((with_reducible refine gate_builtin (b := .append) (xs := #[.tmp 88, .tmp 96]) rfl ?_); at_builtin; refine Kd.R_append k45 (w0 := w) w.heap.size rfl (.tmp 88) (.tmp 96) 40 45 (.agg #[(.int .i64 0), (.int .i64 0), (.int .i64 0), (.int .u8 0)]) 32 rfl Try.underlying40 info45 rfl (by decide) (by omega) u9 x9_1 (⟨t309, t310, t311, t312⟩ : S45) [.int .i64 t309, .int .i64 t310, .int .i64 t311, .int .u8 t312] (fun _ => True) (fun _ => False) rfl rfl ?aP (fun _ hk => hk.elim) ?aF ?aO ?aB ?aS ?aL ?_; (case aP => exact k45_mkM _ _ _ (⟨t309, t310, t311, t312⟩ : S45)); (case aB => exact (aL HB)); (case aF => exact (fun _ _ => trivial)); (case aO => exact (aR HO_9)); (case aS => exact (zE (aL HB))); (case aL => have := LMc85.out; omega); intro v314 w90 ho hb hg hat; rw [← Ny313.out] at ho; replace BK252 := zA.mk (blk_grown (g := gb252) (o := .cells #[.slice A0_0 l0_0.length c0_0, .slice (some ad291) l0_1.length c0_1] 31 (0, 0)) (aB BK252) hg (Kd.R_ne HO_9.out BK252.out (by decide))); replace BK253 := zA.mk (blk_grown (g := gb253) (o := .cells #[.int .i64 a3_0, .int .i64 a3_1, .int .u8 a3_2, .int .i64 a3_3, .int .i64 a3_4, .float .f64 a3_5] 35 (0, 0)) (aB BK253) hg (Kd.R_ne HO_9.out BK253.out (by decide))); replace HB := zA.mk (hb); have HO315 := zA.mk (ho); clear HO_9; clear ho hb hg hat))
      go_roundg k2
      case measure => have := HK1.out; have := HK2.out; omega
      case rel => exact ⟨(x11_2), (y313), aZ, H', ⟨by have := HK1.out; have := HK2.out; omega⟩, ⟨aR HO315⟩, ⟨aB BK252⟩, ⟨aB BK253⟩, ⟨aL HB⟩⟩
     rw [if_pos c76] at H; have c76b0 : ((rd l0_1 x11_2) == 1) = true := beq_iff_eq.mpr c76
     have c76b1 : ((rd l0_1 x11_2) != 1) = false := bne_eq_false_iff_eq.mpr c76
     clear c76; replace H := Option.bind_eq_some_iff.mp H; obtain ⟨⟨t302, t303, t304, t305⟩, A770, H⟩ := H; replace H : (if x9_1.length < 4398046511104 then (r3_First.l0 k2 x11_2 a2 (x9_1 ++ [(⟨t302, t303, t304, t305⟩ : S45)]) l0_0 l0_1 a3_0 a3_1 a3_2 a3_3 a3_4 a3_5) else (none)) = some r := H; have A77 := zA.mk A770; clear A770; by_cases c78 : x9_1.length < 4398046511104
     rotate_left
     ·rw [if_neg c78] at H
      exact absurd H (by simp)
     rw [if_pos c78] at H; have LMc78 := zA.mk c78; clear c78; obtain ⟨y306, hy306⟩ : ∃ y_ : List (S45), y_ = (x9_1 ++ [(⟨t302, t303, t304, t305⟩ : S45)]) := ⟨_, rfl⟩; replace H : (r3_First.l0 k2 x11_2 a2 y306 l0_0 l0_1 a3_0 a3_1 a3_2 a3_3 a3_4 a3_5) = some r := by first | (rw [hy306]; with_reducible exact H) | (have H2_ := (Option.bind_some _ _).symm.trans H; rw [hy306]; with_reducible exact H2_) | (have H2_ := (Option.bind_some _ _).symm.trans H; with_reducible exact H2_) | with_reducible exact H | (rw [hy306]; exact H) | exact H
     have Ny306 := zA.mk hy306; clear hy306; have H' := zA.mk H
     clear H; have hnb79 := NB252_253.out; have hnc79 := NB253_252.out; obtain ⟨hcz80_0, hcz80_1, hfz80_0, hfz80_1⟩ := aC2 BK252; have p291 : 0 ≤ (x11_2 : Int) := aD
     have q291 : x11_2 < (l0_1.length : Int) := aD
     obtain ⟨ad291, e291, hx291_0⟩ := Kd.at_int HR0_1.out x11_2 p291 q291; cases e291
     replace hx291_0 := (HB.out.cell (World.block_lt_of_cell? w _ hx291_0)).trans hx291_0; replace p291 := eq_true p291; replace q291 := eq_true q291; have p300 : 0 ≤ (x11_2 : Int) := aD
     have q300 : x11_2 < (l0_1.length : Int) := aD
     obtain ⟨ad300, e300, hx300_0⟩ := Kd.at_int HR0_1.out x11_2 p300 q300; obtain rfl : ad291 = ad300 := (by injection e300)
     replace hx300_0 := (HB.out.cell (World.block_lt_of_cell? w _ hx300_0)).trans hx300_0; replace p300 := eq_true p300; replace q300 := eq_true q300; have p301 : 0 ≤ (x11_2 : Int) := aD
     have q301 : x11_2 < (l0_1.length : Int) := aD
     obtain ⟨ad301, e301, hx301_0⟩ := Kd.at_int HR0_1.out x11_2 p301 q301; obtain rfl : ad291 = ad301 := (by injection e301)
     replace hx301_0 := (HB.out.cell (World.block_lt_of_cell? w _ hx301_0)).trans hx301_0; replace p301 := eq_true p301; replace q301 := eq_true q301; obtain ⟨hcz81_0, hcz81_1, hcz81_2, hcz81_3, hcz81_4, hcz81_5, hfz81_0, hfz81_1, hfz81_2, hfz81_3, hfz81_4, hfz81_5⟩ := aC6 BK253; go_wp2_with (first | ((with_reducible refine gate_callee (f := 31) rfl ?_); refine goesL_ (some 95) rfl rfl Try.func31 (by kernel_rfl) rfl #[.agg #[.slice A0_0 l0_0.length c0_0, .slice (some ad291) l0_1.length c0_1], .int .i64 x1_1, .int .i64 x11_2, .int .u8 (rd l0_1 x11_2), .int .i64 a3_1] rfl aT ?_; (with_reducible refine (r3_Line.calls k2 _ _ l0_0 _ _ l0_1 x1_1 x11_2 (rd l0_1 x11_2) a3_1 t302 t303 t304 t305 _ ?side1 ?side2 ?side3 ?side4 A77.out).mono ?_); (case side1 => exact aA HR0_0 HB); (case side2 => exact HC0_0.out); (case side3 => exact aA HR0_1 HB); (case side4 => exact HC0_1.out); rintro e w82 ⟨rfl, hb⟩; refine ⟨_, rfl, ?_⟩; replace HO_9 := zA.mk (Kd.zQ (aR HO_9) hb); replace BK252 := zA.mk (zB (aB BK252) hb); replace BK253 := zA.mk (zB (aB BK253) hb); replace HB := zA.mk (zH (aL HB) hb); (try clear hb); (try clear hb2); (try clear hk); (try clear hi)) | ((with_reducible refine gate_builtin (b := .append) (xs := #[.tmp 88, .tmp 96]) rfl ?_); at_builtin; refine Kd.R_append k45 (w0 := w) w.heap.size rfl (.tmp 88) (.tmp 96) 40 45 (.agg #[(.int .i64 0), (.int .i64 0), (.int .i64 0), (.int .u8 0)]) 32 rfl Try.underlying40 info45 rfl (by decide) (by omega) u9 x9_1 (⟨t302, t303, t304, t305⟩ : S45) [.int .i64 t302, .int .i64 t303, .int .i64 t304, .int .u8 t305] (fun _ => True) (fun _ => False) rfl rfl ?aP (fun _ hk => hk.elim) ?aF ?aO ?aB ?aS ?aL ?_; (case aP => exact k45_mkM _ _ _ (⟨t302, t303, t304, t305⟩ : S45)); (case aB => exact (aL HB)); (case aF => exact (fun _ _ => trivial)); (case aO => exact (aR HO_9)); (case aS => exact (zE (aL HB))); (case aL => have := LMc78.out; omega); intro v307 w83 ho hb hg hat; rw [← Ny306.out] at ho; replace BK252 := zA.mk (blk_grown (g := gb252) (o := .cells #[.slice A0_0 l0_0.length c0_0, .slice (some ad291) l0_1.length c0_1] 31 (0, 0)) (aB BK252) hg (Kd.R_ne HO_9.out BK252.out (by decide))); replace BK253 := zA.mk (blk_grown (g := gb253) (o := .cells #[.int .i64 a3_0, .int .i64 a3_1, .int .u8 a3_2, .int .i64 a3_3, .int .i64 a3_4, .float .f64 a3_5] 35 (0, 0)) (aB BK253) hg (Kd.R_ne HO_9.out BK253.out (by decide))); replace HB := zA.mk (hb); have HO308 := zA.mk (ho); clear HO_9; clear ho hb hg hat))
     go_roundg k2
     case measure => have := HK1.out; have := HK2.out; omega
     case rel => exact ⟨(x11_2), (y306), aZ, H', ⟨by have := HK1.out; have := HK2.out; omega⟩, ⟨aR HO308⟩, ⟨aB BK252⟩, ⟨aB BK253⟩, ⟨aL HB⟩⟩
    rw [if_pos c39] at H; have c39b0 : decide (x11_2 < 0) = true := decide_eq_true c39
    clear c39; obtain ⟨ji40, hji40⟩ : ∃ j_ : Int, (wrap64 (x1_1 + 1)) = j_ := ⟨_, rfl⟩; replace H : (if 0 ≤ (ji40) then (if (ji40) < (l0_1.length : Int) then (if (rd l0_1 (ji40)) = 2 then ((r3_Line.f k2 l0_0 l0_1 x1_1 (ji40) (rd l0_1 (ji40)) a3_1).bind fun bt268 => (if x9_1.length < 4398046511104 then (r3_First.l0 k2 ji40 a2 (x9_1 ++ [(⟨bt268.1, bt268.2.1, bt268.2.2.1, bt268.2.2.2⟩ : S45)]) l0_0 l0_1 a3_0 a3_1 a3_2 a3_3 a3_4 a3_5) else (none))) else (if (rd l0_1 (ji40)) = 1 then ((r3_Line.f k2 l0_0 l0_1 x1_1 (ji40) (rd l0_1 (ji40)) a3_1).bind fun bt277 => (if x9_1.length < 4398046511104 then (r3_First.l0 k2 ji40 a2 (x9_1 ++ [(⟨bt277.1, bt277.2.1, bt277.2.2.1, bt277.2.2.2⟩ : S45)]) l0_0 l0_1 a3_0 a3_1 a3_2 a3_3 a3_4 a3_5) else (none))) else ((r3_Line.f k2 l0_0 l0_1 x1_1 (ji40) 4 a3_1).bind fun bt284 => (if x9_1.length < 4398046511104 then (r3_First.l0 k2 ji40 a2 (x9_1 ++ [(⟨bt284.1, bt284.2.1, bt284.2.2.1, bt284.2.2.2⟩ : S45)]) l0_0 l0_1 a3_0 a3_1 a3_2 a3_3 a3_4 a3_5) else (none))))) else (none)) else (none)) = some r := by first | (rw [hji40] at H; exact H) | (simp only [hji40] at H ⊢; exact H)
    have hji40w : (IntKind.i64.wrap (x1_1 + 1)) = ji40 := (i64_w _).trans hji40
    by_cases c41 : 0 ≤ (ji40)
    rotate_left
    ·rw [if_neg c41] at H
     exact absurd H (by simp)
    rw [if_pos c41] at H; have c41b0 : decide (0 ≤ (ji40)) = true := decide_eq_true c41
    clear c41; by_cases c42 : (ji40) < (l0_1.length : Int)
    rotate_left
    ·rw [if_neg c42] at H
     exact absurd H (by simp)
    rw [if_pos c42] at H; have c42b0 : decide ((ji40) < (l0_1.length : Int)) = true := decide_eq_true c42
    clear c42; by_cases c43 : (rd l0_1 (ji40)) = 2
    ·rw [if_pos c43] at H
     have c43b0 : ((rd l0_1 (ji40)) == 2) = true := beq_iff_eq.mpr c43
     have c43b1 : ((rd l0_1 (ji40)) != 2) = false := bne_eq_false_iff_eq.mpr c43
     clear c43; replace H := Option.bind_eq_some_iff.mp H; obtain ⟨⟨t268, t269, t270, t271⟩, A440, H⟩ := H; replace H : (if x9_1.length < 4398046511104 then (r3_First.l0 k2 ji40 a2 (x9_1 ++ [(⟨t268, t269, t270, t271⟩ : S45)]) l0_0 l0_1 a3_0 a3_1 a3_2 a3_3 a3_4 a3_5) else (none)) = some r := H; have A44 := zA.mk A440; clear A440; by_cases c45 : x9_1.length < 4398046511104
     rotate_left
     ·rw [if_neg c45] at H
      exact absurd H (by simp)
     rw [if_pos c45] at H; have LMc45 := zA.mk c45; clear c45; obtain ⟨y272, hy272⟩ : ∃ y_ : List (S45), y_ = (x9_1 ++ [(⟨t268, t269, t270, t271⟩ : S45)]) := ⟨_, rfl⟩; replace H : (r3_First.l0 k2 ji40 a2 y272 l0_0 l0_1 a3_0 a3_1 a3_2 a3_3 a3_4 a3_5) = some r := by first | (rw [hy272]; with_reducible exact H) | (have H2_ := (Option.bind_some _ _).symm.trans H; rw [hy272]; with_reducible exact H2_) | (have H2_ := (Option.bind_some _ _).symm.trans H; with_reducible exact H2_) | with_reducible exact H | (rw [hy272]; exact H) | exact H
     have Ny272 := zA.mk hy272; clear hy272; have H' := zA.mk H
     clear H; have hnb46 := NB252_253.out; have hnc46 := NB253_252.out; obtain ⟨hcz47_0, hcz47_1, hfz47_0, hfz47_1⟩ := aC2 BK252; have p266 : 0 ≤ ((ji40) : Int) := aD
     have q266 : (ji40) < (l0_1.length : Int) := aD
     obtain ⟨ad266, e266, hx266_0⟩ := Kd.at_int HR0_1.out (ji40) p266 q266; cases e266
     replace hx266_0 := (HB.out.cell (World.block_lt_of_cell? w _ hx266_0)).trans hx266_0; replace p266 := eq_true p266; replace q266 := eq_true q266; have p267 : 0 ≤ ((ji40) : Int) := aD
     have q267 : (ji40) < (l0_1.length : Int) := aD
     obtain ⟨ad267, e267, hx267_0⟩ := Kd.at_int HR0_1.out (ji40) p267 q267; obtain rfl : ad266 = ad267 := (by injection e267)
     replace hx267_0 := (HB.out.cell (World.block_lt_of_cell? w _ hx267_0)).trans hx267_0; replace p267 := eq_true p267; replace q267 := eq_true q267; obtain ⟨hcz48_0, hcz48_1, hcz48_2, hcz48_3, hcz48_4, hcz48_5, hfz48_0, hfz48_1, hfz48_2, hfz48_3, hfz48_4, hfz48_5⟩ := aC6 BK253; go_wp2_with (first | ((with_reducible refine gate_callee (f := 31) rfl ?_); refine goesL_ (some 95) rfl rfl Try.func31 (by kernel_rfl) rfl #[.agg #[.slice A0_0 l0_0.length c0_0, .slice (some ad266) l0_1.length c0_1], .int .i64 x1_1, .int .i64 ji40, .int .u8 (rd l0_1 (ji40)), .int .i64 a3_1] rfl (by (try simp only [List.map_toArray, List.map_cons, List.map_nil]); first | done | (simp only [hji40]; rfl) | rfl | (simp only [List.length_drop, List.length_take]; rfl)) ?_; (with_reducible refine (r3_Line.calls k2 _ _ l0_0 _ _ l0_1 x1_1 ji40 (rd l0_1 (ji40)) a3_1 t268 t269 t270 t271 _ ?side1 ?side2 ?side3 ?side4 A44.out).mono ?_); (case side1 => exact aA HR0_0 HB); (case side2 => exact HC0_0.out); (case side3 => exact aA HR0_1 HB); (case side4 => exact HC0_1.out); rintro e w49 ⟨rfl, hb⟩; refine ⟨_, rfl, ?_⟩; replace HO_9 := zA.mk (Kd.zQ (aR HO_9) hb); replace BK252 := zA.mk (zB (aB BK252) hb); replace BK253 := zA.mk (zB (aB BK253) hb); replace HB := zA.mk (zH (aL HB) hb); (try clear hb); (try clear hb2); (try clear hk); (try clear hi)) | ((with_reducible refine gate_builtin (b := .append) (xs := #[.tmp 88, .tmp 96]) rfl ?_); at_builtin; refine Kd.R_append k45 (w0 := w) w.heap.size rfl (.tmp 88) (.tmp 96) 40 45 (.agg #[(.int .i64 0), (.int .i64 0), (.int .i64 0), (.int .u8 0)]) 32 rfl Try.underlying40 info45 rfl (by decide) (by omega) u9 x9_1 (⟨t268, t269, t270, t271⟩ : S45) [.int .i64 t268, .int .i64 t269, .int .i64 t270, .int .u8 t271] (fun _ => True) (fun _ => False) rfl rfl ?aP (fun _ hk => hk.elim) ?aF ?aO ?aB ?aS ?aL ?_; (case aP => exact k45_mkM _ _ _ (⟨t268, t269, t270, t271⟩ : S45)); (case aB => exact (aL HB)); (case aF => exact (fun _ _ => trivial)); (case aO => exact (aR HO_9)); (case aS => exact (zE (aL HB))); (case aL => have := LMc45.out; omega); intro v273 w50 ho hb hg hat; rw [← Ny272.out] at ho; replace BK252 := zA.mk (blk_grown (g := gb252) (o := .cells #[.slice A0_0 l0_0.length c0_0, .slice (some ad266) l0_1.length c0_1] 31 (0, 0)) (aB BK252) hg (Kd.R_ne HO_9.out BK252.out (by decide))); replace BK253 := zA.mk (blk_grown (g := gb253) (o := .cells #[.int .i64 a3_0, .int .i64 a3_1, .int .u8 a3_2, .int .i64 a3_3, .int .i64 a3_4, .float .f64 a3_5] 35 (0, 0)) (aB BK253) hg (Kd.R_ne HO_9.out BK253.out (by decide))); replace HB := zA.mk (hb); have HO274 := zA.mk (ho); clear HO_9; clear ho hb hg hat))
     go_roundg k2
     case measure => have := HK1.out; have := HK2.out; omega
     case rel => exact ⟨(ji40), (y272), (by first | rfl | (simp; done) | (simp only [← hji40] <;> (first | rfl | simp)) | (simp [*]; done)), H', ⟨by have := HK1.out; have := HK2.out; omega⟩, ⟨aR HO274⟩, ⟨aB BK252⟩, ⟨aB BK253⟩, ⟨aL HB⟩⟩
    rw [if_neg c43] at H; have c43b0 : ((rd l0_1 (ji40)) == 2) = false := beq_eq_false_iff_ne.mpr c43
    have c43b1 : ((rd l0_1 (ji40)) != 2) = true := bne_iff_ne.mpr c43
    by_cases c51 : (rd l0_1 (ji40)) = 1
    rotate_left
    ·rw [if_neg c51] at H
     have c51b0 : ((rd l0_1 (ji40)) == 1) = false := beq_eq_false_iff_ne.mpr c51
     have c51b1 : ((rd l0_1 (ji40)) != 1) = true := bne_iff_ne.mpr c51
     replace H := Option.bind_eq_some_iff.mp H; obtain ⟨⟨t284, t285, t286, t287⟩, A590, H⟩ := H; replace H : (if x9_1.length < 4398046511104 then (r3_First.l0 k2 ji40 a2 (x9_1 ++ [(⟨t284, t285, t286, t287⟩ : S45)]) l0_0 l0_1 a3_0 a3_1 a3_2 a3_3 a3_4 a3_5) else (none)) = some r := H; have A59 := zA.mk A590; clear A590; by_cases c60 : x9_1.length < 4398046511104
     rotate_left
     ·rw [if_neg c60] at H
      exact absurd H (by simp)
     rw [if_pos c60] at H; have LMc60 := zA.mk c60; clear c60; obtain ⟨y288, hy288⟩ : ∃ y_ : List (S45), y_ = (x9_1 ++ [(⟨t284, t285, t286, t287⟩ : S45)]) := ⟨_, rfl⟩; replace H : (r3_First.l0 k2 ji40 a2 y288 l0_0 l0_1 a3_0 a3_1 a3_2 a3_3 a3_4 a3_5) = some r := by first | (rw [hy288]; with_reducible exact H) | (have H2_ := (Option.bind_some _ _).symm.trans H; rw [hy288]; with_reducible exact H2_) | (have H2_ := (Option.bind_some _ _).symm.trans H; with_reducible exact H2_) | with_reducible exact H | (rw [hy288]; exact H) | exact H
     have Ny288 := zA.mk hy288; clear hy288; have H' := zA.mk H
     clear H; have hnb61 := NB252_253.out; have hnc61 := NB253_252.out; obtain ⟨hcz62_0, hcz62_1, hfz62_0, hfz62_1⟩ := aC2 BK252; have p266 : 0 ≤ ((ji40) : Int) := aD
     have q266 : (ji40) < (l0_1.length : Int) := aD
     obtain ⟨ad266, e266, hx266_0⟩ := Kd.at_int HR0_1.out (ji40) p266 q266; cases e266
     replace hx266_0 := (HB.out.cell (World.block_lt_of_cell? w _ hx266_0)).trans hx266_0; replace p266 := eq_true p266; replace q266 := eq_true q266; have p275 : 0 ≤ ((ji40) : Int) := aD
     have q275 : (ji40) < (l0_1.length : Int) := aD
     obtain ⟨ad275, e275, hx275_0⟩ := Kd.at_int HR0_1.out (ji40) p275 q275; obtain rfl : ad266 = ad275 := (by injection e275)
     replace hx275_0 := (HB.out.cell (World.block_lt_of_cell? w _ hx275_0)).trans hx275_0; replace p275 := eq_true p275; replace q275 := eq_true q275; obtain ⟨hcz63_0, hcz63_1, hcz63_2, hcz63_3, hcz63_4, hcz63_5, hfz63_0, hfz63_1, hfz63_2, hfz63_3, hfz63_4, hfz63_5⟩ := aC6 BK253; go_wp2_with (first | ((with_reducible refine gate_callee (f := 31) rfl ?_); refine goesL_ (some 95) rfl rfl Try.func31 (by kernel_rfl) rfl #[.agg #[.slice A0_0 l0_0.length c0_0, .slice (some ad266) l0_1.length c0_1], .int .i64 x1_1, .int .i64 ji40, .int .u8 4, .int .i64 a3_1] rfl (by (try simp only [List.map_toArray, List.map_cons, List.map_nil]); first | done | (simp only [hji40]; rfl) | rfl | (simp only [List.length_drop, List.length_take]; rfl)) ?_; (with_reducible refine (r3_Line.calls k2 _ _ l0_0 _ _ l0_1 x1_1 ji40 4 a3_1 t284 t285 t286 t287 _ ?side1 ?side2 ?side3 ?side4 A59.out).mono ?_); (case side1 => exact aA HR0_0 HB); (case side2 => exact HC0_0.out); (case side3 => exact aA HR0_1 HB); (case side4 => exact HC0_1.out); rintro e w64 ⟨rfl, hb⟩; refine ⟨_, rfl, ?_⟩; replace HO_9 := zA.mk (Kd.zQ (aR HO_9) hb); replace BK252 := zA.mk (zB (aB BK252) hb); replace BK253 := zA.mk (zB (aB BK253) hb); replace HB := zA.mk (zH (aL HB) hb); (try clear hb); (try clear hb2); (try clear hk); (try clear hi)) | ((with_reducible refine gate_builtin (b := .append) (xs := #[.tmp 88, .tmp 96]) rfl ?_); at_builtin; refine Kd.R_append k45 (w0 := w) w.heap.size rfl (.tmp 88) (.tmp 96) 40 45 (.agg #[(.int .i64 0), (.int .i64 0), (.int .i64 0), (.int .u8 0)]) 32 rfl Try.underlying40 info45 rfl (by decide) (by omega) u9 x9_1 (⟨t284, t285, t286, t287⟩ : S45) [.int .i64 t284, .int .i64 t285, .int .i64 t286, .int .u8 t287] (fun _ => True) (fun _ => False) rfl rfl ?aP (fun _ hk => hk.elim) ?aF ?aO ?aB ?aS ?aL ?_; (case aP => exact k45_mkM _ _ _ (⟨t284, t285, t286, t287⟩ : S45)); (case aB => exact (aL HB)); (case aF => exact (fun _ _ => trivial)); (case aO => exact (aR HO_9)); (case aS => exact (zE (aL HB))); (case aL => have := LMc60.out; omega); intro v289 w65 ho hb hg hat; rw [← Ny288.out] at ho; replace BK252 := zA.mk (blk_grown (g := gb252) (o := .cells #[.slice A0_0 l0_0.length c0_0, .slice (some ad266) l0_1.length c0_1] 31 (0, 0)) (aB BK252) hg (Kd.R_ne HO_9.out BK252.out (by decide))); replace BK253 := zA.mk (blk_grown (g := gb253) (o := .cells #[.int .i64 a3_0, .int .i64 a3_1, .int .u8 a3_2, .int .i64 a3_3, .int .i64 a3_4, .float .f64 a3_5] 35 (0, 0)) (aB BK253) hg (Kd.R_ne HO_9.out BK253.out (by decide))); replace HB := zA.mk (hb); have HO290 := zA.mk (ho); clear HO_9; clear ho hb hg hat))
     go_roundg k2
     case measure => have := HK1.out; have := HK2.out; omega
     case rel => exact ⟨(ji40), (y288), (by first | rfl | (simp; done) | (simp only [← hji40] <;> (first | rfl | simp)) | (simp [*]; done)), H', ⟨by have := HK1.out; have := HK2.out; omega⟩, ⟨aR HO290⟩, ⟨aB BK252⟩, ⟨aB BK253⟩, ⟨aL HB⟩⟩
    rw [if_pos c51] at H; have c51b0 : ((rd l0_1 (ji40)) == 1) = true := beq_iff_eq.mpr c51
    have c51b1 : ((rd l0_1 (ji40)) != 1) = false := bne_eq_false_iff_eq.mpr c51
    clear c51; replace H := Option.bind_eq_some_iff.mp H; obtain ⟨⟨t277, t278, t279, t280⟩, A520, H⟩ := H; replace H : (if x9_1.length < 4398046511104 then (r3_First.l0 k2 ji40 a2 (x9_1 ++ [(⟨t277, t278, t279, t280⟩ : S45)]) l0_0 l0_1 a3_0 a3_1 a3_2 a3_3 a3_4 a3_5) else (none)) = some r := H; have A52 := zA.mk A520; clear A520; by_cases c53 : x9_1.length < 4398046511104
    rotate_left
    ·rw [if_neg c53] at H
     exact absurd H (by simp)
    rw [if_pos c53] at H; have LMc53 := zA.mk c53; clear c53; obtain ⟨y281, hy281⟩ : ∃ y_ : List (S45), y_ = (x9_1 ++ [(⟨t277, t278, t279, t280⟩ : S45)]) := ⟨_, rfl⟩; replace H : (r3_First.l0 k2 ji40 a2 y281 l0_0 l0_1 a3_0 a3_1 a3_2 a3_3 a3_4 a3_5) = some r := by first | (rw [hy281]; with_reducible exact H) | (have H2_ := (Option.bind_some _ _).symm.trans H; rw [hy281]; with_reducible exact H2_) | (have H2_ := (Option.bind_some _ _).symm.trans H; with_reducible exact H2_) | with_reducible exact H | (rw [hy281]; exact H) | exact H
    have Ny281 := zA.mk hy281; clear hy281; have H' := zA.mk H
    clear H; have hnb54 := NB252_253.out; have hnc54 := NB253_252.out; obtain ⟨hcz55_0, hcz55_1, hfz55_0, hfz55_1⟩ := aC2 BK252; have p266 : 0 ≤ ((ji40) : Int) := aD
    have q266 : (ji40) < (l0_1.length : Int) := aD
    obtain ⟨ad266, e266, hx266_0⟩ := Kd.at_int HR0_1.out (ji40) p266 q266; cases e266
    replace hx266_0 := (HB.out.cell (World.block_lt_of_cell? w _ hx266_0)).trans hx266_0; replace p266 := eq_true p266; replace q266 := eq_true q266; have p275 : 0 ≤ ((ji40) : Int) := aD
    have q275 : (ji40) < (l0_1.length : Int) := aD
    obtain ⟨ad275, e275, hx275_0⟩ := Kd.at_int HR0_1.out (ji40) p275 q275; obtain rfl : ad266 = ad275 := (by injection e275)
    replace hx275_0 := (HB.out.cell (World.block_lt_of_cell? w _ hx275_0)).trans hx275_0; replace p275 := eq_true p275; replace q275 := eq_true q275; have p276 : 0 ≤ ((ji40) : Int) := aD
    have q276 : (ji40) < (l0_1.length : Int) := aD
    obtain ⟨ad276, e276, hx276_0⟩ := Kd.at_int HR0_1.out (ji40) p276 q276; obtain rfl : ad266 = ad276 := (by injection e276)
    replace hx276_0 := (HB.out.cell (World.block_lt_of_cell? w _ hx276_0)).trans hx276_0; replace p276 := eq_true p276; replace q276 := eq_true q276; obtain ⟨hcz56_0, hcz56_1, hcz56_2, hcz56_3, hcz56_4, hcz56_5, hfz56_0, hfz56_1, hfz56_2, hfz56_3, hfz56_4, hfz56_5⟩ := aC6 BK253; go_wp2_with (first | ((with_reducible refine gate_callee (f := 31) rfl ?_); refine goesL_ (some 95) rfl rfl Try.func31 (by kernel_rfl) rfl #[.agg #[.slice A0_0 l0_0.length c0_0, .slice (some ad266) l0_1.length c0_1], .int .i64 x1_1, .int .i64 ji40, .int .u8 (rd l0_1 (ji40)), .int .i64 a3_1] rfl (by (try simp only [List.map_toArray, List.map_cons, List.map_nil]); first | done | (simp only [hji40]; rfl) | rfl | (simp only [List.length_drop, List.length_take]; rfl)) ?_; (with_reducible refine (r3_Line.calls k2 _ _ l0_0 _ _ l0_1 x1_1 ji40 (rd l0_1 (ji40)) a3_1 t277 t278 t279 t280 _ ?side1 ?side2 ?side3 ?side4 A52.out).mono ?_); (case side1 => exact aA HR0_0 HB); (case side2 => exact HC0_0.out); (case side3 => exact aA HR0_1 HB); (case side4 => exact HC0_1.out); rintro e w57 ⟨rfl, hb⟩; refine ⟨_, rfl, ?_⟩; replace HO_9 := zA.mk (Kd.zQ (aR HO_9) hb); replace BK252 := zA.mk (zB (aB BK252) hb); replace BK253 := zA.mk (zB (aB BK253) hb); replace HB := zA.mk (zH (aL HB) hb); (try clear hb); (try clear hb2); (try clear hk); (try clear hi)) | ((with_reducible refine gate_builtin (b := .append) (xs := #[.tmp 88, .tmp 96]) rfl ?_); at_builtin; refine Kd.R_append k45 (w0 := w) w.heap.size rfl (.tmp 88) (.tmp 96) 40 45 (.agg #[(.int .i64 0), (.int .i64 0), (.int .i64 0), (.int .u8 0)]) 32 rfl Try.underlying40 info45 rfl (by decide) (by omega) u9 x9_1 (⟨t277, t278, t279, t280⟩ : S45) [.int .i64 t277, .int .i64 t278, .int .i64 t279, .int .u8 t280] (fun _ => True) (fun _ => False) rfl rfl ?aP (fun _ hk => hk.elim) ?aF ?aO ?aB ?aS ?aL ?_; (case aP => exact k45_mkM _ _ _ (⟨t277, t278, t279, t280⟩ : S45)); (case aB => exact (aL HB)); (case aF => exact (fun _ _ => trivial)); (case aO => exact (aR HO_9)); (case aS => exact (zE (aL HB))); (case aL => have := LMc53.out; omega); intro v282 w58 ho hb hg hat; rw [← Ny281.out] at ho; replace BK252 := zA.mk (blk_grown (g := gb252) (o := .cells #[.slice A0_0 l0_0.length c0_0, .slice (some ad266) l0_1.length c0_1] 31 (0, 0)) (aB BK252) hg (Kd.R_ne HO_9.out BK252.out (by decide))); replace BK253 := zA.mk (blk_grown (g := gb253) (o := .cells #[.int .i64 a3_0, .int .i64 a3_1, .int .u8 a3_2, .int .i64 a3_3, .int .i64 a3_4, .float .f64 a3_5] 35 (0, 0)) (aB BK253) hg (Kd.R_ne HO_9.out BK253.out (by decide))); replace HB := zA.mk (hb); have HO283 := zA.mk (ho); clear HO_9; clear ho hb hg hat))
    go_roundg k2
    case measure => have := HK1.out; have := HK2.out; omega
    case rel => exact ⟨(ji40), (y281), (by first | rfl | (simp; done) | (simp only [← hji40] <;> (first | rfl | simp)) | (simp [*]; done)), H', ⟨by have := HK1.out; have := HK2.out; omega⟩, ⟨aR HO283⟩, ⟨aB BK252⟩, ⟨aB BK253⟩, ⟨aL HB⟩⟩
   rw [if_pos c8] at H; have c8b0 : decide (x12_2 ≤ a2) = true := decide_eq_true c8
   clear c8; replace H := Option.bind_eq_some_iff.mp H; obtain ⟨t254, A90, H⟩ := H; replace H : (if t254 ≤ a3_0 then (if 0 ≤ x12_2 then (if x12_2 < (l0_1.length : Int) then (if (rd l0_1 x12_2) = 0 then (r3_First.l1 k2 x1_1 a2 x9_1 x10_2 x12_2 (wrap64 (x12_2 + 1)) l0_0 l0_1 a3_0 a3_1 a3_2 a3_3 a3_4 a3_5) else ((r3_Cells.f k2 l0_0 l0_1 x1_1 x12_2 (rd l0_1 x12_2) a3_1).bind fun t257 => (if t257 ≤ a3_0 then (r3_First.l1 k2 x1_1 a2 x9_1 x12_2 x12_2 (wrap64 (x12_2 + 1)) l0_0 l0_1 a3_0 a3_1 a3_2 a3_3 a3_4 a3_5) else (r3_First.l1 k2 x1_1 a2 x9_1 x10_2 x12_2 (wrap64 (x12_2 + 1)) l0_0 l0_1 a3_0 a3_1 a3_2 a3_3 a3_4 a3_5)))) else (none)) else (none)) else (r3_First.l1 k2 x1_1 a2 x9_1 x10_2 x11_2 (wrap64 (x12_2 + 1)) l0_0 l0_1 a3_0 a3_1 a3_2 a3_3 a3_4 a3_5)) = some r := H
   have A9 := zA.mk A90; clear A90; by_cases c10 : t254 ≤ a3_0
   rotate_left
   ·rw [if_neg c10] at H
    have c10b0 : decide (t254 ≤ a3_0) = false := decide_eq_false c10
    clear c10; have H' := zA.mk H
    clear H; try go_wp2
    replace HO_9 := zA.mk (Kd.zK HO_9.out); replace BK252 := zA.mk (zD BK252.out); replace BK253 := zA.mk (zD BK253.out); replace HB := zA.mk (below_drew1 HB.out); refine start_ (n := 9) (S := fun w' => w'.cell? ⟨gb252, 0, none⟩ = some (.slice A0_0 l0_0.length c0_0) ∧ w'.cell? ⟨gb252, 1, none⟩ = some (.slice A0_1 l0_1.length c0_1) ∧ w'.cell? ⟨gb253, 0, none⟩ = some (.int .i64 a3_0) ∧ w'.cell? ⟨gb253, 1, none⟩ = some (.int .i64 a3_1) ∧ w'.cell? ⟨gb253, 2, none⟩ = some (.int .u8 a3_2) ∧ w'.cell? ⟨gb253, 3, none⟩ = some (.int .i64 a3_3) ∧ w'.cell? ⟨gb253, 4, none⟩ = some (.int .i64 a3_4) ∧ w'.cell? ⟨gb253, 5, none⟩ = some (.float .f64 a3_5)) (ds := []) #[false, false, false, false, false, false, false, false, false] (by kernel_rfl) rfl rfl ⟨(zC BK252.out 0).trans rfl, (zC BK252.out 1).trans rfl, (zC BK253.out 0).trans rfl, (zC BK253.out 1).trans rfl, (zC BK253.out 2).trans rfl, (zC BK253.out 3).trans rfl, (zC BK253.out 4).trans rfl, (zC BK253.out 5).trans rfl⟩ (fun hHeld => ?_); refine with_tabW r3_First.tab7 r3_First.bits7 (fun HT_ HW_ => ?_)
    generalize wr.drew = w27 at HO_9 BK252 BK253 HB hHeld ⊢
    refine aP 1 (some 25) (tb_ 2 9) HT_ ?_
    refine aP 2 (some 26) (tb_ 6 9) HT_ ?_
    refine aP 3 (some 27) (tb_ 14 9) HT_ ?_
    refine aP 6 (some 30) (tb_ 78 9) HT_ ?_
    refine take_ (i := 0) (N := some 24) (v := ?_) (a' := ?_) (tb_ 79 9) rfl rfl (take_ofW HT_.out HW_.out (by kernel_rfl)) (fun _ _ _ h => h) (Or.inl ⟨by rfl, ?_⟩) hHeld ?_ ?_
    rotate_left
    ·rintro w' ⟨s0, s1, s2, s3, s4, s5, s6, s7⟩
     go_simp
     with_reducible rfl
    rotate_left
    ·simp only [Act.put, sA_, sB_, sC_, i64_w, i32_w]
     rfl
    refine take_ (i := 4) (N := some 28) (v := ?_) (a' := ?_) (tb_ 95 9) rfl rfl (take_ofW HT_.out HW_.out (by kernel_rfl)) (fun _ _ _ h => h) (Or.inl ⟨by rfl, ?_⟩) hHeld ?_ ?_
    rotate_left
    ·rintro w' ⟨s0, s1, s2, s3, s4, s5, s6, s7⟩
     go_simp
     with_reducible rfl
    rotate_left
    ·simp only [Act.put, sA_, sB_, sC_, i64_w, i32_w]
     rfl
    refine take_ (i := 7) (N := some 31) (v := ?_) (a' := ?_) (tb_ 223 9) rfl rfl (take_ofW HT_.out HW_.out (by kernel_rfl)) (fun _ _ _ h => h) (Or.inl ⟨by rfl, ?_⟩) hHeld ?_ ?_
    rotate_left
    ·rintro w' ⟨s0, s1, s2, s3, s4, s5, s6, s7⟩
     go_simp
     with_reducible rfl
    rotate_left
    ·simp only [Act.put, sA_, sB_, sC_, i64_w, i32_w]
     rfl
    refine one_ (i := 5) (N := some 29) (tb_ 255 9) rfl rfl (one_of HT_.out (by kernel_rfl)) (by decide) (fun K hK => ?_)
    refine goes_ Try.func30 (by kernel_rfl) rfl #[.agg #[.slice A0_0 l0_0.length c0_0, .slice A0_1 l0_1.length c0_1], .int .i64 x1_1, .int .i64 x12_2, .int .u8 0, .int .i64 a3_1] (by rfl) rfl rfl aT ?_
    with_reducible refine (r3_Cells.calls k2 _ _ l0_0 _ _ l0_1 x1_1 x12_2 0 a3_1 t254 _ ?side1 ?side2 ?side3 ?side4 A9.out).mono ?_
    (case side1 => exact aA HR0_0 HB)
    (case side2 => exact HC0_0.out)
    (case side3 => exact aA HR0_1 HB)
    (case side4 => exact HC0_1.out)
    rintro e w28 ⟨rfl, hb⟩
    refine ⟨_, rfl, ?_⟩
    replace HO_9 := zA.mk (Kd.zQ (aR HO_9) hb); replace BK252 := zA.mk (zB (aB BK252) hb); replace BK253 := zA.mk (zB (aB BK253) hb); replace HB := zA.mk (zH (aL HB) hb); (try clear hb)
    (try clear hb2)
    (try clear hk)
    (try clear hi)
    refine hK.out _ _ ⟨(zC BK252.out 0).trans rfl, (zC BK252.out 1).trans rfl, (zC BK253.out 0).trans rfl, (zC BK253.out 1).trans rfl, (zC BK253.out 2).trans rfl, (zC BK253.out 3).trans rfl, (zC BK253.out 4).trans rfl, (zC BK253.out 5).trans rfl⟩ (fun hHeld => ?_)
    clear hK K; refine norm_ (a' := ?_) ?_ ?_
    rotate_left
    ·show Act.put _ (some 29) _ = _
     simp only [Act.put, sA_, sB_, sC_, i64_w, i32_w]; rfl
    refine aP 8 (some 32) (tb_ 511 9) HT_ ?_
    refine done_ (done_of HT_.out (by kernel_rfl)) ?_
    try go_wp2
    go_roundg k2
    case measure => have := HK1.out; have := HK2.out; omega
    case rel => exact ⟨(x10_2), (x11_2), (wrap64 (x12_2 + 1)), aZ, aZ, aZ, H', ⟨by have := HK1.out; have := HK2.out; omega⟩, ⟨aR HO_9⟩, ⟨aB BK252⟩, ⟨aB BK253⟩, ⟨aL HB⟩⟩
   rw [if_pos c10] at H; have c10b0 : decide (t254 ≤ a3_0) = true := decide_eq_true c10
   clear c10; by_cases c11 : 0 ≤ x12_2
   rotate_left
   ·rw [if_neg c11] at H
    exact absurd H (by simp)
   rw [if_pos c11] at H; have c11b0 : decide (0 ≤ x12_2) = true := decide_eq_true c11
   clear c11; by_cases c12 : x12_2 < (l0_1.length : Int)
   rotate_left
   ·rw [if_neg c12] at H
    exact absurd H (by simp)
   rw [if_pos c12] at H; have c12b0 : decide (x12_2 < (l0_1.length : Int)) = true := decide_eq_true c12
   clear c12; by_cases c13 : (rd l0_1 x12_2) = 0
   ·rw [if_pos c13] at H
    have c13b0 : ((rd l0_1 x12_2) == 0) = true := beq_iff_eq.mpr c13
    have c13b1 : ((rd l0_1 x12_2) != 0) = false := bne_eq_false_iff_eq.mpr c13
    clear c13; have H' := zA.mk H
    clear H; try go_wp2
    replace HO_9 := zA.mk (Kd.zK HO_9.out); replace BK252 := zA.mk (zD BK252.out); replace BK253 := zA.mk (zD BK253.out); replace HB := zA.mk (below_drew1 HB.out); refine start_ (n := 9) (S := fun w' => w'.cell? ⟨gb252, 0, none⟩ = some (.slice A0_0 l0_0.length c0_0) ∧ w'.cell? ⟨gb252, 1, none⟩ = some (.slice A0_1 l0_1.length c0_1) ∧ w'.cell? ⟨gb253, 0, none⟩ = some (.int .i64 a3_0) ∧ w'.cell? ⟨gb253, 1, none⟩ = some (.int .i64 a3_1) ∧ w'.cell? ⟨gb253, 2, none⟩ = some (.int .u8 a3_2) ∧ w'.cell? ⟨gb253, 3, none⟩ = some (.int .i64 a3_3) ∧ w'.cell? ⟨gb253, 4, none⟩ = some (.int .i64 a3_4) ∧ w'.cell? ⟨gb253, 5, none⟩ = some (.float .f64 a3_5)) (ds := []) #[false, false, false, false, false, false, false, false, false] (by kernel_rfl) rfl rfl ⟨(zC BK252.out 0).trans rfl, (zC BK252.out 1).trans rfl, (zC BK253.out 0).trans rfl, (zC BK253.out 1).trans rfl, (zC BK253.out 2).trans rfl, (zC BK253.out 3).trans rfl, (zC BK253.out 4).trans rfl, (zC BK253.out 5).trans rfl⟩ (fun hHeld => ?_); refine with_tabW r3_First.tab7 r3_First.bits7 (fun HT_ HW_ => ?_)
    generalize wr.drew = w14 at HO_9 BK252 BK253 HB hHeld ⊢
    refine aP 1 (some 25) (tb_ 2 9) HT_ ?_
    refine aP 2 (some 26) (tb_ 6 9) HT_ ?_
    refine aP 3 (some 27) (tb_ 14 9) HT_ ?_
    refine aP 6 (some 30) (tb_ 78 9) HT_ ?_
    refine take_ (i := 0) (N := some 24) (v := ?_) (a' := ?_) (tb_ 79 9) rfl rfl (take_ofW HT_.out HW_.out (by kernel_rfl)) (fun _ _ _ h => h) (Or.inl ⟨by rfl, ?_⟩) hHeld ?_ ?_
    rotate_left
    ·rintro w' ⟨s0, s1, s2, s3, s4, s5, s6, s7⟩
     go_simp
     with_reducible rfl
    rotate_left
    ·simp only [Act.put, sA_, sB_, sC_, i64_w, i32_w]
     rfl
    refine take_ (i := 4) (N := some 28) (v := ?_) (a' := ?_) (tb_ 95 9) rfl rfl (take_ofW HT_.out HW_.out (by kernel_rfl)) (fun _ _ _ h => h) (Or.inl ⟨by rfl, ?_⟩) hHeld ?_ ?_
    rotate_left
    ·rintro w' ⟨s0, s1, s2, s3, s4, s5, s6, s7⟩
     go_simp
     with_reducible rfl
    rotate_left
    ·simp only [Act.put, sA_, sB_, sC_, i64_w, i32_w]
     rfl
    refine take_ (i := 7) (N := some 31) (v := ?_) (a' := ?_) (tb_ 223 9) rfl rfl (take_ofW HT_.out HW_.out (by kernel_rfl)) (fun _ _ _ h => h) (Or.inl ⟨by rfl, ?_⟩) hHeld ?_ ?_
    rotate_left
    ·rintro w' ⟨s0, s1, s2, s3, s4, s5, s6, s7⟩
     go_simp
     with_reducible rfl
    rotate_left
    ·simp only [Act.put, sA_, sB_, sC_, i64_w, i32_w]
     rfl
    refine one_ (i := 5) (N := some 29) (tb_ 255 9) rfl rfl (one_of HT_.out (by kernel_rfl)) (by decide) (fun K hK => ?_)
    refine goes_ Try.func30 (by kernel_rfl) rfl #[.agg #[.slice A0_0 l0_0.length c0_0, .slice A0_1 l0_1.length c0_1], .int .i64 x1_1, .int .i64 x12_2, .int .u8 0, .int .i64 a3_1] (by rfl) rfl rfl aT ?_
    with_reducible refine (r3_Cells.calls k2 _ _ l0_0 _ _ l0_1 x1_1 x12_2 0 a3_1 t254 _ ?side1 ?side2 ?side3 ?side4 A9.out).mono ?_
    (case side1 => exact aA HR0_0 HB)
    (case side2 => exact HC0_0.out)
    (case side3 => exact aA HR0_1 HB)
    (case side4 => exact HC0_1.out)
    rintro e w15 ⟨rfl, hb⟩
    refine ⟨_, rfl, ?_⟩
    replace HO_9 := zA.mk (Kd.zQ (aR HO_9) hb); replace BK252 := zA.mk (zB (aB BK252) hb); replace BK253 := zA.mk (zB (aB BK253) hb); replace HB := zA.mk (zH (aL HB) hb); (try clear hb)
    (try clear hb2)
    (try clear hk)
    (try clear hi)
    refine hK.out _ _ ⟨(zC BK252.out 0).trans rfl, (zC BK252.out 1).trans rfl, (zC BK253.out 0).trans rfl, (zC BK253.out 1).trans rfl, (zC BK253.out 2).trans rfl, (zC BK253.out 3).trans rfl, (zC BK253.out 4).trans rfl, (zC BK253.out 5).trans rfl⟩ (fun hHeld => ?_)
    clear hK K; refine norm_ (a' := ?_) ?_ ?_
    rotate_left
    ·show Act.put _ (some 29) _ = _
     simp only [Act.put, sA_, sB_, sC_, i64_w, i32_w]; rfl
    refine aP 8 (some 32) (tb_ 511 9) HT_ ?_
    refine done_ (done_of HT_.out (by kernel_rfl)) ?_
    try go_wp2
    replace HO_9 := zA.mk (Kd.zK HO_9.out); replace BK252 := zA.mk (zD BK252.out); replace BK253 := zA.mk (zD BK253.out); replace HB := zA.mk (below_drew1 HB.out); have p255 : 0 ≤ (x12_2 : Int) := aD
    have q255 : x12_2 < (l0_1.length : Int) := aD
    obtain ⟨ad255, e255, hx255_0⟩ := Kd.at_int HR0_1.out x12_2 p255 q255; have hw255_0 := hx255_0; cases e255
    replace hx255_0 := (HB.out.cell (World.block_lt_of_cell? w _ hx255_0)).trans hx255_0; replace p255 := eq_true p255; replace q255 := eq_true q255; refine start_ (n := 22) (S := fun w' => w'.cell? ⟨gb252, 0, none⟩ = some (.slice A0_0 l0_0.length c0_0) ∧ w'.cell? ⟨gb252, 1, none⟩ = some (.slice (some ad255) l0_1.length c0_1) ∧ w'.cell? (ad255.add (x12_2).toNat) = some (.int .u8 (rd l0_1 x12_2))) (ds := []) #[false, false, false, false, false, false, false, false, false, false, false, false, false, false, false, false, false, false, false, false, false, false] (by kernel_rfl) rfl rfl ⟨(zC BK252.out 0).trans rfl, (zC BK252.out 1).trans rfl, ((HB.out.cell (World.block_lt_of_cell? w _ hw255_0)).trans hw255_0)⟩ (fun hHeld => ?_); refine with_tabW r3_First.tab9 r3_First.bits9 (fun HT_ HW_ => ?_)
    generalize w15.drew = w16 at HO_9 BK252 BK253 HB hx255_0 hHeld ⊢
    refine aP 0 (some 34) (tf_ 1 22) HT_ ?_
    refine aP 2 (some 36) (tb_ 5 22) HT_ ?_
    refine take_ (i := 1) (N := some 35) (v := ?_) (a' := ?_) (tf_ 3 22) rfl rfl (take_ofW HT_.out HW_.out (by kernel_rfl)) (fun _ _ _ h => h) (Or.inl ⟨by rfl, ?_⟩) hHeld ?_ ?_
    rotate_left
    ·rintro w' ⟨s0, s1, s2⟩
     go_simp
     with_reducible rfl
    rotate_left
    ·simp only [Act.put, sA_, sB_, sC_, i64_w, i32_w]
     rfl
    refine aP 3 (some 37) (tf_ 4 22) HT_ ?_
    refine take_ (i := 4) (N := some 38) (v := ?_) (a' := ?_) (tf_ 5 22) rfl rfl (take_ofW HT_.out HW_.out (by kernel_rfl)) (fun _ _ _ h => h) (Or.inl ⟨by rfl, ?_⟩) hHeld ?_ ?_
    rotate_left
    ·rintro w' ⟨s0, s1, s2⟩
     go_simp
     with_reducible rfl
    rotate_left
    ·simp only [Act.put, sA_, sB_, sC_, i64_w, i32_w]
     rfl
    refine aP 5 (some 39) (tf_ 6 22) HT_ ?_
    refine aP 6 (some 40) (tf_ 7 22) HT_ ?_
    refine pure_ (i := 7) (N := some 41) (v := undef) (a' := ?_) (tf_ 8 22) rfl rfl (any_of HT_.out (by kernel_rfl)) (fun _ _ _ h => h) (Or.inr ⟨by rfl, rfl⟩) ?_ ?_
    rotate_left
    ·simp only [Act.put, sA_, sB_, sC_, i64_w, i32_w]
     rfl
    refine pure_ (i := 8) (N := some 42) (v := undef) (a' := ?_) (tf_ 9 22) rfl rfl (any_of HT_.out (by kernel_rfl)) (fun _ _ _ h => h) (Or.inr ⟨by rfl, rfl⟩) ?_ ?_
    rotate_left
    ·simp only [Act.put, sA_, sB_, sC_, i64_w, i32_w]
     rfl
    refine pure_ (i := 9) (N := some 43) (v := undef) (a' := ?_) (tf_ 10 22) rfl rfl (any_of HT_.out (by kernel_rfl)) (fun _ _ _ h => h) (Or.inr ⟨by rfl, rfl⟩) ?_ ?_
    rotate_left
    ·simp only [Act.put, sA_, sB_, sC_, i64_w, i32_w]
     rfl
    refine pure_ (i := 10) (N := some 44) (v := undef) (a' := ?_) (tf_ 11 22) rfl rfl (any_of HT_.out (by kernel_rfl)) (fun _ _ _ h => h) (Or.inr ⟨by rfl, rfl⟩) ?_ ?_
    rotate_left
    ·simp only [Act.put, sA_, sB_, sC_, i64_w, i32_w]
     rfl
    refine pure_ (i := 11) (N := some 45) (v := undef) (a' := ?_) (tf_ 12 22) rfl rfl (any_of HT_.out (by kernel_rfl)) (fun _ _ _ h => h) (Or.inr ⟨by rfl, rfl⟩) ?_ ?_
    rotate_left
    ·simp only [Act.put, sA_, sB_, sC_, i64_w, i32_w]
     rfl
    refine pure_ (i := 12) (N := some 46) (v := undef) (a' := ?_) (tf_ 13 22) rfl rfl (any_of HT_.out (by kernel_rfl)) (fun _ _ _ h => h) (Or.inr ⟨by rfl, rfl⟩) ?_ ?_
    rotate_left
    ·simp only [Act.put, sA_, sB_, sC_, i64_w, i32_w]
     rfl
    refine pure_ (i := 13) (N := some 47) (v := undef) (a' := ?_) (tf_ 14 22) rfl rfl (any_of HT_.out (by kernel_rfl)) (fun _ _ _ h => h) (Or.inr ⟨by rfl, rfl⟩) ?_ ?_
    rotate_left
    ·simp only [Act.put, sA_, sB_, sC_, i64_w, i32_w]
     rfl
    refine pure_ (i := 14) (N := some 48) (v := undef) (a' := ?_) (tf_ 15 22) rfl rfl (any_of HT_.out (by kernel_rfl)) (fun _ _ _ h => h) (Or.inr ⟨by rfl, rfl⟩) ?_ ?_
    rotate_left
    ·simp only [Act.put, sA_, sB_, sC_, i64_w, i32_w]
     rfl
    refine pure_ (i := 15) (N := some 49) (v := undef) (a' := ?_) (tf_ 16 22) rfl rfl (any_of HT_.out (by kernel_rfl)) (fun _ _ _ h => h) (Or.inr ⟨by rfl, rfl⟩) ?_ ?_
    rotate_left
    ·simp only [Act.put, sA_, sB_, sC_, i64_w, i32_w]
     rfl
    refine pure_ (i := 16) (N := some 50) (v := undef) (a' := ?_) (tf_ 17 22) rfl rfl (any_of HT_.out (by kernel_rfl)) (fun _ _ _ h => h) (Or.inr ⟨by rfl, rfl⟩) ?_ ?_
    rotate_left
    ·simp only [Act.put, sA_, sB_, sC_, i64_w, i32_w]
     rfl
    refine pure_ (i := 17) (N := some 51) (v := undef) (a' := ?_) (tf_ 18 22) rfl rfl (any_of HT_.out (by kernel_rfl)) (fun _ _ _ h => h) (Or.inr ⟨by rfl, rfl⟩) ?_ ?_
    rotate_left
    ·simp only [Act.put, sA_, sB_, sC_, i64_w, i32_w]
     rfl
    refine pure_ (i := 18) (N := some 52) (v := undef) (a' := ?_) (tf_ 19 22) rfl rfl (any_of HT_.out (by kernel_rfl)) (fun _ _ _ h => h) (Or.inr ⟨by rfl, rfl⟩) ?_ ?_
    rotate_left
    ·simp only [Act.put, sA_, sB_, sC_, i64_w, i32_w]
     rfl
    refine pure_ (i := 19) (N := some 53) (v := undef) (a' := ?_) (tf_ 20 22) rfl rfl (any_of HT_.out (by kernel_rfl)) (fun _ _ _ h => h) (Or.inr ⟨by rfl, rfl⟩) ?_ ?_
    rotate_left
    ·simp only [Act.put, sA_, sB_, sC_, i64_w, i32_w]
     rfl
    refine pure_ (i := 20) (N := some 54) (v := undef) (a' := ?_) (tf_ 21 22) rfl rfl (any_of HT_.out (by kernel_rfl)) (fun _ _ _ h => h) (Or.inr ⟨by rfl, rfl⟩) ?_ ?_
    rotate_left
    ·simp only [Act.put, sA_, sB_, sC_, i64_w, i32_w]
     rfl
    refine aP 21 (some 55) (tb_ 4194303 22) HT_ ?_
    refine done_ (done_of HT_.out (by kernel_rfl)) ?_
    try go_wp2
    go_roundg k2
    case measure => have := HK1.out; have := HK2.out; omega
    case rel => exact ⟨(x10_2), (x12_2), (wrap64 (x12_2 + 1)), aZ, aZ, aZ, H', ⟨by have := HK1.out; have := HK2.out; omega⟩, ⟨aR HO_9⟩, ⟨aB BK252⟩, ⟨aB BK253⟩, ⟨aL HB⟩⟩
   rw [if_neg c13] at H; have c13b0 : ((rd l0_1 x12_2) == 0) = false := beq_eq_false_iff_ne.mpr c13
   have c13b1 : ((rd l0_1 x12_2) != 0) = true := bne_iff_ne.mpr c13
   replace H := Option.bind_eq_some_iff.mp H; obtain ⟨t257, A170, H⟩ := H; replace H : (if t257 ≤ a3_0 then (r3_First.l1 k2 x1_1 a2 x9_1 x12_2 x12_2 (wrap64 (x12_2 + 1)) l0_0 l0_1 a3_0 a3_1 a3_2 a3_3 a3_4 a3_5) else (r3_First.l1 k2 x1_1 a2 x9_1 x10_2 x12_2 (wrap64 (x12_2 + 1)) l0_0 l0_1 a3_0 a3_1 a3_2 a3_3 a3_4 a3_5)) = some r := H; have A17 := zA.mk A170; clear A170; by_cases c18 : t257 ≤ a3_0
   ·rw [if_pos c18] at H
    have c18b0 : decide (t257 ≤ a3_0) = true := decide_eq_true c18
    clear c18; have H' := zA.mk H
    clear H; try go_wp2
    replace HO_9 := zA.mk (Kd.zK HO_9.out); replace BK252 := zA.mk (zD BK252.out); replace BK253 := zA.mk (zD BK253.out); replace HB := zA.mk (below_drew1 HB.out); refine start_ (n := 9) (S := fun w' => w'.cell? ⟨gb252, 0, none⟩ = some (.slice A0_0 l0_0.length c0_0) ∧ w'.cell? ⟨gb252, 1, none⟩ = some (.slice A0_1 l0_1.length c0_1) ∧ w'.cell? ⟨gb253, 0, none⟩ = some (.int .i64 a3_0) ∧ w'.cell? ⟨gb253, 1, none⟩ = some (.int .i64 a3_1) ∧ w'.cell? ⟨gb253, 2, none⟩ = some (.int .u8 a3_2) ∧ w'.cell? ⟨gb253, 3, none⟩ = some (.int .i64 a3_3) ∧ w'.cell? ⟨gb253, 4, none⟩ = some (.int .i64 a3_4) ∧ w'.cell? ⟨gb253, 5, none⟩ = some (.float .f64 a3_5)) (ds := []) #[false, false, false, false, false, false, false, false, false] (by kernel_rfl) rfl rfl ⟨(zC BK252.out 0).trans rfl, (zC BK252.out 1).trans rfl, (zC BK253.out 0).trans rfl, (zC BK253.out 1).trans rfl, (zC BK253.out 2).trans rfl, (zC BK253.out 3).trans rfl, (zC BK253.out 4).trans rfl, (zC BK253.out 5).trans rfl⟩ (fun hHeld => ?_); refine with_tabW r3_First.tab7 r3_First.bits7 (fun HT_ HW_ => ?_)
    generalize wr.drew = w19 at HO_9 BK252 BK253 HB hHeld ⊢
    refine aP 1 (some 25) (tb_ 2 9) HT_ ?_
    refine aP 2 (some 26) (tb_ 6 9) HT_ ?_
    refine aP 3 (some 27) (tb_ 14 9) HT_ ?_
    refine aP 6 (some 30) (tb_ 78 9) HT_ ?_
    refine take_ (i := 0) (N := some 24) (v := ?_) (a' := ?_) (tb_ 79 9) rfl rfl (take_ofW HT_.out HW_.out (by kernel_rfl)) (fun _ _ _ h => h) (Or.inl ⟨by rfl, ?_⟩) hHeld ?_ ?_
    rotate_left
    ·rintro w' ⟨s0, s1, s2, s3, s4, s5, s6, s7⟩
     go_simp
     with_reducible rfl
    rotate_left
    ·simp only [Act.put, sA_, sB_, sC_, i64_w, i32_w]
     rfl
    refine take_ (i := 4) (N := some 28) (v := ?_) (a' := ?_) (tb_ 95 9) rfl rfl (take_ofW HT_.out HW_.out (by kernel_rfl)) (fun _ _ _ h => h) (Or.inl ⟨by rfl, ?_⟩) hHeld ?_ ?_
    rotate_left
    ·rintro w' ⟨s0, s1, s2, s3, s4, s5, s6, s7⟩
     go_simp
     with_reducible rfl
    rotate_left
    ·simp only [Act.put, sA_, sB_, sC_, i64_w, i32_w]
     rfl
    refine take_ (i := 7) (N := some 31) (v := ?_) (a' := ?_) (tb_ 223 9) rfl rfl (take_ofW HT_.out HW_.out (by kernel_rfl)) (fun _ _ _ h => h) (Or.inl ⟨by rfl, ?_⟩) hHeld ?_ ?_
    rotate_left
    ·rintro w' ⟨s0, s1, s2, s3, s4, s5, s6, s7⟩
     go_simp
     with_reducible rfl
    rotate_left
    ·simp only [Act.put, sA_, sB_, sC_, i64_w, i32_w]
     rfl
    refine one_ (i := 5) (N := some 29) (tb_ 255 9) rfl rfl (one_of HT_.out (by kernel_rfl)) (by decide) (fun K hK => ?_)
    refine goes_ Try.func30 (by kernel_rfl) rfl #[.agg #[.slice A0_0 l0_0.length c0_0, .slice A0_1 l0_1.length c0_1], .int .i64 x1_1, .int .i64 x12_2, .int .u8 0, .int .i64 a3_1] (by rfl) rfl rfl aT ?_
    with_reducible refine (r3_Cells.calls k2 _ _ l0_0 _ _ l0_1 x1_1 x12_2 0 a3_1 t254 _ ?side1 ?side2 ?side3 ?side4 A9.out).mono ?_
    (case side1 => exact aA HR0_0 HB)
    (case side2 => exact HC0_0.out)
    (case side3 => exact aA HR0_1 HB)
    (case side4 => exact HC0_1.out)
    rintro e w20 ⟨rfl, hb⟩
    refine ⟨_, rfl, ?_⟩
    replace HO_9 := zA.mk (Kd.zQ (aR HO_9) hb); replace BK252 := zA.mk (zB (aB BK252) hb); replace BK253 := zA.mk (zB (aB BK253) hb); replace HB := zA.mk (zH (aL HB) hb); (try clear hb)
    (try clear hb2)
    (try clear hk)
    (try clear hi)
    refine hK.out _ _ ⟨(zC BK252.out 0).trans rfl, (zC BK252.out 1).trans rfl, (zC BK253.out 0).trans rfl, (zC BK253.out 1).trans rfl, (zC BK253.out 2).trans rfl, (zC BK253.out 3).trans rfl, (zC BK253.out 4).trans rfl, (zC BK253.out 5).trans rfl⟩ (fun hHeld => ?_)
    clear hK K; refine norm_ (a' := ?_) ?_ ?_
    rotate_left
    ·show Act.put _ (some 29) _ = _
     simp only [Act.put, sA_, sB_, sC_, i64_w, i32_w]; rfl
    refine aP 8 (some 32) (tb_ 511 9) HT_ ?_
    refine done_ (done_of HT_.out (by kernel_rfl)) ?_
    try go_wp2
    replace HO_9 := zA.mk (Kd.zK HO_9.out); replace BK252 := zA.mk (zD BK252.out); replace BK253 := zA.mk (zD BK253.out); replace HB := zA.mk (below_drew1 HB.out); have p255 : 0 ≤ (x12_2 : Int) := aD
    have q255 : x12_2 < (l0_1.length : Int) := aD
    obtain ⟨ad255, e255, hx255_0⟩ := Kd.at_int HR0_1.out x12_2 p255 q255; have hw255_0 := hx255_0; cases e255
    replace hx255_0 := (HB.out.cell (World.block_lt_of_cell? w _ hx255_0)).trans hx255_0; replace p255 := eq_true p255; replace q255 := eq_true q255; have p256 : 0 ≤ (x12_2 : Int) := aD
    have q256 : x12_2 < (l0_1.length : Int) := aD
    obtain ⟨ad256, e256, hx256_0⟩ := Kd.at_int HR0_1.out x12_2 p256 q256; have hw256_0 := hx256_0; obtain rfl : ad255 = ad256 := (by injection e256)
    replace hx256_0 := (HB.out.cell (World.block_lt_of_cell? w _ hx256_0)).trans hx256_0; replace p256 := eq_true p256; replace q256 := eq_true q256; refine start_ (n := 22) (S := fun w' => w'.cell? ⟨gb252, 0, none⟩ = some (.slice A0_0 l0_0.length c0_0) ∧ w'.cell? ⟨gb252, 1, none⟩ = some (.slice (some ad255) l0_1.length c0_1) ∧ w'.cell? ⟨gb253, 0, none⟩ = some (.int .i64 a3_0) ∧ w'.cell? ⟨gb253, 1, none⟩ = some (.int .i64 a3_1) ∧ w'.cell? ⟨gb253, 2, none⟩ = some (.int .u8 a3_2) ∧ w'.cell? ⟨gb253, 3, none⟩ = some (.int .i64 a3_3) ∧ w'.cell? ⟨gb253, 4, none⟩ = some (.int .i64 a3_4) ∧ w'.cell? ⟨gb253, 5, none⟩ = some (.float .f64 a3_5) ∧ w'.cell? (ad255.add (x12_2).toNat) = some (.int .u8 (rd l0_1 x12_2)) ∧ w'.cell? (ad255.add (x12_2).toNat) = some (.int .u8 (rd l0_1 x12_2))) (ds := []) #[false, false, false, false, false, false, false, false, false, false, false, false, false, false, false, false, false, false, false, false, false, false] (by kernel_rfl) rfl rfl ⟨(zC BK252.out 0).trans rfl, (zC BK252.out 1).trans rfl, (zC BK253.out 0).trans rfl, (zC BK253.out 1).trans rfl, (zC BK253.out 2).trans rfl, (zC BK253.out 3).trans rfl, (zC BK253.out 4).trans rfl, (zC BK253.out 5).trans rfl, ((HB.out.cell (World.block_lt_of_cell? w _ hw255_0)).trans hw255_0), ((HB.out.cell (World.block_lt_of_cell? w _ hw256_0)).trans hw256_0)⟩ (fun hHeld => ?_); refine with_tabW r3_First.tab9 r3_First.bits9 (fun HT_ HW_ => ?_)
    generalize w20.drew = w21 at HO_9 BK252 BK253 HB hx255_0 hx256_0 hHeld ⊢
    refine aP 0 (some 34) (tf_ 1 22) HT_ ?_
    refine aP 2 (some 36) (tb_ 5 22) HT_ ?_
    refine take_ (i := 1) (N := some 35) (v := ?_) (a' := ?_) (tf_ 3 22) rfl rfl (take_ofW HT_.out HW_.out (by kernel_rfl)) (fun _ _ _ h => h) (Or.inl ⟨by rfl, ?_⟩) hHeld ?_ ?_
    rotate_left
    ·rintro w' ⟨s0, s1, s2, s3, s4, s5, s6, s7, s8, s9⟩
     go_simp
     with_reducible rfl
    rotate_left
    ·simp only [Act.put, sA_, sB_, sC_, i64_w, i32_w]
     rfl
    refine aP 3 (some 37) (tf_ 4 22) HT_ ?_
    refine take_ (i := 4) (N := some 38) (v := ?_) (a' := ?_) (tf_ 5 22) rfl rfl (take_ofW HT_.out HW_.out (by kernel_rfl)) (fun _ _ _ h => h) (Or.inl ⟨by rfl, ?_⟩) hHeld ?_ ?_
    rotate_left
    ·rintro w' ⟨s0, s1, s2, s3, s4, s5, s6, s7, s8, s9⟩
     go_simp
     with_reducible rfl
    rotate_left
    ·simp only [Act.put, sA_, sB_, sC_, i64_w, i32_w]
     rfl
    refine aP 5 (some 39) (tf_ 6 22) HT_ ?_
    refine aP 6 (some 40) (tf_ 7 22) HT_ ?_
    refine aP 8 (some 42) (tb_ 383 22) HT_ ?_
    refine aP 9 (some 43) (tb_ 895 22) HT_ ?_
    refine aP 10 (some 44) (tb_ 1919 22) HT_ ?_
    refine aP 12 (some 46) (tb_ 6015 22) HT_ ?_
    refine aP 15 (some 49) (tb_ 38783 22) HT_ ?_
    refine aP 18 (some 52) (tb_ 300927 22) HT_ ?_
    refine take_ (i := 7) (N := some 41) (v := ?_) (a' := ?_) (tb_ 301055 22) rfl rfl (take_ofW HT_.out HW_.out (by kernel_rfl)) (fun _ _ _ h => h) (Or.inl ⟨by rfl, ?_⟩) hHeld ?_ ?_
    rotate_left
    ·rintro w' ⟨s0, s1, s2, s3, s4, s5, s6, s7, s8, s9⟩
     go_simp
     with_reducible rfl
    rotate_left
    ·simp only [Act.put, sA_, sB_, sC_, i64_w, i32_w]
     rfl
    refine take_ (i := 11) (N := some 45) (v := ?_) (a' := ?_) (tb_ 303103 22) rfl rfl (take_ofW HT_.out HW_.out (by kernel_rfl)) (fun _ _ _ h => h) (Or.inl ⟨by rfl, ?_⟩) hHeld ?_ ?_
    rotate_left
    ·rintro w' ⟨s0, s1, s2, s3, s4, s5, s6, s7, s8, s9⟩
     go_simp
     with_reducible rfl
    rotate_left
    ·simp only [Act.put, sA_, sB_, sC_, i64_w, i32_w]
     rfl
    refine aP 13 (some 47) (tb_ 311295 22) HT_ ?_
    refine take_ (i := 14) (N := some 48) (v := ?_) (a' := ?_) (tb_ 327679 22) rfl rfl (take_ofW HT_.out HW_.out (by kernel_rfl)) (fun _ _ _ h => h) (Or.inl ⟨by rfl, ?_⟩) hHeld ?_ ?_
    rotate_left
    ·rintro w' ⟨s0, s1, s2, s3, s4, s5, s6, s7, s8, s9⟩
     go_simp
     with_reducible rfl
    rotate_left
    ·simp only [Act.put, sA_, sB_, sC_, i64_w, i32_w]
     rfl
    refine take_ (i := 16) (N := some 50) (v := ?_) (a' := ?_) (tb_ 393215 22) rfl rfl (take_ofW HT_.out HW_.out (by kernel_rfl)) (fun _ _ _ h => h) (Or.inl ⟨by rfl, ?_⟩) hHeld ?_ ?_
    rotate_left
    ·rintro w' ⟨s0, s1, s2, s3, s4, s5, s6, s7, s8, s9⟩
     go_simp
     with_reducible rfl
    rotate_left
    ·simp only [Act.put, sA_, sB_, sC_, i64_w, i32_w]
     rfl
    refine take_ (i := 19) (N := some 53) (v := ?_) (a' := ?_) (tb_ 917503 22) rfl rfl (take_ofW HT_.out HW_.out (by kernel_rfl)) (fun _ _ _ h => h) (Or.inl ⟨by rfl, ?_⟩) hHeld ?_ ?_
    rotate_left
    ·rintro w' ⟨s0, s1, s2, s3, s4, s5, s6, s7, s8, s9⟩
     go_simp
     with_reducible rfl
    rotate_left
    ·simp only [Act.put, sA_, sB_, sC_, i64_w, i32_w]
     rfl
    refine one_ (i := 17) (N := some 51) (tb_ 1048575 22) rfl rfl (one_of HT_.out (by kernel_rfl)) (by decide) (fun K hK => ?_)
    refine goes_ Try.func30 (by kernel_rfl) rfl #[.agg #[.slice A0_0 l0_0.length c0_0, .slice (some ad255) l0_1.length c0_1], .int .i64 x1_1, .int .i64 x12_2, .int .u8 (rd l0_1 x12_2), .int .i64 a3_1] (by rfl) rfl rfl aT ?_
    with_reducible refine (r3_Cells.calls k2 _ _ l0_0 _ _ l0_1 x1_1 x12_2 (rd l0_1 x12_2) a3_1 t257 _ ?side1 ?side2 ?side3 ?side4 A17.out).mono ?_
    (case side1 => exact aA HR0_0 HB)
    (case side2 => exact HC0_0.out)
    (case side3 => exact aA HR0_1 HB)
    (case side4 => exact HC0_1.out)
    rintro e w22 ⟨rfl, hb⟩
    refine ⟨_, rfl, ?_⟩
    replace HO_9 := zA.mk (Kd.zQ (aR HO_9) hb); replace BK252 := zA.mk (zB (aB BK252) hb); replace BK253 := zA.mk (zB (aB BK253) hb); replace HB := zA.mk (zH (aL HB) hb); (try clear hb)
    (try clear hb2)
    (try clear hk)
    (try clear hi)
    refine hK.out _ _ ⟨(zC BK252.out 0).trans rfl, (zC BK252.out 1).trans rfl, (zC BK253.out 0).trans rfl, (zC BK253.out 1).trans rfl, (zC BK253.out 2).trans rfl, (zC BK253.out 3).trans rfl, (zC BK253.out 4).trans rfl, (zC BK253.out 5).trans rfl, ((HB.out.cell (World.block_lt_of_cell? w _ hw255_0)).trans hw255_0), ((HB.out.cell (World.block_lt_of_cell? w _ hw256_0)).trans hw256_0)⟩ (fun hHeld => ?_)
    clear hK K; refine norm_ (a' := ?_) ?_ ?_
    rotate_left
    ·show Act.put _ (some 51) _ = _
     simp only [Act.put, sA_, sB_, sC_, i64_w, i32_w]; rfl
    refine aP 20 (some 54) (tf_ 21 22) HT_ ?_
    refine aP 21 (some 55) (tb_ 4194303 22) HT_ ?_
    refine done_ (done_of HT_.out (by kernel_rfl)) ?_
    try go_wp2
    go_roundg k2
    case measure => have := HK1.out; have := HK2.out; omega
    case rel => exact ⟨(x12_2), (x12_2), (wrap64 (x12_2 + 1)), aZ, aZ, aZ, H', ⟨by have := HK1.out; have := HK2.out; omega⟩, ⟨aR HO_9⟩, ⟨aB BK252⟩, ⟨aB BK253⟩, ⟨aL HB⟩⟩
   rw [if_neg c18] at H; have c18b0 : decide (t257 ≤ a3_0) = false := decide_eq_false c18
   clear c18; have H' := zA.mk H
   clear H; try go_wp2
   replace HO_9 := zA.mk (Kd.zK HO_9.out); replace BK252 := zA.mk (zD BK252.out); replace BK253 := zA.mk (zD BK253.out); replace HB := zA.mk (below_drew1 HB.out); refine start_ (n := 9) (S := fun w' => w'.cell? ⟨gb252, 0, none⟩ = some (.slice A0_0 l0_0.length c0_0) ∧ w'.cell? ⟨gb252, 1, none⟩ = some (.slice A0_1 l0_1.length c0_1) ∧ w'.cell? ⟨gb253, 0, none⟩ = some (.int .i64 a3_0) ∧ w'.cell? ⟨gb253, 1, none⟩ = some (.int .i64 a3_1) ∧ w'.cell? ⟨gb253, 2, none⟩ = some (.int .u8 a3_2) ∧ w'.cell? ⟨gb253, 3, none⟩ = some (.int .i64 a3_3) ∧ w'.cell? ⟨gb253, 4, none⟩ = some (.int .i64 a3_4) ∧ w'.cell? ⟨gb253, 5, none⟩ = some (.float .f64 a3_5)) (ds := []) #[false, false, false, false, false, false, false, false, false] (by kernel_rfl) rfl rfl ⟨(zC BK252.out 0).trans rfl, (zC BK252.out 1).trans rfl, (zC BK253.out 0).trans rfl, (zC BK253.out 1).trans rfl, (zC BK253.out 2).trans rfl, (zC BK253.out 3).trans rfl, (zC BK253.out 4).trans rfl, (zC BK253.out 5).trans rfl⟩ (fun hHeld => ?_); refine with_tabW r3_First.tab7 r3_First.bits7 (fun HT_ HW_ => ?_)
   generalize wr.drew = w23 at HO_9 BK252 BK253 HB hHeld ⊢
   refine aP 1 (some 25) (tb_ 2 9) HT_ ?_
   refine aP 2 (some 26) (tb_ 6 9) HT_ ?_
   refine aP 3 (some 27) (tb_ 14 9) HT_ ?_
   refine aP 6 (some 30) (tb_ 78 9) HT_ ?_
   refine take_ (i := 0) (N := some 24) (v := ?_) (a' := ?_) (tb_ 79 9) rfl rfl (take_ofW HT_.out HW_.out (by kernel_rfl)) (fun _ _ _ h => h) (Or.inl ⟨by rfl, ?_⟩) hHeld ?_ ?_
   rotate_left
   ·rintro w' ⟨s0, s1, s2, s3, s4, s5, s6, s7⟩
    go_simp
    with_reducible rfl
   rotate_left
   ·simp only [Act.put, sA_, sB_, sC_, i64_w, i32_w]
    rfl
   refine take_ (i := 4) (N := some 28) (v := ?_) (a' := ?_) (tb_ 95 9) rfl rfl (take_ofW HT_.out HW_.out (by kernel_rfl)) (fun _ _ _ h => h) (Or.inl ⟨by rfl, ?_⟩) hHeld ?_ ?_
   rotate_left
   ·rintro w' ⟨s0, s1, s2, s3, s4, s5, s6, s7⟩
    go_simp
    with_reducible rfl
   rotate_left
   ·simp only [Act.put, sA_, sB_, sC_, i64_w, i32_w]
    rfl
   refine take_ (i := 7) (N := some 31) (v := ?_) (a' := ?_) (tb_ 223 9) rfl rfl (take_ofW HT_.out HW_.out (by kernel_rfl)) (fun _ _ _ h => h) (Or.inl ⟨by rfl, ?_⟩) hHeld ?_ ?_
   rotate_left
   ·rintro w' ⟨s0, s1, s2, s3, s4, s5, s6, s7⟩
    go_simp
    with_reducible rfl
   rotate_left
   ·simp only [Act.put, sA_, sB_, sC_, i64_w, i32_w]
    rfl
   refine one_ (i := 5) (N := some 29) (tb_ 255 9) rfl rfl (one_of HT_.out (by kernel_rfl)) (by decide) (fun K hK => ?_)
   refine goes_ Try.func30 (by kernel_rfl) rfl #[.agg #[.slice A0_0 l0_0.length c0_0, .slice A0_1 l0_1.length c0_1], .int .i64 x1_1, .int .i64 x12_2, .int .u8 0, .int .i64 a3_1] (by rfl) rfl rfl aT ?_
   with_reducible refine (r3_Cells.calls k2 _ _ l0_0 _ _ l0_1 x1_1 x12_2 0 a3_1 t254 _ ?side1 ?side2 ?side3 ?side4 A9.out).mono ?_
   (case side1 => exact aA HR0_0 HB)
   (case side2 => exact HC0_0.out)
   (case side3 => exact aA HR0_1 HB)
   (case side4 => exact HC0_1.out)
   rintro e w24 ⟨rfl, hb⟩
   refine ⟨_, rfl, ?_⟩
   replace HO_9 := zA.mk (Kd.zQ (aR HO_9) hb); replace BK252 := zA.mk (zB (aB BK252) hb); replace BK253 := zA.mk (zB (aB BK253) hb); replace HB := zA.mk (zH (aL HB) hb); (try clear hb)
   (try clear hb2)
   (try clear hk)
   (try clear hi)
   refine hK.out _ _ ⟨(zC BK252.out 0).trans rfl, (zC BK252.out 1).trans rfl, (zC BK253.out 0).trans rfl, (zC BK253.out 1).trans rfl, (zC BK253.out 2).trans rfl, (zC BK253.out 3).trans rfl, (zC BK253.out 4).trans rfl, (zC BK253.out 5).trans rfl⟩ (fun hHeld => ?_)
   clear hK K; refine norm_ (a' := ?_) ?_ ?_
   rotate_left
   ·show Act.put _ (some 29) _ = _
    simp only [Act.put, sA_, sB_, sC_, i64_w, i32_w]; rfl
   refine aP 8 (some 32) (tb_ 511 9) HT_ ?_
   refine done_ (done_of HT_.out (by kernel_rfl)) ?_
   try go_wp2
   replace HO_9 := zA.mk (Kd.zK HO_9.out); replace BK252 := zA.mk (zD BK252.out); replace BK253 := zA.mk (zD BK253.out); replace HB := zA.mk (below_drew1 HB.out); have p255 : 0 ≤ (x12_2 : Int) := aD
   have q255 : x12_2 < (l0_1.length : Int) := aD
   obtain ⟨ad255, e255, hx255_0⟩ := Kd.at_int HR0_1.out x12_2 p255 q255; have hw255_0 := hx255_0; cases e255
   replace hx255_0 := (HB.out.cell (World.block_lt_of_cell? w _ hx255_0)).trans hx255_0; replace p255 := eq_true p255; replace q255 := eq_true q255; have p256 : 0 ≤ (x12_2 : Int) := aD
   have q256 : x12_2 < (l0_1.length : Int) := aD
   obtain ⟨ad256, e256, hx256_0⟩ := Kd.at_int HR0_1.out x12_2 p256 q256; have hw256_0 := hx256_0; obtain rfl : ad255 = ad256 := (by injection e256)
   replace hx256_0 := (HB.out.cell (World.block_lt_of_cell? w _ hx256_0)).trans hx256_0; replace p256 := eq_true p256; replace q256 := eq_true q256; refine start_ (n := 22) (S := fun w' => w'.cell? ⟨gb252, 0, none⟩ = some (.slice A0_0 l0_0.length c0_0) ∧ w'.cell? ⟨gb252, 1, none⟩ = some (.slice (some ad255) l0_1.length c0_1) ∧ w'.cell? ⟨gb253, 0, none⟩ = some (.int .i64 a3_0) ∧ w'.cell? ⟨gb253, 1, none⟩ = some (.int .i64 a3_1) ∧ w'.cell? ⟨gb253, 2, none⟩ = some (.int .u8 a3_2) ∧ w'.cell? ⟨gb253, 3, none⟩ = some (.int .i64 a3_3) ∧ w'.cell? ⟨gb253, 4, none⟩ = some (.int .i64 a3_4) ∧ w'.cell? ⟨gb253, 5, none⟩ = some (.float .f64 a3_5) ∧ w'.cell? (ad255.add (x12_2).toNat) = some (.int .u8 (rd l0_1 x12_2)) ∧ w'.cell? (ad255.add (x12_2).toNat) = some (.int .u8 (rd l0_1 x12_2))) (ds := []) #[false, false, false, false, false, false, false, false, false, false, false, false, false, false, false, false, false, false, false, false, false, false] (by kernel_rfl) rfl rfl ⟨(zC BK252.out 0).trans rfl, (zC BK252.out 1).trans rfl, (zC BK253.out 0).trans rfl, (zC BK253.out 1).trans rfl, (zC BK253.out 2).trans rfl, (zC BK253.out 3).trans rfl, (zC BK253.out 4).trans rfl, (zC BK253.out 5).trans rfl, ((HB.out.cell (World.block_lt_of_cell? w _ hw255_0)).trans hw255_0), ((HB.out.cell (World.block_lt_of_cell? w _ hw256_0)).trans hw256_0)⟩ (fun hHeld => ?_); refine with_tabW r3_First.tab9 r3_First.bits9 (fun HT_ HW_ => ?_)
   generalize w24.drew = w25 at HO_9 BK252 BK253 HB hx255_0 hx256_0 hHeld ⊢
   refine aP 0 (some 34) (tf_ 1 22) HT_ ?_
   refine aP 2 (some 36) (tb_ 5 22) HT_ ?_
   refine take_ (i := 1) (N := some 35) (v := ?_) (a' := ?_) (tf_ 3 22) rfl rfl (take_ofW HT_.out HW_.out (by kernel_rfl)) (fun _ _ _ h => h) (Or.inl ⟨by rfl, ?_⟩) hHeld ?_ ?_
   rotate_left
   ·rintro w' ⟨s0, s1, s2, s3, s4, s5, s6, s7, s8, s9⟩
    go_simp
    with_reducible rfl
   rotate_left
   ·simp only [Act.put, sA_, sB_, sC_, i64_w, i32_w]
    rfl
   refine aP 3 (some 37) (tf_ 4 22) HT_ ?_
   refine take_ (i := 4) (N := some 38) (v := ?_) (a' := ?_) (tf_ 5 22) rfl rfl (take_ofW HT_.out HW_.out (by kernel_rfl)) (fun _ _ _ h => h) (Or.inl ⟨by rfl, ?_⟩) hHeld ?_ ?_
   rotate_left
   ·rintro w' ⟨s0, s1, s2, s3, s4, s5, s6, s7, s8, s9⟩
    go_simp
    with_reducible rfl
   rotate_left
   ·simp only [Act.put, sA_, sB_, sC_, i64_w, i32_w]
    rfl
   refine aP 5 (some 39) (tf_ 6 22) HT_ ?_
   refine aP 6 (some 40) (tf_ 7 22) HT_ ?_
   refine aP 8 (some 42) (tb_ 383 22) HT_ ?_
   refine aP 9 (some 43) (tb_ 895 22) HT_ ?_
   refine aP 10 (some 44) (tb_ 1919 22) HT_ ?_
   refine aP 12 (some 46) (tb_ 6015 22) HT_ ?_
   refine aP 15 (some 49) (tb_ 38783 22) HT_ ?_
   refine aP 18 (some 52) (tb_ 300927 22) HT_ ?_
   refine take_ (i := 7) (N := some 41) (v := ?_) (a' := ?_) (tb_ 301055 22) rfl rfl (take_ofW HT_.out HW_.out (by kernel_rfl)) (fun _ _ _ h => h) (Or.inl ⟨by rfl, ?_⟩) hHeld ?_ ?_
   rotate_left
   ·rintro w' ⟨s0, s1, s2, s3, s4, s5, s6, s7, s8, s9⟩
    go_simp
    with_reducible rfl
   rotate_left
   ·simp only [Act.put, sA_, sB_, sC_, i64_w, i32_w]
    rfl
   refine take_ (i := 11) (N := some 45) (v := ?_) (a' := ?_) (tb_ 303103 22) rfl rfl (take_ofW HT_.out HW_.out (by kernel_rfl)) (fun _ _ _ h => h) (Or.inl ⟨by rfl, ?_⟩) hHeld ?_ ?_
   rotate_left
   ·rintro w' ⟨s0, s1, s2, s3, s4, s5, s6, s7, s8, s9⟩
    go_simp
    with_reducible rfl
   rotate_left
   ·simp only [Act.put, sA_, sB_, sC_, i64_w, i32_w]
    rfl
   refine aP 13 (some 47) (tb_ 311295 22) HT_ ?_
   refine take_ (i := 14) (N := some 48) (v := ?_) (a' := ?_) (tb_ 327679 22) rfl rfl (take_ofW HT_.out HW_.out (by kernel_rfl)) (fun _ _ _ h => h) (Or.inl ⟨by rfl, ?_⟩) hHeld ?_ ?_
   rotate_left
   ·rintro w' ⟨s0, s1, s2, s3, s4, s5, s6, s7, s8, s9⟩
    go_simp
    with_reducible rfl
   rotate_left
   ·simp only [Act.put, sA_, sB_, sC_, i64_w, i32_w]
    rfl
   refine take_ (i := 16) (N := some 50) (v := ?_) (a' := ?_) (tb_ 393215 22) rfl rfl (take_ofW HT_.out HW_.out (by kernel_rfl)) (fun _ _ _ h => h) (Or.inl ⟨by rfl, ?_⟩) hHeld ?_ ?_
   rotate_left
   ·rintro w' ⟨s0, s1, s2, s3, s4, s5, s6, s7, s8, s9⟩
    go_simp
    with_reducible rfl
   rotate_left
   ·simp only [Act.put, sA_, sB_, sC_, i64_w, i32_w]
    rfl
   refine take_ (i := 19) (N := some 53) (v := ?_) (a' := ?_) (tb_ 917503 22) rfl rfl (take_ofW HT_.out HW_.out (by kernel_rfl)) (fun _ _ _ h => h) (Or.inl ⟨by rfl, ?_⟩) hHeld ?_ ?_
   rotate_left
   ·rintro w' ⟨s0, s1, s2, s3, s4, s5, s6, s7, s8, s9⟩
    go_simp
    with_reducible rfl
   rotate_left
   ·simp only [Act.put, sA_, sB_, sC_, i64_w, i32_w]
    rfl
   refine one_ (i := 17) (N := some 51) (tb_ 1048575 22) rfl rfl (one_of HT_.out (by kernel_rfl)) (by decide) (fun K hK => ?_)
   refine goes_ Try.func30 (by kernel_rfl) rfl #[.agg #[.slice A0_0 l0_0.length c0_0, .slice (some ad255) l0_1.length c0_1], .int .i64 x1_1, .int .i64 x12_2, .int .u8 (rd l0_1 x12_2), .int .i64 a3_1] (by rfl) rfl rfl aT ?_
   with_reducible refine (r3_Cells.calls k2 _ _ l0_0 _ _ l0_1 x1_1 x12_2 (rd l0_1 x12_2) a3_1 t257 _ ?side1 ?side2 ?side3 ?side4 A17.out).mono ?_
   (case side1 => exact aA HR0_0 HB)
   (case side2 => exact HC0_0.out)
   (case side3 => exact aA HR0_1 HB)
   (case side4 => exact HC0_1.out)
   rintro e w26 ⟨rfl, hb⟩
   refine ⟨_, rfl, ?_⟩
   replace HO_9 := zA.mk (Kd.zQ (aR HO_9) hb); replace BK252 := zA.mk (zB (aB BK252) hb); replace BK253 := zA.mk (zB (aB BK253) hb); replace HB := zA.mk (zH (aL HB) hb); (try clear hb)
   (try clear hb2)
   (try clear hk)
   (try clear hi)
   refine hK.out _ _ ⟨(zC BK252.out 0).trans rfl, (zC BK252.out 1).trans rfl, (zC BK253.out 0).trans rfl, (zC BK253.out 1).trans rfl, (zC BK253.out 2).trans rfl, (zC BK253.out 3).trans rfl, (zC BK253.out 4).trans rfl, (zC BK253.out 5).trans rfl, ((HB.out.cell (World.block_lt_of_cell? w _ hw255_0)).trans hw255_0), ((HB.out.cell (World.block_lt_of_cell? w _ hw256_0)).trans hw256_0)⟩ (fun hHeld => ?_)
   clear hK K; refine norm_ (a' := ?_) ?_ ?_
   rotate_left
   ·show Act.put _ (some 51) _ = _
    simp only [Act.put, sA_, sB_, sC_, i64_w, i32_w]; rfl
   refine aP 20 (some 54) (tf_ 21 22) HT_ ?_
   refine aP 21 (some 55) (tb_ 4194303 22) HT_ ?_
   refine done_ (done_of HT_.out (by kernel_rfl)) ?_
   try go_wp2
   go_roundg k2
   case measure => have := HK1.out; have := HK2.out; omega
   case rel => exact ⟨(x10_2), (x12_2), (wrap64 (x12_2 + 1)), aZ, aZ, aZ, H', ⟨by have := HK1.out; have := HK2.out; omega⟩, ⟨aR HO_9⟩, ⟨aB BK252⟩, ⟨aB BK253⟩, ⟨aL HB⟩⟩
def r3_Best.f (l0_0 : List (S61)) (l0_1 : List Int) (a1 : Int) (a2 : Int) (a3_0 : Int) (a3_1 : Int) (a3_2 : Int) (a3_3 : Int) (a3_4 : Int) (a3_5 : Nat) : Option ((List (S45)) × Bool) := none
set_option maxHeartbeats 8000000 in
set_option maxRecDepth 100000 in
theorem r3_Best.calls (A0_0 : Option Addr) (c0_0 : Nat) (l0_0 : List (S61)) (A0_1 : Option Addr) (c0_1 : Nat) (l0_1 : List Int) (a1 : Int) (a2 : Int) (a3_0 : Int) (a3_1 : Int) (a3_2 : Int) (a3_3 : Int) (a3_4 : Int) (a3_5 : Nat) (r1 : List (S45)) (r2 : Bool) (w : World) (hr0_0 : Kd.C k61 w A0_0 l0_0.length l0_0) (hc0_0 : l0_0.length ≤ c0_0) (hr0_1 : Kd.C (Kd.int .u8) w A0_1 l0_1.length l0_1) (hc0_1 : l0_1.length ≤ c0_1) (h : r3_Best.f l0_0 l0_1 a1 a2 a3_0 a3_1 a3_2 a3_3 a3_4 a3_5 = some (r1, r2)) :
  Calls Try.prog 49 #[.agg #[.slice A0_0 l0_0.length c0_0, .slice A0_1 l0_1.length c0_1], .int .i64 a1, .int .i64 a2, .agg #[.int .i64 a3_0, .int .i64 a3_1, .int .u8 a3_2, .int .i64 a3_3, .int .i64 a3_4, .float .f64 a3_5]] w fun e w' => ∃ v0_ : Value, e = .returned (.tuple #[v0_, .bool r2]) ∧ Kd.R k45 45 w' w.heap.size (fun _ => True) v0_ r1 ∧ Below w.heap.size w w' := by
 have hu31 := Try.underlying31; have hu35 := Try.underlying35; have HR0_0 := zA.mk hr0_0; have HC0_0 := zA.mk hc0_0; clear hr0_0 hc0_0; have HR0_1 := zA.mk hr0_1; have HC0_1 := zA.mk hc0_1; clear hr0_1 hc0_1; have HB := zA.mk (Below.refl w.heap.size w); have H : (none) = some (r1, r2) := h
 clear h; exact absurd H (by simp)
def r3_Part.f (k : Nat) (l0_0 : List (S61)) (l0_1 : List Int) (a1 : Int) (a2 : Int) (a3_0 : Int) (a3_1 : Int) (a3_2 : Int) (a3_3 : Int) (a3_4 : Int) (a3_5 : Nat) : Option ((List (S45)) × Bool) := if a3_2 = 0 then ((r3_First.f k l0_0 l0_1 a1 a2 a3_0 a3_1 a3_2 a3_3 a3_4 a3_5).bind fun t335 => (some (t335, false))) else ((r3_Best.f l0_0 l0_1 a1 a2 a3_0 a3_1 a3_2 a3_3 a3_4 a3_5).bind fun bt338 => (if bt338.2 = true then (some (bt338.1, false)) else ((r3_First.f k l0_0 l0_1 a1 a2 a3_0 a3_1 a3_2 a3_3 a3_4 a3_5).bind fun t342 => (some (t342, true)))))
theorem r3_Part.mono : ∀ a0 a1 a2 a3 a4 a5 a6 a7 a8 a9 k, LeO (r3_Part.f k a0 a1 a2 a3 a4 a5 a6 a7 a8 a9) (r3_Part.f (k + 1) a0 a1 a2 a3 a4 a5 a6 a7 a8 a9) := by
 intro a0 a1 a2 a3 a4 a5 a6 a7 a8 a9 k
 unfold r3_Part.f
 repeat' (with_reducible first | exact r3_First.mono _ _ _ _ _ _ _ _ _ _ _ | exact LeO.refl _ | exact LeO.none _ | refine LeO.ite ?_ ?_ | refine LeO.bind ?_ (fun _ => ?_))
set_option maxHeartbeats 8000000 in
set_option maxRecDepth 100000 in
theorem r3_Part.calls (k : Nat) (A0_0 : Option Addr) (c0_0 : Nat) (l0_0 : List (S61)) (A0_1 : Option Addr) (c0_1 : Nat) (l0_1 : List Int) (a1 : Int) (a2 : Int) (a3_0 : Int) (a3_1 : Int) (a3_2 : Int) (a3_3 : Int) (a3_4 : Int) (a3_5 : Nat) (r1 : List (S45)) (r2 : Bool) (w : World) (hr0_0 : Kd.C k61 w A0_0 l0_0.length l0_0) (hc0_0 : l0_0.length ≤ c0_0) (hr0_1 : Kd.C (Kd.int .u8) w A0_1 l0_1.length l0_1) (hc0_1 : l0_1.length ≤ c0_1) (h : r3_Part.f k l0_0 l0_1 a1 a2 a3_0 a3_1 a3_2 a3_3 a3_4 a3_5 = some (r1, r2)) :
  Calls Try.prog 43 #[.agg #[.slice A0_0 l0_0.length c0_0, .slice A0_1 l0_1.length c0_1], .int .i64 a1, .int .i64 a2, .agg #[.int .i64 a3_0, .int .i64 a3_1, .int .u8 a3_2, .int .i64 a3_3, .int .i64 a3_4, .float .f64 a3_5]] w fun e w' => ∃ v0_ : Value, e = .returned (.tuple #[v0_, .bool r2]) ∧ Kd.R k45 45 w' w.heap.size (fun _ => True) v0_ r1 ∧ Below w.heap.size w w' := by
 have hu31 := Try.underlying31; have hu35 := Try.underlying35; have HR0_0 := zA.mk hr0_0; have HC0_0 := zA.mk hc0_0; clear hr0_0 hc0_0; have HR0_1 := zA.mk hr0_1; have HC0_1 := zA.mk hc0_1; clear hr0_1 hc0_1; have HB := zA.mk (Below.refl w.heap.size w); have H : (if a3_2 = 0 then ((r3_First.f k l0_0 l0_1 a1 a2 a3_0 a3_1 a3_2 a3_3 a3_4 a3_5).bind fun t335 => (some (t335, false))) else ((r3_Best.f l0_0 l0_1 a1 a2 a3_0 a3_1 a3_2 a3_3 a3_4 a3_5).bind fun bt338 => (if bt338.2 = true then (some (bt338.1, false)) else ((r3_First.f k l0_0 l0_1 a1 a2 a3_0 a3_1 a3_2 a3_3 a3_4 a3_5).bind fun t342 => (some (t342, true)))))) = some (r1, r2) := h
 clear h; by_cases c5 : a3_2 = 0
 ·rw [if_pos c5] at H
  have c5b0 : (a3_2 == 0) = true := beq_iff_eq.mpr c5
  have c5b1 : (a3_2 != 0) = false := bne_eq_false_iff_eq.mpr c5
  clear c5; replace H := Option.bind_eq_some_iff.mp H; obtain ⟨t335, A60, H⟩ := H; replace H : (some (t335, false)) = some (r1, r2) := H; have A6 := zA.mk A60; clear A60; simp only [Option.some.injEq, Prod.mk.injEq] at H; obtain ⟨rfl, rfl⟩ := H; go_enter Try.func43, Try.ntmps43
  go_wp2_with (first | ((with_reducible refine gate_dst (N := 4) rfl ?_); refine box_event ?hg (N := 4) ?hd (cs := #[.slice A0_0 l0_0.length c0_0, .slice A0_1 l0_1.length c0_1]) (t := 31) ?hr ?_; (case hd => rfl); (case hg => rfl); (case hr => first | (go_simp; done) | (go_simp; rfl)); intro gb333 hg w7 hbox hb; have BK333 := zA.mk (hbox); have GW333 := zA.mk ((by rw [hg]; exact (zE (aL HB)) : w.heap.size ≤ gb333)); replace HB := zA.mk (zH (aL HB) hb); have GE333 := GW333; clear hb hbox hg) | ((with_reducible refine gate_dst (N := 7) rfl ?_); refine box_event ?hg (N := 7) ?hd (cs := #[.int .i64 a3_0, .int .i64 a3_1, .int .u8 a3_2, .int .i64 a3_3, .int .i64 a3_4, .float .f64 a3_5]) (t := 35) ?hr ?_; (case hd => rfl); (case hg => rfl); (case hr => first | (go_simp; done) | (go_simp; rfl)); intro gb334 hg w8 hbox hb; have BK334 := zA.mk (hbox); have GW334 := zA.mk ((by rw [hg]; exact (zE (aL HB)) : w.heap.size ≤ gb334)); replace HB := zA.mk (zH (aL HB) hb); have GE334 := GW334; have NB333_334 := zA.mk ((by rw [hg]; exact Nat.ne_of_lt (blk_lt (aB BK333)) : gb333 ≠ gb334)); have NB334_333 := zA.mk ((by rw [hg]; exact Nat.ne_of_gt (blk_lt (g := gb333) (o := .cells #[.slice A0_0 l0_0.length c0_0, .slice A0_1 l0_1.length c0_1] 31 (0, 0)) (aB BK333)) : gb334 ≠ gb333)); replace BK333 := zA.mk (zB (aB BK333) hb); clear hb hbox hg; have hnb9 := NB334_333.out; have hnc9 := NB333_334.out; obtain ⟨hcz10_0, hcz10_1, hcz10_2, hcz10_3, hcz10_4, hcz10_5, hfz10_0, hfz10_1, hfz10_2, hfz10_3, hfz10_4, hfz10_5⟩ := aC6 BK334; obtain ⟨hcz11_0, hcz11_1, hfz11_0, hfz11_1⟩ := aC2 BK333) | ((with_reducible refine gate_callee (f := 18) rfl ?_); refine goesL_ (some 19) rfl rfl Try.func18 (by kernel_rfl) rfl #[.agg #[.slice A0_0 l0_0.length c0_0, .slice A0_1 l0_1.length c0_1], .int .i64 a1, .int .i64 a2, .agg #[.int .i64 a3_0, .int .i64 a3_1, .int .u8 a3_2, .int .i64 a3_3, .int .i64 a3_4, .float .f64 a3_5]] rfl aT ?_; (with_reducible refine (r3_First.calls k _ _ l0_0 _ _ l0_1 a1 a2 a3_0 a3_1 a3_2 a3_3 a3_4 a3_5 t335 _ ?side1 ?side2 ?side3 ?side4 A6.out).mono ?_); (case side1 => exact aA HR0_0 HB); (case side2 => exact HC0_0.out); (case side3 => exact aA HR0_1 HB); (case side4 => exact HC0_1.out); rintro e w12 ⟨v336, rfl, ho0, hb⟩; refine ⟨_, rfl, ?_⟩; have HO337 := zA.mk (Kd.zT ho0 (zE (aL HB))); replace BK333 := zA.mk (zB (aB BK333) hb); replace BK334 := zA.mk (zB (aB BK334) hb); replace HB := zA.mk (zH (aL HB) hb); (try clear hb); (try clear hb2); (try clear hk); (try clear hi); (try clear ho0)))
  go_ret2
  exact ⟨_, aX, aR HO337, aL HB⟩
 rw [if_neg c5] at H; have c5b0 : (a3_2 == 0) = false := beq_eq_false_iff_ne.mpr c5
 have c5b1 : (a3_2 != 0) = true := bne_iff_ne.mpr c5
 replace H := Option.bind_eq_some_iff.mp H; obtain ⟨⟨t338, t341⟩, A130, H⟩ := H; replace H : (if t341 = true then (some (t338, false)) else ((r3_First.f k l0_0 l0_1 a1 a2 a3_0 a3_1 a3_2 a3_3 a3_4 a3_5).bind fun t342 => (some (t342, true)))) = some (r1, r2) := H
 have A13 := zA.mk A130; clear A130; by_cases c14 : t341 = true
 ·subst c14
  have H1 : (some (t338, false)) = some (r1, r2) := by rw [if_pos rfl] at H; exact H
  clear H; have H := H1; clear H1; simp only [Option.some.injEq, Prod.mk.injEq] at H; obtain ⟨rfl, rfl⟩ := H; go_enter Try.func43, Try.ntmps43
  go_wp2_with (first | ((with_reducible refine gate_dst (N := 4) rfl ?_); refine box_event ?hg (N := 4) ?hd (cs := #[.slice A0_0 l0_0.length c0_0, .slice A0_1 l0_1.length c0_1]) (t := 31) ?hr ?_; (case hd => rfl); (case hg => rfl); (case hr => first | (go_simp; done) | (go_simp; rfl)); intro gb333 hg w15 hbox hb; have BK333 := zA.mk (hbox); have GW333 := zA.mk ((by rw [hg]; exact (zE (aL HB)) : w.heap.size ≤ gb333)); replace HB := zA.mk (zH (aL HB) hb); have GE333 := GW333; clear hb hbox hg) | ((with_reducible refine gate_dst (N := 7) rfl ?_); refine box_event ?hg (N := 7) ?hd (cs := #[.int .i64 a3_0, .int .i64 a3_1, .int .u8 a3_2, .int .i64 a3_3, .int .i64 a3_4, .float .f64 a3_5]) (t := 35) ?hr ?_; (case hd => rfl); (case hg => rfl); (case hr => first | (go_simp; done) | (go_simp; rfl)); intro gb334 hg w16 hbox hb; have BK334 := zA.mk (hbox); have GW334 := zA.mk ((by rw [hg]; exact (zE (aL HB)) : w.heap.size ≤ gb334)); replace HB := zA.mk (zH (aL HB) hb); have GE334 := GW334; have NB333_334 := zA.mk ((by rw [hg]; exact Nat.ne_of_lt (blk_lt (aB BK333)) : gb333 ≠ gb334)); have NB334_333 := zA.mk ((by rw [hg]; exact Nat.ne_of_gt (blk_lt (g := gb333) (o := .cells #[.slice A0_0 l0_0.length c0_0, .slice A0_1 l0_1.length c0_1] 31 (0, 0)) (aB BK333)) : gb334 ≠ gb333)); replace BK333 := zA.mk (zB (aB BK333) hb); clear hb hbox hg; have hnb17 := NB334_333.out; have hnc17 := NB333_334.out; obtain ⟨hcz18_0, hcz18_1, hcz18_2, hcz18_3, hcz18_4, hcz18_5, hfz18_0, hfz18_1, hfz18_2, hfz18_3, hfz18_4, hfz18_5⟩ := aC6 BK334; obtain ⟨hcz19_0, hcz19_1, hfz19_0, hfz19_1⟩ := aC2 BK333) | ((with_reducible refine gate_callee (f := 49) rfl ?_); refine goesL_ (some 25) rfl rfl Try.func49 (by kernel_rfl) rfl #[.agg #[.slice A0_0 l0_0.length c0_0, .slice A0_1 l0_1.length c0_1], .int .i64 a1, .int .i64 a2, .agg #[.int .i64 a3_0, .int .i64 a3_1, .int .u8 a3_2, .int .i64 a3_3, .int .i64 a3_4, .float .f64 a3_5]] rfl aT ?_; (with_reducible refine (r3_Best.calls _ _ l0_0 _ _ l0_1 a1 a2 a3_0 a3_1 a3_2 a3_3 a3_4 a3_5 t338 true _ ?side1 ?side2 ?side3 ?side4 A13.out).mono ?_); (case side1 => exact aA HR0_0 HB); (case side2 => exact HC0_0.out); (case side3 => exact aA HR0_1 HB); (case side4 => exact HC0_1.out); rintro e w20 ⟨v339, rfl, ho0, hb⟩; refine ⟨_, rfl, ?_⟩; have HO340 := zA.mk (Kd.zT ho0 (zE (aL HB))); replace BK333 := zA.mk (zB (aB BK333) hb); replace BK334 := zA.mk (zB (aB BK334) hb); replace HB := zA.mk (zH (aL HB) hb); (try clear hb); (try clear hb2); (try clear hk); (try clear hi); (try clear ho0)))
  go_ret2
  exact ⟨_, aX, aR HO340, aL HB⟩
 replace c14 := Bool.eq_false_iff.mpr c14; subst c14; have H1 : ((r3_First.f k l0_0 l0_1 a1 a2 a3_0 a3_1 a3_2 a3_3 a3_4 a3_5).bind fun t342 => (some (t342, true))) = some (r1, r2) := by rw [if_neg (show ¬ (false = true) by decide)] at H; exact H
 clear H; have H := H1; clear H1; replace H := Option.bind_eq_some_iff.mp H; obtain ⟨t342, A210, H⟩ := H; replace H : (some (t342, true)) = some (r1, r2) := H; have A21 := zA.mk A210; clear A210; simp only [Option.some.injEq, Prod.mk.injEq] at H; obtain ⟨rfl, rfl⟩ := H; go_enter Try.func43, Try.ntmps43
 go_wp2_with (first | ((with_reducible refine gate_dst (N := 4) rfl ?_); refine box_event ?hg (N := 4) ?hd (cs := #[.slice A0_0 l0_0.length c0_0, .slice A0_1 l0_1.length c0_1]) (t := 31) ?hr ?_; (case hd => rfl); (case hg => rfl); (case hr => first | (go_simp; done) | (go_simp; rfl)); intro gb333 hg w22 hbox hb; have BK333 := zA.mk (hbox); have GW333 := zA.mk ((by rw [hg]; exact (zE (aL HB)) : w.heap.size ≤ gb333)); replace HB := zA.mk (zH (aL HB) hb); have GE333 := GW333; clear hb hbox hg) | ((with_reducible refine gate_dst (N := 7) rfl ?_); refine box_event ?hg (N := 7) ?hd (cs := #[.int .i64 a3_0, .int .i64 a3_1, .int .u8 a3_2, .int .i64 a3_3, .int .i64 a3_4, .float .f64 a3_5]) (t := 35) ?hr ?_; (case hd => rfl); (case hg => rfl); (case hr => first | (go_simp; done) | (go_simp; rfl)); intro gb334 hg w23 hbox hb; have BK334 := zA.mk (hbox); have GW334 := zA.mk ((by rw [hg]; exact (zE (aL HB)) : w.heap.size ≤ gb334)); replace HB := zA.mk (zH (aL HB) hb); have GE334 := GW334; have NB333_334 := zA.mk ((by rw [hg]; exact Nat.ne_of_lt (blk_lt (aB BK333)) : gb333 ≠ gb334)); have NB334_333 := zA.mk ((by rw [hg]; exact Nat.ne_of_gt (blk_lt (g := gb333) (o := .cells #[.slice A0_0 l0_0.length c0_0, .slice A0_1 l0_1.length c0_1] 31 (0, 0)) (aB BK333)) : gb334 ≠ gb333)); replace BK333 := zA.mk (zB (aB BK333) hb); clear hb hbox hg; have hnb24 := NB334_333.out; have hnc24 := NB333_334.out; obtain ⟨hcz25_0, hcz25_1, hcz25_2, hcz25_3, hcz25_4, hcz25_5, hfz25_0, hfz25_1, hfz25_2, hfz25_3, hfz25_4, hfz25_5⟩ := aC6 BK334; obtain ⟨hcz26_0, hcz26_1, hfz26_0, hfz26_1⟩ := aC2 BK333) | ((with_reducible refine gate_callee (f := 49) rfl ?_); refine goesL_ (some 25) rfl rfl Try.func49 (by kernel_rfl) rfl #[.agg #[.slice A0_0 l0_0.length c0_0, .slice A0_1 l0_1.length c0_1], .int .i64 a1, .int .i64 a2, .agg #[.int .i64 a3_0, .int .i64 a3_1, .int .u8 a3_2, .int .i64 a3_3, .int .i64 a3_4, .float .f64 a3_5]] rfl aT ?_; (with_reducible refine (r3_Best.calls _ _ l0_0 _ _ l0_1 a1 a2 a3_0 a3_1 a3_2 a3_3 a3_4 a3_5 t338 false _ ?side1 ?side2 ?side3 ?side4 A13.out).mono ?_); (case side1 => exact aA HR0_0 HB); (case side2 => exact HC0_0.out); (case side3 => exact aA HR0_1 HB); (case side4 => exact HC0_1.out); rintro e w27 ⟨v339, rfl, ho0, hb⟩; refine ⟨_, rfl, ?_⟩; have HO340 := zA.mk (Kd.zT ho0 (zE (aL HB))); replace BK333 := zA.mk (zB (aB BK333) hb); replace BK334 := zA.mk (zB (aB BK334) hb); replace HB := zA.mk (zH (aL HB) hb); (try clear hb); (try clear hb2); (try clear hk); (try clear hi); (try clear ho0); obtain ⟨hcz28_0, hcz28_1, hfz28_0, hfz28_1⟩ := aC2 BK333; obtain ⟨hcz29_0, hcz29_1, hcz29_2, hcz29_3, hcz29_4, hcz29_5, hfz29_0, hfz29_1, hfz29_2, hfz29_3, hfz29_4, hfz29_5⟩ := aC6 BK334) | ((with_reducible refine gate_callee (f := 18) rfl ?_); refine goesL_ (some 34) rfl rfl Try.func18 (by kernel_rfl) rfl #[.agg #[.slice A0_0 l0_0.length c0_0, .slice A0_1 l0_1.length c0_1], .int .i64 a1, .int .i64 a2, .agg #[.int .i64 a3_0, .int .i64 a3_1, .int .u8 a3_2, .int .i64 a3_3, .int .i64 a3_4, .float .f64 a3_5]] rfl aT ?_; (with_reducible refine (r3_First.calls k _ _ l0_0 _ _ l0_1 a1 a2 a3_0 a3_1 a3_2 a3_3 a3_4 a3_5 t342 _ ?side1 ?side2 ?side3 ?side4 A21.out).mono ?_); (case side1 => exact aA HR0_0 HB); (case side2 => exact HC0_0.out); (case side3 => exact aA HR0_1 HB); (case side4 => exact HC0_1.out); rintro e w30 ⟨v343, rfl, ho0, hb⟩; refine ⟨_, rfl, ?_⟩; have HO344 := zA.mk (Kd.zT (Kd.R_new' ho0 (Kd.R_lt (aR HO340))) (zE (aL HB))); replace HO340 := zA.mk (Kd.R_elder' (aR HO340) (Kd.R_base ho0) hb); replace BK333 := zA.mk (zB (aB BK333) hb); replace BK334 := zA.mk (zB (aB BK334) hb); replace HB := zA.mk (zH (aL HB) hb); (try clear hb); (try clear hb2); (try clear hk); (try clear hi); (try clear ho0)))
 go_ret2
 exact ⟨_, aX, by (with_reducible repeat (first | apply Kd.zI | apply Kd.zJ | apply Kd.zK)); exact Kd.zU HO344.out (fun _ hk => trivial), aL HB⟩
def r3_Break.l0 : Nat → List (S45) → Bool → Int → List Int → Int → List (S61) → List Int → Int → Int → Int → Int → Int → Nat → Option ((List (S45)) × Bool)
 | 0, _, _, _, _, _, _, _, _, _, _, _, _, _ => none
 | k + 1, x6, x7, x8, x9, x10, x346000, x346001, x347000, x347001, x347002, x347003, x347004, x347005 => if x10 < (x9.length : Int) then (if 0 ≤ x10 then ((r3_Part.f k x346000 x346001 x8 (rd x9 x10) x347000 x347001 x347002 x347003 x347004 x347005).bind fun bt351 => (if x6.length + bt351.1.length < 4398046511104 then ((some (x6 ++ bt351.1 : List (S45))).bind fun y355 => (if x7 = true then (r3_Break.l0 k y355 true (rd x9 x10) x9 (wrap64 (x10 + 1)) x346000 x346001 x347000 x347001 x347002 x347003 x347004 x347005) else (r3_Break.l0 k y355 bt351.2 (rd x9 x10) x9 (wrap64 (x10 + 1)) x346000 x346001 x347000 x347001 x347002 x347003 x347004 x347005))) else (none))) else (none)) else (some (x6, x7))
def r3_Break.f (k : Nat) (l0_0 : List (S61)) (l0_1 : List Int) (a1_0 : Int) (a1_1 : Int) (a1_2 : Int) (a1_3 : Int) (a1_4 : Int) (a1_5 : Nat) : Option ((List (S45)) × Bool) := (r0_Parts.f k l0_0 l0_1).bind fun t347 => (r3_Break.l0 k ([] : List (S45)) false 0 t347 0 l0_0 l0_1 a1_0 a1_1 a1_2 a1_3 a1_4 a1_5)
theorem r3_Break.mono_l : ∀ k, (∀ y0 y1 y2 y3 y4 y5 y6 y7 y8 y9 y10 y11 y12, LeO (r3_Break.l0 k y0 y1 y2 y3 y4 y5 y6 y7 y8 y9 y10 y11 y12) (r3_Break.l0 (k + 1) y0 y1 y2 y3 y4 y5 y6 y7 y8 y9 y10 y11 y12))
 | 0 => fun _ _ _ _ _ _ _ _ _ _ _ _ _ r h => by simp [r3_Break.l0] at h
 | k + 1 => by
  have ih0 := r3_Break.mono_l k
  ·intro y0 y1 y2 y3 y4 y5 y6 y7 y8 y9 y10 y11 y12
   unfold r3_Break.l0
   repeat' (with_reducible first | exact ih0 _ _ _ _ _ _ _ _ _ _ _ _ _ | exact r0_Parts.mono _ _ _ | exact r3_Part.mono _ _ _ _ _ _ _ _ _ _ _ | exact LeO.refl _ | exact LeO.none _ | refine LeO.ite ?_ ?_ | refine LeO.bind ?_ (fun _ => ?_))
theorem r3_Break.mono : ∀ a0 a1 a2 a3 a4 a5 a6 a7 k, LeO (r3_Break.f k a0 a1 a2 a3 a4 a5 a6 a7) (r3_Break.f (k + 1) a0 a1 a2 a3 a4 a5 a6 a7) := by
 intro a0 a1 a2 a3 a4 a5 a6 a7 k
 have ih0 := r3_Break.mono_l k; unfold r3_Break.f
 repeat' (with_reducible first | exact ih0 _ _ _ _ _ _ _ _ _ _ _ _ _ | exact r0_Parts.mono _ _ _ | exact r3_Part.mono _ _ _ _ _ _ _ _ _ _ _ | exact LeO.refl _ | exact LeO.none _ | refine LeO.ite ?_ ?_ | refine LeO.bind ?_ (fun _ => ?_))
def r3_Break.T8 : Bool × List (List Nat × List Nat) := (true, [([], []), ([], []), ([], []), ([], []), ([2, 3], [2, 3]), ([4], [4]), ([], []), ([0, 1, 5, 6], [0, 1, 5, 6]), ([7], [7]), ([8], [8]), ([8], [8]), ([9, 7, 0, 1, 2, 3, 4, 5, 6, 7, 8, 9], [9]), ([10, 11, 0, 1, 2, 3, 4, 5, 6, 7, 8, 9, 10, 11], [10])])
def r3_Break.B8 : List Nat := [0, 0, 0, 0, 12, 28, 0, 127, 255, 511, 511, 1023, 4095]
theorem r3_Break.tab8 : rtab .any (opsOf Try.f34 8) = r3_Break.T8 := by kernel_rfl
theorem r3_Break.bits8 : waitsOk r3_Break.T8.2 r3_Break.B8 = true := by kernel_rfl
set_option maxHeartbeats 8000000 in
set_option maxRecDepth 100000 in
theorem r3_Break.calls (k : Nat) (A0_0 : Option Addr) (c0_0 : Nat) (l0_0 : List (S61)) (A0_1 : Option Addr) (c0_1 : Nat) (l0_1 : List Int) (a1_0 : Int) (a1_1 : Int) (a1_2 : Int) (a1_3 : Int) (a1_4 : Int) (a1_5 : Nat) (r1 : List (S45)) (r2 : Bool) (w : World) (hr0_0 : Kd.C k61 w A0_0 l0_0.length l0_0) (hc0_0 : l0_0.length ≤ c0_0) (hr0_1 : Kd.C (Kd.int .u8) w A0_1 l0_1.length l0_1) (hc0_1 : l0_1.length ≤ c0_1) (h : r3_Break.f k l0_0 l0_1 a1_0 a1_1 a1_2 a1_3 a1_4 a1_5 = some (r1, r2)) :
  Calls Try.prog 34 #[.agg #[.slice A0_0 l0_0.length c0_0, .slice A0_1 l0_1.length c0_1], .agg #[.int .i64 a1_0, .int .i64 a1_1, .int .u8 a1_2, .int .i64 a1_3, .int .i64 a1_4, .float .f64 a1_5]] w fun e w' => ∃ v0_ : Value, e = .returned (.tuple #[v0_, .bool r2]) ∧ Kd.R k45 45 w' w.heap.size (fun _ => True) v0_ r1 ∧ Below w.heap.size w w' := by
 have hu31 := Try.underlying31; have hu35 := Try.underlying35; have HR0_0 := zA.mk hr0_0; have HC0_0 := zA.mk hc0_0; clear hr0_0 hc0_0; have HR0_1 := zA.mk hr0_1; have HC0_1 := zA.mk hc0_1; clear hr0_1 hc0_1; have HB := zA.mk (Below.refl w.heap.size w); have H : ((r0_Parts.f k l0_0 l0_1).bind fun t347 => (r3_Break.l0 k ([] : List (S45)) false 0 t347 0 l0_0 l0_1 a1_0 a1_1 a1_2 a1_3 a1_4 a1_5)) = some (r1, r2) := h
 clear h; replace H := Option.bind_eq_some_iff.mp H; obtain ⟨t347, A30, H⟩ := H; replace H : (r3_Break.l0 k ([] : List (S45)) false 0 t347 0 l0_0 l0_1 a1_0 a1_1 a1_2 a1_3 a1_4 a1_5) = some (r1, r2) := H; have A3 := zA.mk A30; clear A30; have H' := zA.mk H
 clear H; go_enter Try.func34, Try.ntmps34
 go_wp2_with (first | ((with_reducible refine gate_dst (N := 2) rfl ?_); refine box_event ?hg (N := 2) ?hd (cs := #[.slice A0_0 l0_0.length c0_0, .slice A0_1 l0_1.length c0_1]) (t := 31) ?hr ?_; (case hd => rfl); (case hg => rfl); (case hr => first | (go_simp; done) | (go_simp; rfl)); intro gb345 hg w4 hbox hb; have BK345 := zA.mk (hbox); have GW345 := zA.mk ((by rw [hg]; exact (zE (aL HB)) : w.heap.size ≤ gb345)); replace HB := zA.mk (zH (aL HB) hb); have GE345 := GW345; clear hb hbox hg) | ((with_reducible refine gate_dst (N := 3) rfl ?_); refine box_event ?hg (N := 3) ?hd (cs := #[.int .i64 a1_0, .int .i64 a1_1, .int .u8 a1_2, .int .i64 a1_3, .int .i64 a1_4, .float .f64 a1_5]) (t := 35) ?hr ?_; (case hd => rfl); (case hg => rfl); (case hr => first | (go_simp; done) | (go_simp; rfl)); intro gb346 hg w5 hbox hb; have BK346 := zA.mk (hbox); have GW346 := zA.mk ((by rw [hg]; exact (zE (aL HB)) : w.heap.size ≤ gb346)); replace HB := zA.mk (zH (aL HB) hb); have GE346 := GW346; have NB345_346 := zA.mk ((by rw [hg]; exact Nat.ne_of_lt (blk_lt (aB BK345)) : gb345 ≠ gb346)); have NB346_345 := zA.mk ((by rw [hg]; exact Nat.ne_of_gt (blk_lt (g := gb345) (o := .cells #[.slice A0_0 l0_0.length c0_0, .slice A0_1 l0_1.length c0_1] 31 (0, 0)) (aB BK345)) : gb346 ≠ gb345)); replace BK345 := zA.mk (zB (aB BK345) hb); clear hb hbox hg; have hnb6 := NB345_346.out; have hnc6 := NB346_345.out; obtain ⟨hcz7_0, hcz7_1, hfz7_0, hfz7_1⟩ := aC2 BK345) | ((with_reducible refine gate_callee (f := 15) rfl ?_); refine goesL_ (some 14) rfl rfl Try.func15 (by kernel_rfl) rfl #[.agg #[.slice A0_0 l0_0.length c0_0, .slice A0_1 l0_1.length c0_1]] rfl aT ?_; (with_reducible refine (r0_Parts.calls k _ _ l0_0 _ _ l0_1 t347 _ ?side1 ?side2 ?side3 ?side4 A3.out).mono ?_); (case side1 => exact aA HR0_0 HB); (case side2 => exact HC0_0.out); (case side3 => exact aA HR0_1 HB); (case side4 => exact HC0_1.out); rintro e w8 ⟨v348, rfl, ho0, hb⟩; refine ⟨_, rfl, ?_⟩; have HO349 := zA.mk (Kd.zT ho0 (zE (aL HB))); replace BK345 := zA.mk (zB (aB BK345) hb); replace BK346 := zA.mk (zB (aB BK346) hb); replace HB := zA.mk (zH (aL HB) hb); (try clear hb); (try clear hb2); (try clear hk); (try clear hi); (try clear ho0)))
 go_loopg [6, 7, 8, 10] k (fun kq v6 v7 v8 v10 w' => ∃ (x6_1 : List (S45)) (x7_1 : Bool) (x8_1 : Int) (x10_1 : Int), v7 = .bool x7_1 ∧ v8 = .int .i64 x8_1 ∧ v10 = .int .i64 x10_1 ∧ zA (r3_Break.l0 kq x6_1 x7_1 x8_1 t347 x10_1 l0_0 l0_1 a1_0 a1_1 a1_2 a1_3 a1_4 a1_5 = some (r1, r2)) ∧ zA (kq ≤ k) ∧ zA (Kd.R k45 45 w' w.heap.size (fun _ => True) v6 x6_1) ∧ zA (Kd.R (Kd.int .i64) 3 w' w.heap.size (fun _ => True) v348 t347) ∧ zA (w'.heap[gb345]? = some (.cells #[(.slice A0_0 l0_0.length c0_0), (.slice A0_1 l0_1.length c0_1)] 31 (0, 0))) ∧ zA (w'.heap[gb346]? = some (.cells #[.int .i64 a1_0, .int .i64 a1_1, .int .u8 a1_2, .int .i64 a1_3, .int .i64 a1_4, .float .f64 a1_5] 35 (0, 0))) ∧ zA (Below w.heap.size w w'))
 case atStart => exact ⟨(([] : List (S45))), (false), (0), (0), aZ, aZ, aZ, H', ⟨Nat.le_refl _⟩, ⟨by first | exact Kd.R_nil _ _ _ _ _ | exact Kd.N_nil _ _ _ _ _ | exact Kd.V_nil _ _ _ _ _ | exact Kd.Q_nil _ _ _ _ _ | exact Kd.S_nil _ _ _ _ _⟩, ⟨aR HO349⟩, ⟨aB BK345⟩, ⟨aB BK346⟩, ⟨aL HB⟩⟩
 clear H'; obtain ⟨x6_1, x7_1, x8_1, x10_1, rfl, rfl, rfl, HA, HK1, HO_6, HO_9, BK345, BK346, HB⟩ := hrel; cases gk with
 | zero => exact absurd HA.out (by simp [r3_Break.l0])
 | succ k1 =>
  have H := HA.out; clear HA; simp only [r3_Break.l0] at H; by_cases c9 : x10_1 < (t347.length : Int)
  rotate_left
  ·rw [if_neg c9] at H
   have c9b0 : decide (x10_1 < (t347.length : Int)) = false := decide_eq_false c9
   clear c9; simp only [Option.some.injEq, Prod.mk.injEq] at H; obtain ⟨rfl, rfl⟩ := H; obtain ⟨Ao24, co24, eo24⟩ := Kd.zS HO_9.out; subst eo24; go_wp2
   go_ret2
   exact ⟨_, aX, aR HO_6, aL HB⟩
  rw [if_pos c9] at H; have c9b0 : decide (x10_1 < (t347.length : Int)) = true := decide_eq_true c9
  clear c9; by_cases c10 : 0 ≤ x10_1
  rotate_left
  ·rw [if_neg c10] at H
   exact absurd H (by simp)
  rw [if_pos c10] at H; have c10b0 : decide (0 ≤ x10_1) = true := decide_eq_true c10
  clear c10; replace H := Option.bind_eq_some_iff.mp H; obtain ⟨⟨t351, t354⟩, A110, H⟩ := H; replace H : (if x6_1.length + t351.length < 4398046511104 then ((some (x6_1 ++ t351 : List (S45))).bind fun y355 => (if x7_1 = true then (r3_Break.l0 k1 y355 true (rd t347 x10_1) t347 (wrap64 (x10_1 + 1)) l0_0 l0_1 a1_0 a1_1 a1_2 a1_3 a1_4 a1_5) else (r3_Break.l0 k1 y355 t354 (rd t347 x10_1) t347 (wrap64 (x10_1 + 1)) l0_0 l0_1 a1_0 a1_1 a1_2 a1_3 a1_4 a1_5))) else (none)) = some (r1, r2) := H
  have A11 := zA.mk A110; clear A110; by_cases c12 : x6_1.length + t351.length < 4398046511104
  rotate_left
  ·rw [if_neg c12] at H
   exact absurd H (by simp)
  rw [if_pos c12] at H; have LMc12 := zA.mk c12; clear c12; obtain ⟨y355, hy355⟩ : ∃ y_ : List (S45), y_ = (x6_1 ++ t351) := ⟨_, rfl⟩; replace H : (if x7_1 = true then (r3_Break.l0 k1 y355 true (rd t347 x10_1) t347 (wrap64 (x10_1 + 1)) l0_0 l0_1 a1_0 a1_1 a1_2 a1_3 a1_4 a1_5) else (r3_Break.l0 k1 y355 t354 (rd t347 x10_1) t347 (wrap64 (x10_1 + 1)) l0_0 l0_1 a1_0 a1_1 a1_2 a1_3 a1_4 a1_5)) = some (r1, r2) := by first | (rw [hy355]; with_reducible exact H) | (have H2_ := (Option.bind_some _ _).symm.trans H; rw [hy355]; with_reducible exact H2_) | (have H2_ := (Option.bind_some _ _).symm.trans H; with_reducible exact H2_) | with_reducible exact H | (rw [hy355]; exact H) | exact H
  have Ny355 := zA.mk hy355; clear hy355; by_cases c13 : x7_1 = true
  ·subst c13
   have H1 : (r3_Break.l0 k1 y355 true (rd t347 x10_1) t347 (wrap64 (x10_1 + 1)) l0_0 l0_1 a1_0 a1_1 a1_2 a1_3 a1_4 a1_5) = some (r1, r2) := by rw [if_pos rfl] at H; exact H
   clear H; have H := H1; clear H1; have H' := zA.mk H
   clear H; obtain ⟨Ao14, co14, eo14⟩ := Kd.zS HO_9.out; subst eo14; try go_wp2
   replace HO_6 := zA.mk (Kd.zK HO_6.out); replace HO_9 := zA.mk (Kd.zK HO_9.out); replace BK345 := zA.mk (zD BK345.out); replace BK346 := zA.mk (zD BK346.out); replace HB := zA.mk (below_drew1 HB.out); have p350 : 0 ≤ (x10_1 : Int) := aD
   have q350 : x10_1 < (t347.length : Int) := aD
   obtain ⟨ad350, e350, hx350_0⟩ := Kd.at_int (Kd.zP HO_9.out).2.2 x10_1 p350 q350; cases e350
   replace p350 := eq_true p350; replace q350 := eq_true q350; refine start_ (n := 13) (S := fun w' => w'.cell? ⟨gb345, 0, none⟩ = some (.slice A0_0 l0_0.length c0_0) ∧ w'.cell? ⟨gb345, 1, none⟩ = some (.slice A0_1 l0_1.length c0_1) ∧ w'.cell? ⟨gb346, 0, none⟩ = some (.int .i64 a1_0) ∧ w'.cell? ⟨gb346, 1, none⟩ = some (.int .i64 a1_1) ∧ w'.cell? ⟨gb346, 2, none⟩ = some (.int .u8 a1_2) ∧ w'.cell? ⟨gb346, 3, none⟩ = some (.int .i64 a1_3) ∧ w'.cell? ⟨gb346, 4, none⟩ = some (.int .i64 a1_4) ∧ w'.cell? ⟨gb346, 5, none⟩ = some (.float .f64 a1_5) ∧ w'.cell? (ad350.add (x10_1).toNat) = some (.int .i64 (rd t347 x10_1))) (ds := []) #[false, false, false, false, false, false, false, false, false, false, false, false, false] (by kernel_rfl) rfl rfl ⟨(zC BK345.out 0).trans rfl, (zC BK345.out 1).trans rfl, (zC BK346.out 0).trans rfl, (zC BK346.out 1).trans rfl, (zC BK346.out 2).trans rfl, (zC BK346.out 3).trans rfl, (zC BK346.out 4).trans rfl, (zC BK346.out 5).trans rfl, hx350_0⟩ (fun hHeld => ?_); refine with_tabW r3_Break.tab8 r3_Break.bits8 (fun HT_ HW_ => ?_)
   generalize wr.drew = w15 at HO_6 HO_9 BK345 BK346 HB hx350_0 hHeld ⊢
   refine aP 1 (some 23) (tb_ 2 13) HT_ ?_
   refine aP 2 (some 24) (tb_ 6 13) HT_ ?_
   refine aP 3 (some 25) (tb_ 14 13) HT_ ?_
   refine aP 4 (some 26) (tb_ 30 13) HT_ ?_
   refine take_ (i := 0) (N := some 22) (v := ?_) (a' := ?_) (tf_ 5 13) rfl rfl (take_ofW HT_.out HW_.out (by kernel_rfl)) (fun _ _ _ h => h) (Or.inl ⟨by rfl, ?_⟩) hHeld ?_ ?_
   rotate_left
   ·rintro w' ⟨s0, s1, s2, s3, s4, s5, s6, s7, s8⟩
    go_simp
    with_reducible rfl
   rotate_left
   ·simp only [Act.put, sA_, sB_, sC_, i64_w, i32_w]
    rfl
   refine take_ (i := 5) (N := some 27) (v := ?_) (a' := ?_) (tf_ 6 13) rfl rfl (take_ofW HT_.out HW_.out (by kernel_rfl)) (fun _ _ _ h => h) (Or.inl ⟨by rfl, ?_⟩) hHeld ?_ ?_
   rotate_left
   ·rintro w' ⟨s0, s1, s2, s3, s4, s5, s6, s7, s8⟩
    go_simp
    with_reducible rfl
   rotate_left
   ·simp only [Act.put, sA_, sB_, sC_, i64_w, i32_w]
    rfl
   refine take_ (i := 6) (N := some 28) (v := ?_) (a' := ?_) (tf_ 7 13) rfl rfl (take_ofW HT_.out HW_.out (by kernel_rfl)) (fun _ _ _ h => h) (Or.inl ⟨by rfl, ?_⟩) hHeld ?_ ?_
   rotate_left
   ·rintro w' ⟨s0, s1, s2, s3, s4, s5, s6, s7, s8⟩
    go_simp
    with_reducible rfl
   rotate_left
   ·simp only [Act.put, sA_, sB_, sC_, i64_w, i32_w]
    rfl
   refine one_ (i := 7) (N := some 29) (tb_ 255 13) rfl rfl (one_of HT_.out (by kernel_rfl)) (by decide) (fun K hK => ?_)
   refine goes_ Try.func43 (by kernel_rfl) rfl #[.agg #[.slice A0_0 l0_0.length c0_0, .slice A0_1 l0_1.length c0_1], .int .i64 x8_1, .int .i64 (rd t347 x10_1), .agg #[.int .i64 a1_0, .int .i64 a1_1, .int .u8 a1_2, .int .i64 a1_3, .int .i64 a1_4, .float .f64 a1_5]] (by rfl) rfl rfl aT ?_
   with_reducible refine (r3_Part.calls k1 _ _ l0_0 _ _ l0_1 x8_1 (rd t347 x10_1) a1_0 a1_1 a1_2 a1_3 a1_4 a1_5 t351 t354 _ ?side1 ?side2 ?side3 ?side4 A11.out).mono ?_
   (case side1 => exact aA HR0_0 HB)
   (case side2 => exact HC0_0.out)
   (case side3 => exact aA HR0_1 HB)
   (case side4 => exact HC0_1.out)
   rintro e w16 ⟨v352, rfl, ho0, hb⟩
   have HS8_ := (hb.cell (World.block_lt_of_cell? _ _ (hHeld.2.2.2.2.2.2.2.2))).trans (hHeld.2.2.2.2.2.2.2.2); refine ⟨_, rfl, ?_⟩
   replace HO_9 := zA.mk (Kd.zQ (aR HO_9) hb); have HO353 := zA.mk (Kd.zT (Kd.R_new' ho0 (Kd.R_lt (aR HO_6))) (zE (aL HB))); replace HO_6 := zA.mk (Kd.R_elder' (aR HO_6) (Kd.R_base ho0) hb); replace BK345 := zA.mk (zB (aB BK345) hb); replace BK346 := zA.mk (zB (aB BK346) hb); replace HB := zA.mk (zH (aL HB) hb); (try clear hb)
   (try clear hb2)
   (try clear hk)
   (try clear hi)
   (try clear ho0)
   refine hK.out _ _ ⟨(zC BK345.out 0).trans rfl, (zC BK345.out 1).trans rfl, (zC BK346.out 0).trans rfl, (zC BK346.out 1).trans rfl, (zC BK346.out 2).trans rfl, (zC BK346.out 3).trans rfl, (zC BK346.out 4).trans rfl, (zC BK346.out 5).trans rfl, HS8_⟩ (fun hHeld => ?_)
   clear hK K; refine norm_ (a' := ?_) ?_ ?_
   rotate_left
   ·show Act.put _ (some 29) _ = _
    simp only [Act.put, sA_, sB_, sC_, i64_w, i32_w]; rfl
   refine aP 8 (some 21) (tf_ 9 13) HT_ ?_
   refine aP 9 (some 30) (tf_ 10 13) HT_ ?_
   refine aP 10 (some 31) (tf_ 11 13) HT_ ?_
   refine aP 11 (some 11) (tf_ 12 13) HT_ ?_
   refine aP 12 (some 12) (tb_ 8191 13) HT_ ?_
   refine done_ (done_of HT_.out (by kernel_rfl)) ?_
   obtain ⟨Ao18, co18, eo18⟩ := Kd.zS HO353.out; subst eo18; try go_wp2_with (first | ((with_reducible refine gate_builtin (b := .append) (xs := #[.tmp 32, .tmp 33]) rfl ?_); at_builtin; refine Kd.R_append_rows k45 (w0 := w) w.heap.size rfl (.tmp 32) (.tmp 33) 40 45 (.agg #[(.int .i64 0), (.int .i64 0), (.int .i64 0), (.int .u8 0)]) 32 rfl Try.underlying40 info45 rfl (by decide) (by omega) u6 x6_1 t351 _ _ _ (fun k_ => some k_ ≠ (.slice Ao18 t351.length co18 : Value).ownBlock) (fun _ => False) rfl rfl ?aO ?aR (fun _ _ h => h) (fun _ h => h.elim) ?aF ?aB ?aS ?aL ?_; (case aR => exact aF HO353); (case aB => exact (aL HB)); (case aF => exact (fun k_ hk => Kd.fresh' (Kd.R_lt (aR HO353)) k_ hk)); (case aO => exact (by (with_reducible repeat (first | apply Kd.zI | apply Kd.zJ | apply Kd.zK)); exact Kd.zU HO_6.out (fun _ hk => hk.2))); (case aS => exact (zE (aL HB))); (case aL => have := LMc12.out; omega); intro v356 w17 ho hb hg hat; rw [← Ny355.out] at ho; replace HO_9 := zA.mk (Kd.R_over' (aR HO_9) (Kd.R_typed (aR HO_6)) (by decide) hg); replace BK345 := zA.mk (blk_grown (g := gb345) (o := .cells #[.slice A0_0 l0_0.length c0_0, .slice A0_1 l0_1.length c0_1] 31 (0, 0)) (aB BK345) hg (Kd.R_ne HO_6.out BK345.out (by decide))); replace BK346 := zA.mk (blk_grown (g := gb346) (o := .cells #[.int .i64 a1_0, .int .i64 a1_1, .int .u8 a1_2, .int .i64 a1_3, .int .i64 a1_4, .float .f64 a1_5] 35 (0, 0)) (aB BK346) hg (Kd.R_ne HO_6.out BK346.out (by decide))); replace HO353 := zA.mk (Kd.R_after (ok := (fun _ => True)) (aR HO353) hg hat); replace HB := zA.mk (hb); have HO357 := zA.mk (ho); clear HO_6; clear ho hb hg hat; have p358 : 0 ≤ (x10_1 : Int) := aD; have q358 : x10_1 < (t347.length : Int) := aD; obtain ⟨ad358, e358, hx358_0⟩ := Kd.at_int (Kd.zP HO_9.out).2.2 x10_1 p358 q358; obtain rfl : ad350 = ad358 := (by injection e358); replace p358 := eq_true p358; replace q358 := eq_true q358))
   go_roundg k1
   case measure => have := HK1.out; omega
   case rel => exact ⟨(y355), (true), (rd t347 x10_1), (wrap64 (x10_1 + 1)), aZ, aZ, aZ, H', ⟨by have := HK1.out; omega⟩, ⟨by (with_reducible repeat (first | apply Kd.zI | apply Kd.zJ | apply Kd.zK)); exact Kd.zU HO357.out (fun _ hk => trivial)⟩, ⟨aR HO_9⟩, ⟨aB BK345⟩, ⟨aB BK346⟩, ⟨aL HB⟩⟩
  replace c13 := Bool.eq_false_iff.mpr c13; subst c13; have H1 : (r3_Break.l0 k1 y355 t354 (rd t347 x10_1) t347 (wrap64 (x10_1 + 1)) l0_0 l0_1 a1_0 a1_1 a1_2 a1_3 a1_4 a1_5) = some (r1, r2) := by rw [if_neg (show ¬ (false = true) by decide)] at H; exact H
  clear H; have H := H1; clear H1; have H' := zA.mk H
  clear H; obtain ⟨Ao19, co19, eo19⟩ := Kd.zS HO_9.out; subst eo19; try go_wp2
  replace HO_6 := zA.mk (Kd.zK HO_6.out); replace HO_9 := zA.mk (Kd.zK HO_9.out); replace BK345 := zA.mk (zD BK345.out); replace BK346 := zA.mk (zD BK346.out); replace HB := zA.mk (below_drew1 HB.out); have p350 : 0 ≤ (x10_1 : Int) := aD
  have q350 : x10_1 < (t347.length : Int) := aD
  obtain ⟨ad350, e350, hx350_0⟩ := Kd.at_int (Kd.zP HO_9.out).2.2 x10_1 p350 q350; cases e350
  replace p350 := eq_true p350; replace q350 := eq_true q350; refine start_ (n := 13) (S := fun w' => w'.cell? ⟨gb345, 0, none⟩ = some (.slice A0_0 l0_0.length c0_0) ∧ w'.cell? ⟨gb345, 1, none⟩ = some (.slice A0_1 l0_1.length c0_1) ∧ w'.cell? ⟨gb346, 0, none⟩ = some (.int .i64 a1_0) ∧ w'.cell? ⟨gb346, 1, none⟩ = some (.int .i64 a1_1) ∧ w'.cell? ⟨gb346, 2, none⟩ = some (.int .u8 a1_2) ∧ w'.cell? ⟨gb346, 3, none⟩ = some (.int .i64 a1_3) ∧ w'.cell? ⟨gb346, 4, none⟩ = some (.int .i64 a1_4) ∧ w'.cell? ⟨gb346, 5, none⟩ = some (.float .f64 a1_5) ∧ w'.cell? (ad350.add (x10_1).toNat) = some (.int .i64 (rd t347 x10_1))) (ds := []) #[false, false, false, false, false, false, false, false, false, false, false, false, false] (by kernel_rfl) rfl rfl ⟨(zC BK345.out 0).trans rfl, (zC BK345.out 1).trans rfl, (zC BK346.out 0).trans rfl, (zC BK346.out 1).trans rfl, (zC BK346.out 2).trans rfl, (zC BK346.out 3).trans rfl, (zC BK346.out 4).trans rfl, (zC BK346.out 5).trans rfl, hx350_0⟩ (fun hHeld => ?_); refine with_tabW r3_Break.tab8 r3_Break.bits8 (fun HT_ HW_ => ?_)
  generalize wr.drew = w20 at HO_6 HO_9 BK345 BK346 HB hx350_0 hHeld ⊢
  refine aP 1 (some 23) (tb_ 2 13) HT_ ?_
  refine aP 2 (some 24) (tb_ 6 13) HT_ ?_
  refine aP 3 (some 25) (tb_ 14 13) HT_ ?_
  refine aP 4 (some 26) (tb_ 30 13) HT_ ?_
  refine take_ (i := 0) (N := some 22) (v := ?_) (a' := ?_) (tf_ 5 13) rfl rfl (take_ofW HT_.out HW_.out (by kernel_rfl)) (fun _ _ _ h => h) (Or.inl ⟨by rfl, ?_⟩) hHeld ?_ ?_
  rotate_left
  ·rintro w' ⟨s0, s1, s2, s3, s4, s5, s6, s7, s8⟩
   go_simp
   with_reducible rfl
  rotate_left
  ·simp only [Act.put, sA_, sB_, sC_, i64_w, i32_w]
   rfl
  refine take_ (i := 5) (N := some 27) (v := ?_) (a' := ?_) (tf_ 6 13) rfl rfl (take_ofW HT_.out HW_.out (by kernel_rfl)) (fun _ _ _ h => h) (Or.inl ⟨by rfl, ?_⟩) hHeld ?_ ?_
  rotate_left
  ·rintro w' ⟨s0, s1, s2, s3, s4, s5, s6, s7, s8⟩
   go_simp
   with_reducible rfl
  rotate_left
  ·simp only [Act.put, sA_, sB_, sC_, i64_w, i32_w]
   rfl
  refine take_ (i := 6) (N := some 28) (v := ?_) (a' := ?_) (tf_ 7 13) rfl rfl (take_ofW HT_.out HW_.out (by kernel_rfl)) (fun _ _ _ h => h) (Or.inl ⟨by rfl, ?_⟩) hHeld ?_ ?_
  rotate_left
  ·rintro w' ⟨s0, s1, s2, s3, s4, s5, s6, s7, s8⟩
   go_simp
   with_reducible rfl
  rotate_left
  ·simp only [Act.put, sA_, sB_, sC_, i64_w, i32_w]
   rfl
  refine one_ (i := 7) (N := some 29) (tb_ 255 13) rfl rfl (one_of HT_.out (by kernel_rfl)) (by decide) (fun K hK => ?_)
  refine goes_ Try.func43 (by kernel_rfl) rfl #[.agg #[.slice A0_0 l0_0.length c0_0, .slice A0_1 l0_1.length c0_1], .int .i64 x8_1, .int .i64 (rd t347 x10_1), .agg #[.int .i64 a1_0, .int .i64 a1_1, .int .u8 a1_2, .int .i64 a1_3, .int .i64 a1_4, .float .f64 a1_5]] (by rfl) rfl rfl aT ?_
  with_reducible refine (r3_Part.calls k1 _ _ l0_0 _ _ l0_1 x8_1 (rd t347 x10_1) a1_0 a1_1 a1_2 a1_3 a1_4 a1_5 t351 t354 _ ?side1 ?side2 ?side3 ?side4 A11.out).mono ?_
  (case side1 => exact aA HR0_0 HB)
  (case side2 => exact HC0_0.out)
  (case side3 => exact aA HR0_1 HB)
  (case side4 => exact HC0_1.out)
  rintro e w21 ⟨v352, rfl, ho0, hb⟩
  have HS8_ := (hb.cell (World.block_lt_of_cell? _ _ (hHeld.2.2.2.2.2.2.2.2))).trans (hHeld.2.2.2.2.2.2.2.2); refine ⟨_, rfl, ?_⟩
  replace HO_9 := zA.mk (Kd.zQ (aR HO_9) hb); have HO353 := zA.mk (Kd.zT (Kd.R_new' ho0 (Kd.R_lt (aR HO_6))) (zE (aL HB))); replace HO_6 := zA.mk (Kd.R_elder' (aR HO_6) (Kd.R_base ho0) hb); replace BK345 := zA.mk (zB (aB BK345) hb); replace BK346 := zA.mk (zB (aB BK346) hb); replace HB := zA.mk (zH (aL HB) hb); (try clear hb)
  (try clear hb2)
  (try clear hk)
  (try clear hi)
  (try clear ho0)
  refine hK.out _ _ ⟨(zC BK345.out 0).trans rfl, (zC BK345.out 1).trans rfl, (zC BK346.out 0).trans rfl, (zC BK346.out 1).trans rfl, (zC BK346.out 2).trans rfl, (zC BK346.out 3).trans rfl, (zC BK346.out 4).trans rfl, (zC BK346.out 5).trans rfl, HS8_⟩ (fun hHeld => ?_)
  clear hK K; refine norm_ (a' := ?_) ?_ ?_
  rotate_left
  ·show Act.put _ (some 29) _ = _
   simp only [Act.put, sA_, sB_, sC_, i64_w, i32_w]; rfl
  refine aP 8 (some 21) (tf_ 9 13) HT_ ?_
  refine aP 9 (some 30) (tf_ 10 13) HT_ ?_
  refine aP 10 (some 31) (tf_ 11 13) HT_ ?_
  refine aP 11 (some 11) (tf_ 12 13) HT_ ?_
  refine aP 12 (some 12) (tb_ 8191 13) HT_ ?_
  refine done_ (done_of HT_.out (by kernel_rfl)) ?_
  obtain ⟨Ao23, co23, eo23⟩ := Kd.zS HO353.out; subst eo23; try go_wp2_with (first | ((with_reducible refine gate_builtin (b := .append) (xs := #[.tmp 32, .tmp 33]) rfl ?_); at_builtin; refine Kd.R_append_rows k45 (w0 := w) w.heap.size rfl (.tmp 32) (.tmp 33) 40 45 (.agg #[(.int .i64 0), (.int .i64 0), (.int .i64 0), (.int .u8 0)]) 32 rfl Try.underlying40 info45 rfl (by decide) (by omega) u6 x6_1 t351 _ _ _ (fun k_ => some k_ ≠ (.slice Ao23 t351.length co23 : Value).ownBlock) (fun _ => False) rfl rfl ?aO ?aR (fun _ _ h => h) (fun _ h => h.elim) ?aF ?aB ?aS ?aL ?_; (case aR => exact aF HO353); (case aB => exact (aL HB)); (case aF => exact (fun k_ hk => Kd.fresh' (Kd.R_lt (aR HO353)) k_ hk)); (case aO => exact (by (with_reducible repeat (first | apply Kd.zI | apply Kd.zJ | apply Kd.zK)); exact Kd.zU HO_6.out (fun _ hk => hk.2))); (case aS => exact (zE (aL HB))); (case aL => have := LMc12.out; omega); intro v356 w22 ho hb hg hat; rw [← Ny355.out] at ho; replace HO_9 := zA.mk (Kd.R_over' (aR HO_9) (Kd.R_typed (aR HO_6)) (by decide) hg); replace BK345 := zA.mk (blk_grown (g := gb345) (o := .cells #[.slice A0_0 l0_0.length c0_0, .slice A0_1 l0_1.length c0_1] 31 (0, 0)) (aB BK345) hg (Kd.R_ne HO_6.out BK345.out (by decide))); replace BK346 := zA.mk (blk_grown (g := gb346) (o := .cells #[.int .i64 a1_0, .int .i64 a1_1, .int .u8 a1_2, .int .i64 a1_3, .int .i64 a1_4, .float .f64 a1_5] 35 (0, 0)) (aB BK346) hg (Kd.R_ne HO_6.out BK346.out (by decide))); replace HO353 := zA.mk (Kd.R_after (ok := (fun _ => True)) (aR HO353) hg hat); replace HB := zA.mk (hb); have HO357 := zA.mk (ho); clear HO_6; clear ho hb hg hat; have p359 : 0 ≤ (x10_1 : Int) := aD; have q359 : x10_1 < (t347.length : Int) := aD; obtain ⟨ad359, e359, hx359_0⟩ := Kd.at_int (Kd.zP HO_9.out).2.2 x10_1 p359 q359; obtain rfl : ad350 = ad359 := (by injection e359); replace p359 := eq_true p359; replace q359 := eq_true q359))
  go_roundg k1
  case measure => have := HK1.out; omega
  case rel => exact ⟨(y355), (t354), (rd t347 x10_1), (wrap64 (x10_1 + 1)), aZ, aZ, aZ, H', ⟨by have := HK1.out; omega⟩, ⟨by (with_reducible repeat (first | apply Kd.zI | apply Kd.zJ | apply Kd.zK)); exact Kd.zU HO357.out (fun _ hk => trivial)⟩, ⟨aR HO_9⟩, ⟨aB BK345⟩, ⟨aB BK346⟩, ⟨aL HB⟩⟩
mutual
def stanzalaw22_lined.l0 : Nat → List (S45) → List Int → List (S61) → Int → Int → List (S61) → List Int → Int → Int → Int → Int → Int → Nat → Option ((List (S61)) × List Int × (List (S45)) × Int × Int × Int × Int × Int × Nat × List Int)
 | 0, _, _, _, _, _, _, _, _, _, _, _, _, _ => none
 | k + 1, x10, x12, x32, x33, x34, x380000, x380001, x381000, x381001, x381002, x381003, x381004, x381005 => if x34 < x33 then (if 0 ≤ x34 then (if x34 < (x32.length : Int) then (stanzalaw22_lined.l1 k x10 x12 x34 x32 x33 x34 ((rd_T61 x32 x34).f1) 0 x380000 x380001 x381000 x381001 x381002 x381003 x381004 x381005) else (none)) else (none)) else (some (x380000, x380001, x10, x381000, x381001, x381002, x381003, x381004, x381005, x12))
def stanzalaw22_lined.l1 : Nat → List (S45) → List Int → Int → List (S61) → Int → Int → Int → Int → List (S61) → List Int → Int → Int → Int → Int → Int → Nat → Option ((List (S61)) × List Int × (List (S45)) × Int × Int × Int × Int × Int × Nat × List Int)
 | 0, _, _, _, _, _, _, _, _, _, _, _, _, _, _, _, _ => none
 | k + 1, x10, x12, x13, x32, x33, x34, x40, x41, x380000, x380001, x381000, x381001, x381002, x381003, x381004, x381005 => if x41 < x40 then (if x12.length < 140737488355328 then (stanzalaw22_lined.l1 k x10 (x12 ++ [(wrap64 (97 + (Int.tmod (wrap64 (x13 + x41)) 26))) % 256]) x13 x32 x33 x34 x40 (wrap64 (x41 + 1)) x380000 x380001 x381000 x381001 x381002 x381003 x381004 x381005) else (none)) else (stanzalaw22_lined.l0 k x10 x12 x32 x33 (wrap64 (x34 + 1)) x380000 x380001 x381000 x381001 x381002 x381003 x381004 x381005)
end
def stanzalaw22_lined.f (k : Nat) (l0 : List (S49)) (a1_0 : Int) (a1_1 : Int) (a1_2 : Int) (a1_3 : Int) (a1_4 : Int) (a1_5 : Nat) : Option ((List (S61)) × List Int × (List (S45)) × Int × Int × Int × Int × Int × Nat × List Int) := if 0 ≤ (mn (l0.length : Int) 100) then (if (mn (l0.length : Int) 100) ≤ (l0.length : Int) then ((h3_Para.f k (l0.take ((mn (l0.length : Int) 100) : Int).toNat)).bind fun bt367 => ((h3_Config.f a1_0 a1_1 a1_2 a1_3 a1_4 a1_5).bind fun bt373 => ((r3_Break.f k bt367.1 bt367.2 bt373.1 bt373.2.1 0 bt373.2.2.2.1 bt373.2.2.2.2.1 bt373.2.2.2.2.2).bind fun bt381 => (stanzalaw22_lined.l0 k bt381.1 ([] : List Int) bt367.1 (bt367.1.length : Int) 0 bt367.1 bt367.2 bt373.1 bt373.2.1 0 bt373.2.2.2.1 bt373.2.2.2.2.1 bt373.2.2.2.2.2)))) else (none)) else (none)
theorem stanzalaw22_lined.mono_l : ∀ k, (∀ y0 y1 y2 y3 y4 y5 y6 y7 y8 y9 y10 y11 y12, LeO (stanzalaw22_lined.l0 k y0 y1 y2 y3 y4 y5 y6 y7 y8 y9 y10 y11 y12) (stanzalaw22_lined.l0 (k + 1) y0 y1 y2 y3 y4 y5 y6 y7 y8 y9 y10 y11 y12)) ∧ (∀ y0 y1 y2 y3 y4 y5 y6 y7 y8 y9 y10 y11 y12 y13 y14 y15, LeO (stanzalaw22_lined.l1 k y0 y1 y2 y3 y4 y5 y6 y7 y8 y9 y10 y11 y12 y13 y14 y15) (stanzalaw22_lined.l1 (k + 1) y0 y1 y2 y3 y4 y5 y6 y7 y8 y9 y10 y11 y12 y13 y14 y15))
 | 0 => ⟨fun _ _ _ _ _ _ _ _ _ _ _ _ _ r h => by simp [stanzalaw22_lined.l0] at h, fun _ _ _ _ _ _ _ _ _ _ _ _ _ _ _ _ r h => by simp [stanzalaw22_lined.l1] at h⟩
 | k + 1 => by
  obtain ⟨ih0, ih1⟩ := stanzalaw22_lined.mono_l k; refine ⟨?_, ?_⟩
  ·intro y0 y1 y2 y3 y4 y5 y6 y7 y8 y9 y10 y11 y12
   unfold stanzalaw22_lined.l0
   repeat' (with_reducible first | exact ih0 _ _ _ _ _ _ _ _ _ _ _ _ _ | exact ih1 _ _ _ _ _ _ _ _ _ _ _ _ _ _ _ _ | exact h3_Para.mono _ _ | exact r3_Break.mono _ _ _ _ _ _ _ _ _ | exact LeO.refl _ | exact LeO.none _ | refine LeO.ite ?_ ?_ | refine LeO.bind ?_ (fun _ => ?_))
  ·intro y0 y1 y2 y3 y4 y5 y6 y7 y8 y9 y10 y11 y12 y13 y14 y15
   unfold stanzalaw22_lined.l1
   repeat' (with_reducible first | exact ih0 _ _ _ _ _ _ _ _ _ _ _ _ _ | exact ih1 _ _ _ _ _ _ _ _ _ _ _ _ _ _ _ _ | exact h3_Para.mono _ _ | exact r3_Break.mono _ _ _ _ _ _ _ _ _ | exact LeO.refl _ | exact LeO.none _ | refine LeO.ite ?_ ?_ | refine LeO.bind ?_ (fun _ => ?_))
theorem stanzalaw22_lined.mono : ∀ a0 a1 a2 a3 a4 a5 a6 k, LeO (stanzalaw22_lined.f k a0 a1 a2 a3 a4 a5 a6) (stanzalaw22_lined.f (k + 1) a0 a1 a2 a3 a4 a5 a6) := by
 intro a0 a1 a2 a3 a4 a5 a6 k
 obtain ⟨ih0, ih1⟩ := stanzalaw22_lined.mono_l k; unfold stanzalaw22_lined.f
 repeat' (with_reducible first | exact ih0 _ _ _ _ _ _ _ _ _ _ _ _ _ | exact ih1 _ _ _ _ _ _ _ _ _ _ _ _ _ _ _ _ | exact h3_Para.mono _ _ | exact r3_Break.mono _ _ _ _ _ _ _ _ _ | exact LeO.refl _ | exact LeO.none _ | refine LeO.ite ?_ ?_ | refine LeO.bind ?_ (fun _ => ?_))
def stanzalaw22_lined.T1 : Bool × List (List Nat × List Nat) := (true, [([], []), ([], []), ([1], [1]), ([2], [2]), ([0, 3], [0, 3]), ([4], [4]), ([], []), ([6, 5], [6]), ([], []), ([], []), ([8, 5, 7, 0, 1, 2, 3, 4, 5, 8, 9], [5, 8]), ([9, 7, 10, 0, 1, 2, 3, 4, 5, 6, 7, 8, 9, 10], [7, 9])])
def stanzalaw22_lined.B1 : List Nat := [0, 0, 2, 6, 15, 31, 0, 127, 0, 0, 1023, 2047]
theorem stanzalaw22_lined.tab1 : rtab .any (opsOf Try.f22 1) = stanzalaw22_lined.T1 := by kernel_rfl
theorem stanzalaw22_lined.bits1 : waitsOk stanzalaw22_lined.T1.2 stanzalaw22_lined.B1 = true := by kernel_rfl
def stanzalaw22_lined.T14 : Bool × List (List Nat × List Nat) := (true, [([], []), ([], []), ([], []), ([], []), ([0, 0], [0]), ([1, 4, 0, 1, 4], [1]), ([2, 5, 0, 1, 2, 4, 5], [2]), ([3, 6, 0, 1, 2, 3, 4, 5, 6], [3])])
def stanzalaw22_lined.B14 : List Nat := [0, 0, 0, 0, 1, 19, 55, 127]
theorem stanzalaw22_lined.tab14 : rtab .any (opsOf Try.f22 14) = stanzalaw22_lined.T14 := by kernel_rfl
theorem stanzalaw22_lined.bits14 : waitsOk stanzalaw22_lined.T14.2 stanzalaw22_lined.B14 = true := by kernel_rfl
set_option maxHeartbeats 8000000 in
set_option maxRecDepth 100000 in
theorem stanzalaw22_lined.calls (k : Nat) (A0 : Option Addr) (c0 : Nat) (l0 : List (S49)) (a1_0 : Int) (a1_1 : Int) (a1_2 : Int) (a1_3 : Int) (a1_4 : Int) (a1_5 : Nat) (r1 : List (S61)) (r2 : List Int) (r3 : List (S45)) (r4 : Int) (r5 : Int) (r6 : Int) (r7 : Int) (r8 : Int) (r9 : Nat) (r10 : List Int) (w : World) (hr0 : Kd.C k49 w A0 l0.length l0) (hc0 : l0.length ≤ c0) (h : stanzalaw22_lined.f k l0 a1_0 a1_1 a1_2 a1_3 a1_4 a1_5 = some (r1, r2, r3, r4, r5, r6, r7, r8, r9, r10)) :
  Calls Try.prog 22 #[.slice A0 l0.length c0, .agg #[.int .u8 a1_0, .int .u8 a1_1, .int .u8 a1_2, .int .u16 a1_3, .int .u16 a1_4, .float .f64 a1_5]] w fun e w' => ∃ v0_ v1_ v2_ v9_ : Value, e = .returned (.tuple #[.agg #[v0_, v1_], v2_, .agg #[.int .i64 r4, .int .i64 r5, .int .u8 r6, .int .i64 r7, .int .i64 r8, .float .f64 r9], v9_]) ∧ Kd.R k61 61 w' w.heap.size (fun _ => True) v0_ r1 ∧ Kd.R (Kd.int .u8) 43 w' w.heap.size (fun _ => True) v1_ r2 ∧ Kd.R k45 45 w' w.heap.size (fun _ => True) v2_ r3 ∧ Kd.R (Kd.int .u8) 5 w' w.heap.size (fun _ => True) v9_ r10 ∧ Below w.heap.size w w' := by
 have hu26 := Try.underlying26; have hu31 := Try.underlying31; have hu35 := Try.underlying35; have hu61 := Try.underlying61; have HR0 := zA.mk hr0; have HC0 := zA.mk hc0; clear hr0 hc0; have HB := zA.mk (Below.refl w.heap.size w); have H : (if 0 ≤ (mn (l0.length : Int) 100) then (if (mn (l0.length : Int) 100) ≤ (l0.length : Int) then ((h3_Para.f k (l0.take ((mn (l0.length : Int) 100) : Int).toNat)).bind fun bt367 => ((h3_Config.f a1_0 a1_1 a1_2 a1_3 a1_4 a1_5).bind fun bt373 => ((r3_Break.f k bt367.1 bt367.2 bt373.1 bt373.2.1 0 bt373.2.2.2.1 bt373.2.2.2.2.1 bt373.2.2.2.2.2).bind fun bt381 => (stanzalaw22_lined.l0 k bt381.1 ([] : List Int) bt367.1 (bt367.1.length : Int) 0 bt367.1 bt367.2 bt373.1 bt373.2.1 0 bt373.2.2.2.1 bt373.2.2.2.2.1 bt373.2.2.2.2.2)))) else (none)) else (none)) = some (r1, r2, r3, r4, r5, r6, r7, r8, r9, r10) := h
 clear h; obtain ⟨ji3, hji3⟩ : ∃ j_ : Int, (mn (l0.length : Int) 100) = j_ := ⟨_, rfl⟩; replace H : (if 0 ≤ (ji3) then (if (ji3) ≤ (l0.length : Int) then ((h3_Para.f k (l0.take ((ji3) : Int).toNat)).bind fun bt367 => ((h3_Config.f a1_0 a1_1 a1_2 a1_3 a1_4 a1_5).bind fun bt373 => ((r3_Break.f k bt367.1 bt367.2 bt373.1 bt373.2.1 0 bt373.2.2.2.1 bt373.2.2.2.2.1 bt373.2.2.2.2.2).bind fun bt381 => (stanzalaw22_lined.l0 k bt381.1 ([] : List Int) bt367.1 (bt367.1.length : Int) 0 bt367.1 bt367.2 bt373.1 bt373.2.1 0 bt373.2.2.2.1 bt373.2.2.2.2.1 bt373.2.2.2.2.2)))) else (none)) else (none)) = some (r1, r2, r3, r4, r5, r6, r7, r8, r9, r10) := by first | (rw [hji3] at H; exact H) | (simp only [hji3] at H ⊢; exact H)
 (try (have hji3h : ji3 ≤ 100 := by (rw [← hji3]; unfold mn; (repeat' split) <;> omega)))
 (try (have hji3g : ji3 ≤ 64 := by omega))
 (try (have hji3l : 0 ≤ ji3 := by (rw [← hji3]; unfold mn; (repeat' split) <;> omega)))
 (try (have hji3m : 0 ≤ ji3 := by omega))
 have hji3_ : (if 100 < (l0.length : Int) then 100 else (l0.length : Int)) = ji3 := hji3
 by_cases c4 : 0 ≤ (ji3)
 rotate_left
 ·rw [if_neg c4] at H
  exact absurd H (by simp)
 rw [if_pos c4] at H; have c4b0 := eq_true c4; have c4b1 : decide (0 ≤ (ji3)) = true := decide_eq_true c4
 clear c4; by_cases c5 : (ji3) ≤ (l0.length : Int)
 rotate_left
 ·rw [if_neg c5] at H
  exact absurd H (by simp)
 rw [if_pos c5] at H; have c5b0 := eq_true c5; have c5b1 : decide ((ji3) ≤ (l0.length : Int)) = true := decide_eq_true c5
 clear c5; obtain ⟨y363, hy363⟩ : ∃ y_ : List (S49), y_ = (l0.take ((ji3) : Int).toNat) := ⟨_, rfl⟩; replace H : ((h3_Para.f k y363).bind fun bt367 => ((h3_Config.f a1_0 a1_1 a1_2 a1_3 a1_4 a1_5).bind fun bt373 => ((r3_Break.f k bt367.1 bt367.2 bt373.1 bt373.2.1 0 bt373.2.2.2.1 bt373.2.2.2.2.1 bt373.2.2.2.2.2).bind fun bt381 => (stanzalaw22_lined.l0 k bt381.1 ([] : List Int) bt367.1 (bt367.1.length : Int) 0 bt367.1 bt367.2 bt373.1 bt373.2.1 0 bt373.2.2.2.1 bt373.2.2.2.2.1 bt373.2.2.2.2.2)))) = some (r1, r2, r3, r4, r5, r6, r7, r8, r9, r10) := by first | (rw [hy363]; with_reducible exact H) | (have H2_ := (Option.bind_some _ _).symm.trans H; rw [hy363]; with_reducible exact H2_) | (have H2_ := (Option.bind_some _ _).symm.trans H; with_reducible exact H2_) | with_reducible exact H | (rw [hy363]; exact H) | exact H
 have Ny363 := zA.mk hy363; clear hy363; replace H := Option.bind_eq_some_iff.mp H; obtain ⟨⟨t367, t370⟩, A60, H⟩ := H; replace H : ((h3_Config.f a1_0 a1_1 a1_2 a1_3 a1_4 a1_5).bind fun bt373 => ((r3_Break.f k t367 t370 bt373.1 bt373.2.1 0 bt373.2.2.2.1 bt373.2.2.2.2.1 bt373.2.2.2.2.2).bind fun bt381 => (stanzalaw22_lined.l0 k bt381.1 ([] : List Int) t367 (t367.length : Int) 0 t367 t370 bt373.1 bt373.2.1 0 bt373.2.2.2.1 bt373.2.2.2.2.1 bt373.2.2.2.2.2))) = some (r1, r2, r3, r4, r5, r6, r7, r8, r9, r10) := H
 have A6 := zA.mk A60; clear A60; replace H := Option.bind_eq_some_iff.mp H; obtain ⟨⟨t373, t374, t375, t376, t377, t378⟩, A70, H⟩ := H; replace H : ((r3_Break.f k t367 t370 t373 t374 0 t376 t377 t378).bind fun bt381 => (stanzalaw22_lined.l0 k bt381.1 ([] : List Int) t367 (t367.length : Int) 0 t367 t370 t373 t374 0 t376 t377 t378)) = some (r1, r2, r3, r4, r5, r6, r7, r8, r9, r10) := H
 have A7 := zA.mk A70; clear A70; replace H := Option.bind_eq_some_iff.mp H; obtain ⟨⟨t381, t384⟩, A80, H⟩ := H; replace H : (stanzalaw22_lined.l0 k t381 ([] : List Int) t367 (t367.length : Int) 0 t367 t370 t373 t374 0 t376 t377 t378) = some (r1, r2, r3, r4, r5, r6, r7, r8, r9, r10) := H; have A8 := zA.mk A80; clear A80; have H' := zA.mk H
 clear H; go_enter Try.func22, Try.ntmps22
 try go_wp2_with (first | ((with_reducible refine gate_dst (N := 3) rfl ?_); refine box_event ?hg (N := 3) ?hd (cs := #[.int .u8 a1_0, .int .u8 a1_1, .int .u8 a1_2, .int .u16 a1_3, .int .u16 a1_4, .float .f64 a1_5]) (t := 26) ?hr ?_; (case hd => rfl); (case hg => rfl); (case hr => first | (go_simp; done) | (go_simp; rfl)); intro gb360 hg w9 hbox hb; have BK360 := zA.mk (hbox); have GW360 := zA.mk ((by rw [hg]; exact (zE (aL HB)) : w.heap.size ≤ gb360)); replace HB := zA.mk (zH (aL HB) hb); have GE360 := GW360; clear hb hbox hg) | ((with_reducible refine gate_dst (N := 4) rfl ?_); refine box_event ?hg (N := 4) ?hd (cs := #[.slice none 0 0, .slice none 0 0]) (t := 31) ?hr ?_; (case hd => rfl); (case hg => rfl); (case hr => first | (go_simp; done) | (go_simp; rfl)); intro gb361 hg w10 hbox hb; have BK361 := zA.mk (hbox); have GW361 := zA.mk ((by rw [hg]; exact (zE (aL HB)) : w.heap.size ≤ gb361)); replace HB := zA.mk (zH (aL HB) hb); have GE361 := GW361; have NB360_361 := zA.mk ((by rw [hg]; exact Nat.ne_of_lt (blk_lt (aB BK360)) : gb360 ≠ gb361)); have NB361_360 := zA.mk ((by rw [hg]; exact Nat.ne_of_gt (blk_lt (g := gb360) (o := .cells #[.int .u8 a1_0, .int .u8 a1_1, .int .u8 a1_2, .int .u16 a1_3, .int .u16 a1_4, .float .f64 a1_5] 26 (0, 0)) (aB BK360)) : gb361 ≠ gb360)); replace BK360 := zA.mk (zB (aB BK360) hb); clear hb hbox hg) | ((with_reducible refine gate_dst (N := 6) rfl ?_); refine box_event ?hg (N := 6) ?hd (cs := #[.int .i64 0, .int .i64 0, .int .u8 0, .int .i64 0, .int .i64 0, .float .f64 0]) (t := 35) ?hr ?_; (case hd => rfl); (case hg => rfl); (case hr => first | (go_simp; done) | (go_simp; rfl)); intro gb362 hg w11 hbox hb; have BK362 := zA.mk (hbox); have GW362 := zA.mk ((by rw [hg]; exact (zE (aL HB)) : w.heap.size ≤ gb362)); replace HB := zA.mk (zH (aL HB) hb); have GE362 := GW362; have NB360_362 := zA.mk ((by rw [hg]; exact Nat.ne_of_lt (blk_lt (aB BK360)) : gb360 ≠ gb362)); have NB362_360 := zA.mk ((by rw [hg]; exact Nat.ne_of_gt (blk_lt (g := gb360) (o := .cells #[.int .u8 a1_0, .int .u8 a1_1, .int .u8 a1_2, .int .u16 a1_3, .int .u16 a1_4, .float .f64 a1_5] 26 (0, 0)) (aB BK360)) : gb362 ≠ gb360)); replace BK360 := zA.mk (zB (aB BK360) hb); have NB361_362 := zA.mk ((by rw [hg]; exact Nat.ne_of_lt (blk_lt (aB BK361)) : gb361 ≠ gb362)); have NB362_361 := zA.mk ((by rw [hg]; exact Nat.ne_of_gt (blk_lt (g := gb361) (o := .cells #[.slice none 0 0, .slice none 0 0] 31 (0, 0)) (aB BK361)) : gb362 ≠ gb361)); replace BK361 := zA.mk (zB (aB BK361) hb); clear hb hbox hg))
 replace BK360 := zA.mk (zD BK360.out); replace BK361 := zA.mk (zD BK361.out); replace BK362 := zA.mk (zD BK362.out); replace HB := zA.mk (below_drew1 HB.out); have q13 : ((ji3) : Int) ≤ ((l0.length : Int) : Int) := aD
 obtain ⟨i013, hi013, _, hsz13, _⟩ := info_parts info49; have hroom13 : l0.length ≤ c0 := HC0.out
 have hC13 : Kd.C k49 _ A0 l0.length l0 := HR0.out
 have hcut13 := cut_to (P := Try.prog) 22 49 .i64 Try.underlying22 hi013 A0 l0.length c0 (ji3) (aD) q13 hroom13; have hr13 := Kd.C_take (m := ((ji3) : Int).toNat) hC13 (by omega)
 have hy13 : y363.length = ((ji3) : Int).toNat := (by rw [Ny363.out, List.length_take]; omega)
 rw [← Ny363.out] at hr13; rw [← hy13] at hcut13; have HR366 := zA.mk hr13; have HC366 := zA.mk (show y363.length ≤ c0 from by omega)
 clear hr13 hC13 hroom13 hi013 hsz13; have KY13 := zA.mk hy13; clear hy13; replace q13 := eq_true q13; refine start_ (n := 12) (S := fun w' => w'.cell? ⟨gb360, 0, none⟩ = some (.int .u8 a1_0) ∧ w'.cell? ⟨gb360, 1, none⟩ = some (.int .u8 a1_1) ∧ w'.cell? ⟨gb360, 2, none⟩ = some (.int .u8 a1_2) ∧ w'.cell? ⟨gb360, 3, none⟩ = some (.int .u16 a1_3) ∧ w'.cell? ⟨gb360, 4, none⟩ = some (.int .u16 a1_4) ∧ w'.cell? ⟨gb360, 5, none⟩ = some (.float .f64 a1_5)) (ds := []) #[false, false, false, false, false, false, false, false, false, false, false, false] (by kernel_rfl) rfl rfl ⟨(zC BK360.out 0).trans rfl, (zC BK360.out 1).trans rfl, (zC BK360.out 2).trans rfl, (zC BK360.out 3).trans rfl, (zC BK360.out 4).trans rfl, (zC BK360.out 5).trans rfl⟩ (fun hHeld => ?_); refine with_tabW stanzalaw22_lined.tab1 stanzalaw22_lined.bits1 (fun HT_ HW_ => ?_)
 generalize w11.drew = w12 at BK360 BK361 BK362 HB HR366 hHeld ⊢
 refine aP 0 (some 16) (tf_ 1 12) HT_ ?_
 refine aP 1 (some 17) (tf_ 2 12) HT_ ?_
 refine aP 2 (some 18) (tf_ 3 12) HT_ ?_
 refine aP 3 (some 19) (tf_ 4 12) HT_ ?_
 refine aP 4 (some 20) (tf_ 5 12) HT_ ?_
 refine take_ (i := 6) (N := some 22) (v := ?_) (a' := ?_) (tb_ 95 12) rfl rfl (take_ofW HT_.out HW_.out (by kernel_rfl)) (fun _ _ _ h => h) (Or.inl ⟨by rfl, ?_⟩) hHeld ?_ ?_
 rotate_left
 ·rintro w' ⟨s0, s1, s2, s3, s4, s5⟩
  go_simp
  with_reducible rfl
 rotate_left
 ·simp only [Act.put, sA_, sB_, sC_, i64_w, i32_w]
  rfl
 refine join_ (σ := Value × Value × Nat × Nat) 2 (tb_ 1023 12) (fun s_ => [(21, .agg #[s_.1, s_.2.1]), (23, .agg #[.int .i64 t373, .int .i64 t374, .int .u8 t375, .int .i64 t376, .int .i64 t377, .float .f64 t378]), (8, .pointer (some ⟨s_.2.2.1, 0, none⟩)), (9, .pointer (some ⟨s_.2.2.2, 0, none⟩))]) (fun s_ w' => (w'.cell? ⟨gb360, 0, none⟩ = some (.int .u8 a1_0) ∧ w'.cell? ⟨gb360, 1, none⟩ = some (.int .u8 a1_1) ∧ w'.cell? ⟨gb360, 2, none⟩ = some (.int .u8 a1_2) ∧ w'.cell? ⟨gb360, 3, none⟩ = some (.int .u16 a1_3) ∧ w'.cell? ⟨gb360, 4, none⟩ = some (.int .u16 a1_4) ∧ w'.cell? ⟨gb360, 5, none⟩ = some (.float .f64 a1_5)) ∧ (Kd.R k61 61 w' w.heap.size (fun _ => True) s_.1 t367) ∧ (Kd.R (Kd.int .u8) 43 w' w.heap.size (fun _ => True) s_.2.1 t370) ∧ (w'.heap[gb360]? = some (.cells #[.int .u8 a1_0, .int .u8 a1_1, .int .u8 a1_2, .int .u16 a1_3, .int .u16 a1_4, .float .f64 a1_5] 26 (0, 0))) ∧ (w'.heap[gb361]? = some (.cells #[.slice none 0 0, .slice none 0 0] 31 (0, 0))) ∧ (w'.heap[gb362]? = some (.cells #[.int .i64 0, .int .i64 0, .int .u8 0, .int .i64 0, .int .i64 0, .float .f64 0] 35 (0, 0))) ∧ (w'.heap[s_.2.2.1]? = some (.cells #[.slice none 0 0, .slice none 0 0] 31 (0, 0))) ∧ (w'.heap[s_.2.2.2]? = some (.cells #[.int .i64 0, .int .i64 0, .int .u8 0, .int .i64 0, .int .i64 0, .float .f64 0] 35 (0, 0))) ∧ (w.heap.size ≤ s_.2.2.1) ∧ (w.heap.size ≤ s_.2.2.1) ∧ (gb360 ≠ s_.2.2.1) ∧ (s_.2.2.1 ≠ gb360) ∧ (gb361 ≠ s_.2.2.1) ∧ (s_.2.2.1 ≠ gb361) ∧ (gb362 ≠ s_.2.2.1) ∧ (s_.2.2.1 ≠ gb362) ∧ (s_.2.2.2 ≠ s_.2.2.1) ∧ (s_.2.2.1 ≠ s_.2.2.2) ∧ (w.heap.size ≤ s_.2.2.2) ∧ (w.heap.size ≤ s_.2.2.2) ∧ (gb360 ≠ s_.2.2.2) ∧ (s_.2.2.2 ≠ gb360) ∧ (gb361 ≠ s_.2.2.2) ∧ (s_.2.2.2 ≠ gb361) ∧ (gb362 ≠ s_.2.2.2) ∧ (s_.2.2.2 ≠ gb362) ∧ (Below w.heap.size w w')) ?_ ?_
 rotate_left
 ·intro hJ5_7_8_9
  refine par4_ (fuel := 2) (l' := (tb_ 1023 12)) (i1 := 5) (i3 := 7) (i4 := 8) (i5 := 9) (σ := Value × Value) (cs4 := #[.slice none 0 0, .slice none 0 0]) (t4 := 31) (cs5 := #[.int .i64 0, .int .i64 0, .int .u8 0, .int .i64 0, .int .i64 0, .float .f64 0]) (t5 := 35) (fun s_ => .agg #[s_.1, s_.2]) (.agg #[.int .i64 t373, .int .i64 t374, .int .u8 t375, .int .i64 t376, .int .i64 t377, .float .f64 t378]) (par4_of HT_.out (by kernel_rfl)) rfl rfl rfl rfl rfl rfl rfl rfl rfl rfl (by decide) rfl (fun w_ => (w_.cell? ⟨gb360, 0, none⟩ = some (.int .u8 a1_0) ∧ w_.cell? ⟨gb360, 1, none⟩ = some (.int .u8 a1_1) ∧ w_.cell? ⟨gb360, 2, none⟩ = some (.int .u8 a1_2) ∧ w_.cell? ⟨gb360, 3, none⟩ = some (.int .u16 a1_3) ∧ w_.cell? ⟨gb360, 4, none⟩ = some (.int .u16 a1_4) ∧ w_.cell? ⟨gb360, 5, none⟩ = some (.float .f64 a1_5)) ∧ (w_.heap[gb360]? = some (.cells #[.int .u8 a1_0, .int .u8 a1_1, .int .u8 a1_2, .int .u16 a1_3, .int .u16 a1_4, .float .f64 a1_5] 26 (0, 0))) ∧ (w_.heap[gb361]? = some (.cells #[.slice none 0 0, .slice none 0 0] 31 (0, 0))) ∧ (w_.heap[gb362]? = some (.cells #[.int .i64 0, .int .i64 0, .int .u8 0, .int .i64 0, .int .i64 0, .float .f64 0] 35 (0, 0))) ∧ (Below w.heap.size w w_)) ?pgrow (fun _ hP_ => hP_.1) (fun s_ w_ => (Kd.R k61 61 w_ w.heap.size (fun _ => True) s_.1 t367) ∧ (Kd.R (Kd.int .u8) 43 w_ w.heap.size (fun _ => True) s_.2 t370)) ?pF (fun g_ => (w.heap.size ≤ g_) ∧ (gb360 ≠ g_) ∧ (g_ ≠ gb360) ∧ (gb361 ≠ g_) ∧ (g_ ≠ gb361) ∧ (gb362 ≠ g_) ∧ (g_ ≠ gb362)) ?pNew ?pc1 ?pc3 ?pc4 ?pc5 ?pPhi ?pcont
  case pgrow =>
   intro w0_ w1_ hP_ hb_; obtain ⟨hS_, k0_, k1_, k2_, k3_⟩ := hP_; have BK360 := zA.mk (by first | exact Kd.zQ k0_ hb_ | exact zB k0_ hb_ | exact zH k0_ hb_); have BK361 := zA.mk (by first | exact Kd.zQ k1_ hb_ | exact zB k1_ hb_ | exact zH k1_ hb_); have BK362 := zA.mk (by first | exact Kd.zQ k2_ hb_ | exact zB k2_ hb_ | exact zH k2_ hb_); have HB := zA.mk (by first | exact Kd.zQ k3_ hb_ | exact zB k3_ hb_ | exact zH k3_ hb_)
   exact ⟨⟨(zC BK360.out 0).trans rfl, (zC BK360.out 1).trans rfl, (zC BK360.out 2).trans rfl, (zC BK360.out 3).trans rfl, (zC BK360.out 4).trans rfl, (zC BK360.out 5).trans rfl⟩, BK360.out, BK361.out, BK362.out, HB.out⟩
  case pF => intro s_ w0_ w1_ hP_ hb_; obtain ⟨f0_, f1_⟩ := hP_; exact ⟨(by first | exact Kd.zQ f0_ hb_ | exact zB f0_ hb_ | exact zH f0_ hb_), (by first | exact Kd.zQ f1_ hb_ | exact zB f1_ hb_ | exact zH f1_ hb_)⟩
  case pNew => intro w0_ hP_; obtain ⟨hS_, k0_, k1_, k2_, k3_⟩ := hP_; (try have l0_ := blk_lt k0_); (try have m0_ := zE k0_); (try have l1_ := blk_lt k1_); (try have m1_ := zE k1_); (try have l2_ := blk_lt k2_); (try have m2_ := zE k2_); (try have l3_ := blk_lt k3_); (try have m3_ := zE k3_); refine ⟨?_, ?_, ?_, ?_, ?_, ?_, ?_⟩ <;> omega
  case pc1 =>
   intro a_ W_ K_ hev_ hP_ h_; obtain ⟨hS_, k0_, k1_, k2_, k3_⟩ := hP_; have BK360 := zA.mk k0_; have BK361 := zA.mk k1_; have BK362 := zA.mk k2_; have HB := zA.mk k3_
   refine goes_ Try.func13 (by kernel_rfl) rfl #[.slice A0 y363.length c0] (by rfl) rfl rfl (by simp only [List.map_toArray, List.map_cons, List.map_nil]; first | rfl | (simp (disch := decide) only [hev_]; rfl) | (rw [hev_ _ (by decide) (by decide) (by decide) (by decide)]; rfl)) ?_
   with_reducible refine (h3_Para.calls k _ _ y363 t367 t370 _ ?side1 ?side2 A6.out).mono ?_
   (case side1 => exact aA HR366 HB)
   (case side2 => exact HC366.out)
   rintro e w14 ⟨v368, v371, rfl, ho0, ho1, hb⟩
   refine ⟨_, rfl, ?_⟩
   exact h_ (v368, v371) _ hb ⟨(Kd.zT ho0 (zE (aL HB))), (Kd.zT ho1 (zE (aL HB)))⟩
  case pc3 =>
   intro a_ W_ K_ hev_ hP_ h_; obtain ⟨hS_, k0_, k1_, k2_, k3_⟩ := hP_; have BK360 := zA.mk k0_; have BK361 := zA.mk k1_; have BK362 := zA.mk k2_; have HB := zA.mk k3_
   refine goes_ Try.func14 (by kernel_rfl) rfl #[.agg #[.int .u8 a1_0, .int .u8 a1_1, .int .u8 a1_2, .int .u16 a1_3, .int .u16 a1_4, .float .f64 a1_5]] (by rfl) rfl rfl (by simp only [List.map_toArray, List.map_cons, List.map_nil]; first | rfl | (simp (disch := decide) only [hev_]; rfl) | (rw [hev_ _ (by decide) (by decide) (by decide) (by decide)]; rfl)) ?_
   with_reducible refine (h3_Config.calls a1_0 a1_1 a1_2 a1_3 a1_4 a1_5 t373 t374 t375 t376 t377 t378 _ A7.out).mono ?_
   rintro e w16 ⟨rfl, hb⟩
   refine ⟨_, rfl, ?_⟩
   exact h_ _ hb
  case pc4 => intro a_ W_; first | (go_simp; done) | (go_simp; rfl)
  case pc5 => intro a_ W_; first | (go_simp; done) | (go_simp; rfl)
  case pPhi => exact ⟨hHeld, BK360.out, BK361.out, BK362.out, HB.out⟩
  case pcont => intro s_ gb379 gb380 w18 hP_ hF_ y4_ y5_ x4_ x5_ he_; obtain ⟨hS_, k0_, k1_, k2_, k3_⟩ := hP_; obtain ⟨v368, v371⟩ := s_; obtain ⟨f0_, f1_⟩ := hF_; exact hJ5_7_8_9 (v368, v371, gb379, gb380) _ ⟨hS_, f0_, f1_, k0_, k1_, k2_, y4_, y5_, x4_.1, x4_.1, x4_.2.1, x4_.2.2.1, x4_.2.2.2.1, x4_.2.2.2.2.1, x4_.2.2.2.2.2.1, x4_.2.2.2.2.2.2, (Ne.symm he_), he_, x5_.1, x5_.1, x5_.2.1, x5_.2.2.1, x5_.2.2.2.1, x5_.2.2.2.2.1, x5_.2.2.2.2.2.1, x5_.2.2.2.2.2.2, k3_⟩
 rintro ⟨v368, v371, gb379, gb380⟩ w18 ⟨hS_, h0_, h1_, h2_, h3_, h4_, h5_, h6_, h7_, h8_, h9_, h10_, h11_, h12_, h13_, h14_, h15_, h16_, h17_, h18_, h19_, h20_, h21_, h22_, h23_, h24_, h25_⟩
 have n0_ : zA (Kd.R k61 61 w18 w.heap.size (fun _ => True) v368 t367) := ⟨h0_⟩
 have n1_ : zA (Kd.R (Kd.int .u8) 43 w18 w.heap.size (fun _ => True) v371 t370) := ⟨h1_⟩
 have n2_ : zA (w18.heap[gb360]? = some (.cells #[.int .u8 a1_0, .int .u8 a1_1, .int .u8 a1_2, .int .u16 a1_3, .int .u16 a1_4, .float .f64 a1_5] 26 (0, 0))) := ⟨h2_⟩
 have n3_ : zA (w18.heap[gb361]? = some (.cells #[.slice none 0 0, .slice none 0 0] 31 (0, 0))) := ⟨h3_⟩
 have n4_ : zA (w18.heap[gb362]? = some (.cells #[.int .i64 0, .int .i64 0, .int .u8 0, .int .i64 0, .int .i64 0, .float .f64 0] 35 (0, 0))) := ⟨h4_⟩
 have n5_ : zA (w18.heap[gb379]? = some (.cells #[.slice none 0 0, .slice none 0 0] 31 (0, 0))) := ⟨h5_⟩
 have n6_ : zA (w18.heap[gb380]? = some (.cells #[.int .i64 0, .int .i64 0, .int .u8 0, .int .i64 0, .int .i64 0, .float .f64 0] 35 (0, 0))) := ⟨h6_⟩
 have n7_ : zA (w.heap.size ≤ gb379) := ⟨h7_⟩
 have n8_ : zA (w.heap.size ≤ gb379) := ⟨h8_⟩
 have n9_ : zA (gb360 ≠ gb379) := ⟨h9_⟩
 have n10_ : zA (gb379 ≠ gb360) := ⟨h10_⟩
 have n11_ : zA (gb361 ≠ gb379) := ⟨h11_⟩
 have n12_ : zA (gb379 ≠ gb361) := ⟨h12_⟩
 have n13_ : zA (gb362 ≠ gb379) := ⟨h13_⟩
 have n14_ : zA (gb379 ≠ gb362) := ⟨h14_⟩
 have n15_ : zA (gb380 ≠ gb379) := ⟨h15_⟩
 have n16_ : zA (gb379 ≠ gb380) := ⟨h16_⟩
 have n17_ : zA (w.heap.size ≤ gb380) := ⟨h17_⟩
 have n18_ : zA (w.heap.size ≤ gb380) := ⟨h18_⟩
 have n19_ : zA (gb360 ≠ gb380) := ⟨h19_⟩
 have n20_ : zA (gb380 ≠ gb360) := ⟨h20_⟩
 have n21_ : zA (gb361 ≠ gb380) := ⟨h21_⟩
 have n22_ : zA (gb380 ≠ gb361) := ⟨h22_⟩
 have n23_ : zA (gb362 ≠ gb380) := ⟨h23_⟩
 have n24_ : zA (gb380 ≠ gb362) := ⟨h24_⟩
 have n25_ : zA (Below w.heap.size w w18) := ⟨h25_⟩
 clear BK360 BK361 BK362 HB h0_ h1_ h2_ h3_ h4_ h5_ h6_ h7_ h8_ h9_ h10_ h11_ h12_ h13_ h14_ h15_ h16_ h17_ h18_ h19_ h20_ h21_ h22_ h23_ h24_ h25_; have HO369 := n0_; have HO372 := n1_; have BK360 := n2_; have BK361 := n3_; have BK362 := n4_; have BK379 := n5_; have BK380 := n6_; have GW379 := n7_; have GE379 := n8_; have NB360_379 := n9_; have NB379_360 := n10_; have NB361_379 := n11_; have NB379_361 := n12_; have NB362_379 := n13_; have NB379_362 := n14_; have NB380_379 := n15_; have NB379_380 := n16_; have GW380 := n17_; have GE380 := n18_; have NB360_380 := n19_; have NB380_360 := n20_; have NB361_380 := n21_; have NB380_361 := n22_; have NB362_380 := n23_; have NB380_362 := n24_; have HB := n25_; clear n0_ n1_ n2_ n3_ n4_ n5_ n6_ n7_ n8_ n9_ n10_ n11_ n12_ n13_ n14_ n15_ n16_ n17_ n18_ n19_ n20_ n21_ n22_ n23_ n24_ n25_; have hHeld : w18.cell? ⟨gb360, 0, none⟩ = some (.int .u8 a1_0) ∧ w18.cell? ⟨gb360, 1, none⟩ = some (.int .u8 a1_1) ∧ w18.cell? ⟨gb360, 2, none⟩ = some (.int .u8 a1_2) ∧ w18.cell? ⟨gb360, 3, none⟩ = some (.int .u16 a1_3) ∧ w18.cell? ⟨gb360, 4, none⟩ = some (.int .u16 a1_4) ∧ w18.cell? ⟨gb360, 5, none⟩ = some (.float .f64 a1_5) := hS_
 obtain ⟨Ao19, co19, eo19⟩ := Kd.zS HO369.out; (first | subst eo19 | (injection eo19 with f1_ f2_ f3_; have f4_ := f1_.symm; have f5_ := f3_.symm; clear f1_ f2_ f3_; subst f4_; subst f5_))
 obtain ⟨Ao21, co21, eo21⟩ := Kd.zS HO372.out; (first | subst eo21 | (injection eo21 with f1_ f2_ f3_; have f4_ := f1_.symm; have f5_ := f3_.symm; clear f1_ f2_ f3_; subst f4_; subst f5_))
 refine norm_ (a' := ?_) ?_ ?_
 rotate_left
 ·simp only [putAll, Act.put, sA_, sB_, sC_]
  rfl
 refine one_ (i := 10) (N := none) (tb_ 2047 12) rfl rfl (one_of HT_.out (by kernel_rfl)) (by decide) (fun K hK => ?_)
 have hs20 : w18.cell? ⟨gb379, 0, none⟩ = some (.slice none 0 0) := (zC BK379.out 0).trans rfl
 have hfs20 := blk_frozen BK379.out 0; have hns20_0 := NB360_379.out; have hns20_1 := NB361_379.out; have hns20_2 := NB362_379.out; have hns20_4 := NB380_379.out; have hms20_0 := NB379_360.out; have hms20_1 := NB379_361.out; have hms20_2 := NB379_362.out; have hms20_4 := NB379_380.out; have hs22 : w18.cell? ⟨gb379, 1, none⟩ = some (.slice none 0 0) := (zC BK379.out 1).trans rfl
 have hfs22 := blk_frozen BK379.out 1; have hns22_0 := NB360_379.out; have hns22_1 := NB361_379.out; have hns22_2 := NB362_379.out; have hns22_4 := NB380_379.out; have hms22_0 := NB379_360.out; have hms22_1 := NB379_361.out; have hms22_2 := NB379_362.out; have hms22_4 := NB379_380.out; refine skip_ (w1 := ?_) (by rfl) rfl ?_ ?_
 rotate_left
 ·go_simp
  rfl
 refine hK.out _ _ ⟨((cell_far (p := ⟨gb379, _, none⟩) NB360_379.out _).trans (((cell_far (p := ⟨gb379, _, none⟩) NB360_379.out _).trans (hHeld.1)))), ((cell_far (p := ⟨gb379, _, none⟩) NB360_379.out _).trans (((cell_far (p := ⟨gb379, _, none⟩) NB360_379.out _).trans (hHeld.2.1)))), ((cell_far (p := ⟨gb379, _, none⟩) NB360_379.out _).trans (((cell_far (p := ⟨gb379, _, none⟩) NB360_379.out _).trans (hHeld.2.2.1)))), ((cell_far (p := ⟨gb379, _, none⟩) NB360_379.out _).trans (((cell_far (p := ⟨gb379, _, none⟩) NB360_379.out _).trans (hHeld.2.2.2.1)))), ((cell_far (p := ⟨gb379, _, none⟩) NB360_379.out _).trans (((cell_far (p := ⟨gb379, _, none⟩) NB360_379.out _).trans (hHeld.2.2.2.2.1)))), ((cell_far (p := ⟨gb379, _, none⟩) NB360_379.out _).trans (((cell_far (p := ⟨gb379, _, none⟩) NB360_379.out _).trans (hHeld.2.2.2.2.2))))⟩ (fun hHeld => ?_)
 clear hK K; refine one_ (i := 11) (N := none) (tb_ 4095 12) rfl rfl (one_of HT_.out (by kernel_rfl)) (by decide) (fun K hK => ?_)
 have hs23 : w18.cell? ⟨gb380, 0, none⟩ = some (.int .i64 0) := (zC BK380.out 0).trans rfl
 have hfs23 := blk_frozen BK380.out 0; have hns23_0 := NB360_380.out; have hns23_1 := NB361_380.out; have hns23_2 := NB362_380.out; have hns23_3 := NB379_380.out; have hms23_0 := NB380_360.out; have hms23_1 := NB380_361.out; have hms23_2 := NB380_362.out; have hms23_3 := NB380_379.out; have hs24 : w18.cell? ⟨gb380, 1, none⟩ = some (.int .i64 0) := (zC BK380.out 1).trans rfl
 have hfs24 := blk_frozen BK380.out 1; have hns24_0 := NB360_380.out; have hns24_1 := NB361_380.out; have hns24_2 := NB362_380.out; have hns24_3 := NB379_380.out; have hms24_0 := NB380_360.out; have hms24_1 := NB380_361.out; have hms24_2 := NB380_362.out; have hms24_3 := NB380_379.out; have hs25 : w18.cell? ⟨gb380, 2, none⟩ = some (.int .u8 0) := (zC BK380.out 2).trans rfl
 have hfs25 := blk_frozen BK380.out 2; have hns25_0 := NB360_380.out; have hns25_1 := NB361_380.out; have hns25_2 := NB362_380.out; have hns25_3 := NB379_380.out; have hms25_0 := NB380_360.out; have hms25_1 := NB380_361.out; have hms25_2 := NB380_362.out; have hms25_3 := NB380_379.out; have hs26 : w18.cell? ⟨gb380, 3, none⟩ = some (.int .i64 0) := (zC BK380.out 3).trans rfl
 have hfs26 := blk_frozen BK380.out 3; have hns26_0 := NB360_380.out; have hns26_1 := NB361_380.out; have hns26_2 := NB362_380.out; have hns26_3 := NB379_380.out; have hms26_0 := NB380_360.out; have hms26_1 := NB380_361.out; have hms26_2 := NB380_362.out; have hms26_3 := NB380_379.out; have hs27 : w18.cell? ⟨gb380, 4, none⟩ = some (.int .i64 0) := (zC BK380.out 4).trans rfl
 have hfs27 := blk_frozen BK380.out 4; have hns27_0 := NB360_380.out; have hns27_1 := NB361_380.out; have hns27_2 := NB362_380.out; have hns27_3 := NB379_380.out; have hms27_0 := NB380_360.out; have hms27_1 := NB380_361.out; have hms27_2 := NB380_362.out; have hms27_3 := NB380_379.out; have hs28 : w18.cell? ⟨gb380, 5, none⟩ = some (.float .f64 0) := (zC BK380.out 5).trans rfl
 have hfs28 := blk_frozen BK380.out 5; have hns28_0 := NB360_380.out; have hns28_1 := NB361_380.out; have hns28_2 := NB362_380.out; have hns28_3 := NB379_380.out; have hms28_0 := NB380_360.out; have hms28_1 := NB380_361.out; have hms28_2 := NB380_362.out; have hms28_3 := NB380_379.out; refine skip_ (w1 := ?_) (by rfl) rfl ?_ ?_
 rotate_left
 ·go_simp
  rfl
 refine hK.out _ _ ⟨((cell_far (p := ⟨gb380, _, none⟩) NB360_380.out _).trans (((cell_far (p := ⟨gb380, _, none⟩) NB360_380.out _).trans (((cell_far (p := ⟨gb380, _, none⟩) NB360_380.out _).trans (((cell_far (p := ⟨gb380, _, none⟩) NB360_380.out _).trans (((cell_far (p := ⟨gb380, _, none⟩) NB360_380.out _).trans (((cell_far (p := ⟨gb380, _, none⟩) NB360_380.out _).trans (hHeld.1)))))))))))), ((cell_far (p := ⟨gb380, _, none⟩) NB360_380.out _).trans (((cell_far (p := ⟨gb380, _, none⟩) NB360_380.out _).trans (((cell_far (p := ⟨gb380, _, none⟩) NB360_380.out _).trans (((cell_far (p := ⟨gb380, _, none⟩) NB360_380.out _).trans (((cell_far (p := ⟨gb380, _, none⟩) NB360_380.out _).trans (((cell_far (p := ⟨gb380, _, none⟩) NB360_380.out _).trans (hHeld.2.1)))))))))))), ((cell_far (p := ⟨gb380, _, none⟩) NB360_380.out _).trans (((cell_far (p := ⟨gb380, _, none⟩) NB360_380.out _).trans (((cell_far (p := ⟨gb380, _, none⟩) NB360_380.out _).trans (((cell_far (p := ⟨gb380, _, none⟩) NB360_380.out _).trans (((cell_far (p := ⟨gb380, _, none⟩) NB360_380.out _).trans (((cell_far (p := ⟨gb380, _, none⟩) NB360_380.out _).trans (hHeld.2.2.1)))))))))))), ((cell_far (p := ⟨gb380, _, none⟩) NB360_380.out _).trans (((cell_far (p := ⟨gb380, _, none⟩) NB360_380.out _).trans (((cell_far (p := ⟨gb380, _, none⟩) NB360_380.out _).trans (((cell_far (p := ⟨gb380, _, none⟩) NB360_380.out _).trans (((cell_far (p := ⟨gb380, _, none⟩) NB360_380.out _).trans (((cell_far (p := ⟨gb380, _, none⟩) NB360_380.out _).trans (hHeld.2.2.2.1)))))))))))), ((cell_far (p := ⟨gb380, _, none⟩) NB360_380.out _).trans (((cell_far (p := ⟨gb380, _, none⟩) NB360_380.out _).trans (((cell_far (p := ⟨gb380, _, none⟩) NB360_380.out _).trans (((cell_far (p := ⟨gb380, _, none⟩) NB360_380.out _).trans (((cell_far (p := ⟨gb380, _, none⟩) NB360_380.out _).trans (((cell_far (p := ⟨gb380, _, none⟩) NB360_380.out _).trans (hHeld.2.2.2.2.1)))))))))))), ((cell_far (p := ⟨gb380, _, none⟩) NB360_380.out _).trans (((cell_far (p := ⟨gb380, _, none⟩) NB360_380.out _).trans (((cell_far (p := ⟨gb380, _, none⟩) NB360_380.out _).trans (((cell_far (p := ⟨gb380, _, none⟩) NB360_380.out _).trans (((cell_far (p := ⟨gb380, _, none⟩) NB360_380.out _).trans (((cell_far (p := ⟨gb380, _, none⟩) NB360_380.out _).trans (hHeld.2.2.2.2.2))))))))))))⟩ (fun hHeld => ?_)
 clear hK K; refine done_ (done_of HT_.out (by kernel_rfl)) ?_
 have hnb29 := NB380_360.out; have hnc29 := NB360_380.out; have hnb30 := NB380_361.out; have hnc30 := NB361_380.out; have hnb31 := NB380_362.out; have hnc31 := NB362_380.out; have hnb32 := NB380_379.out; have hnc32 := NB379_380.out; obtain ⟨hcz33_0, hcz33_1, hcz33_2, hcz33_3, hcz33_4, hcz33_5, hfz33_0, hfz33_1, hfz33_2, hfz33_3, hfz33_4, hfz33_5⟩ := aC6 BK380; try go_wp2_with (first | ((with_reducible refine gate_store (t := 33) (p := 24) rfl ?_); refine store_event (t := 33) (p := 24) (v := ?vo_w34) (w1 := (((((((((w18.setCell ⟨gb379, 0, none⟩ (.slice Ao19 t367.length co19)).setCell ⟨gb379, 1, none⟩ (.slice Ao21 t370.length co21)).setCell ⟨gb380, 0, none⟩ (.int .i64 t373)).setCell ⟨gb380, 1, none⟩ (.int .i64 t374)).setCell ⟨gb380, 2, none⟩ (.int .u8 t375)).setCell ⟨gb380, 3, none⟩ (.int .i64 t376)).setCell ⟨gb380, 4, none⟩ (.int .i64 t377)).setCell ⟨gb380, 5, none⟩ (.float .f64 t378)).setCell ⟨gb380, 2, none⟩ (.int .u8 0))) ?hg ?ho ?hn ?hr ?_; (case ho => rfl); (case hg => rfl); (case hn => rfl); (case hr => first | (go_simp; done) | (go_simp; rfl)); intro w34 hw; have n0_ : zA (Kd.R k61 61 w34 w.heap.size (fun _ => True) (.slice Ao19 t367.length co19) t367) := ⟨(by rw [hw]; exact (by (with_reducible repeat (first | apply Kd.zI | apply Kd.zJ | apply Kd.zK)); exact Kd.zU (Kd.zR (p := ⟨gb380, 2, none⟩) (Kd.zR (p := ⟨gb380, 5, none⟩) (Kd.zR (p := ⟨gb380, 4, none⟩) (Kd.zR (p := ⟨gb380, 3, none⟩) (Kd.zR (p := ⟨gb380, 2, none⟩) (Kd.zR (p := ⟨gb380, 1, none⟩) (Kd.zR (p := ⟨gb380, 0, none⟩) (Kd.zR (p := ⟨gb379, 1, none⟩) (Kd.zR (p := ⟨gb379, 0, none⟩) (Kd.zV (Kd.zV HO369.out BK379.out (by decide)) BK380.out (by decide)) (fun _ hk => hk.1.2) (.slice Ao19 t367.length co19)) (fun _ hk => hk.1.2) (.slice Ao21 t370.length co21)) (fun _ hk => hk.2) (.int .i64 t373)) (fun _ hk => hk.2) (.int .i64 t374)) (fun _ hk => hk.2) (.int .u8 t375)) (fun _ hk => hk.2) (.int .i64 t376)) (fun _ hk => hk.2) (.int .i64 t377)) (fun _ hk => hk.2) (.float .f64 t378)) (fun _ hk => hk.2) (.int .u8 0)) (fun _ hk => trivial)))⟩; have n1_ : zA (Kd.R (Kd.int .u8) 43 w34 w.heap.size (fun _ => True) (.slice Ao21 t370.length co21) t370) := ⟨(by rw [hw]; exact (by (with_reducible repeat (first | apply Kd.zI | apply Kd.zJ | apply Kd.zK)); exact Kd.zU (Kd.zR (p := ⟨gb380, 2, none⟩) (Kd.zR (p := ⟨gb380, 5, none⟩) (Kd.zR (p := ⟨gb380, 4, none⟩) (Kd.zR (p := ⟨gb380, 3, none⟩) (Kd.zR (p := ⟨gb380, 2, none⟩) (Kd.zR (p := ⟨gb380, 1, none⟩) (Kd.zR (p := ⟨gb380, 0, none⟩) (Kd.zR (p := ⟨gb379, 1, none⟩) (Kd.zR (p := ⟨gb379, 0, none⟩) (Kd.zV (Kd.zV HO372.out BK379.out (by decide)) BK380.out (by decide)) (fun _ hk => hk.1.2) (.slice Ao19 t367.length co19)) (fun _ hk => hk.1.2) (.slice Ao21 t370.length co21)) (fun _ hk => hk.2) (.int .i64 t373)) (fun _ hk => hk.2) (.int .i64 t374)) (fun _ hk => hk.2) (.int .u8 t375)) (fun _ hk => hk.2) (.int .i64 t376)) (fun _ hk => hk.2) (.int .i64 t377)) (fun _ hk => hk.2) (.float .f64 t378)) (fun _ hk => hk.2) (.int .u8 0)) (fun _ hk => trivial)))⟩; have n2_ : zA (w34.heap[gb360]? = some (.cells #[.int .u8 a1_0, .int .u8 a1_1, .int .u8 a1_2, .int .u16 a1_3, .int .u16 a1_4, .float .f64 a1_5] 26 (0, 0))) := ⟨(by rw [hw]; exact (aB BK360))⟩; have n3_ : zA (w34.heap[gb361]? = some (.cells #[.slice none 0 0, .slice none 0 0] 31 (0, 0))) := ⟨(by rw [hw]; exact (aB BK361))⟩; have n4_ : zA (w34.heap[gb362]? = some (.cells #[.int .i64 0, .int .i64 0, .int .u8 0, .int .i64 0, .int .i64 0, .float .f64 0] 35 (0, 0))) := ⟨(by rw [hw]; exact (aB BK362))⟩; have n5_ : zA (w34.heap[gb379]? = some (.cells #[.slice Ao19 t367.length co19, .slice Ao21 t370.length co21] 31 (0, 0))) := ⟨(by rw [hw]; exact (by (with_reducible repeat (first | refine zF ?_ _ | refine zD ?_ | refine zG ?_ _)); refine blk_far ?_ NB379_380.out _; (with_reducible repeat (first | refine zF ?_ _ | refine zD ?_ | refine zG ?_ _)); refine blk_far ?_ NB379_380.out _; (with_reducible repeat (first | refine zF ?_ _ | refine zD ?_ | refine zG ?_ _)); refine blk_far ?_ NB379_380.out _; (with_reducible repeat (first | refine zF ?_ _ | refine zD ?_ | refine zG ?_ _)); refine blk_far ?_ NB379_380.out _; (with_reducible repeat (first | refine zF ?_ _ | refine zD ?_ | refine zG ?_ _)); refine blk_far ?_ NB379_380.out _; (with_reducible repeat (first | refine zF ?_ _ | refine zD ?_ | refine zG ?_ _)); refine blk_far ?_ NB379_380.out _; (with_reducible repeat (first | refine zF ?_ _ | refine zD ?_ | refine zG ?_ _)); refine blk_far ?_ NB379_380.out _; (with_reducible repeat (first | refine zF ?_ _ | refine zD ?_ | refine zG ?_ _)); refine blk_put (cs := #[.slice Ao19 t367.length co19, .slice none 0 0]) ?_ 1 _ rfl; (with_reducible repeat (first | refine zF ?_ _ | refine zD ?_ | refine zG ?_ _)); refine blk_put (cs := #[.slice none 0 0, .slice none 0 0]) ?_ 0 _ rfl; (with_reducible repeat (first | refine zF ?_ _ | refine zD ?_ | refine zG ?_ _)); exact BK379.out))⟩; have n6_ : zA (w34.heap[gb380]? = some (.cells #[.int .i64 t373, .int .i64 t374, .int .u8 0, .int .i64 t376, .int .i64 t377, .float .f64 t378] 35 (0, 0))) := ⟨(by rw [hw]; exact (by (with_reducible repeat (first | refine zF ?_ _ | refine zD ?_ | refine zG ?_ _)); refine blk_put (cs := #[.int .i64 t373, .int .i64 t374, .int .u8 t375, .int .i64 t376, .int .i64 t377, .float .f64 t378]) ?_ 2 _ rfl; (with_reducible repeat (first | refine zF ?_ _ | refine zD ?_ | refine zG ?_ _)); refine blk_put (cs := #[.int .i64 t373, .int .i64 t374, .int .u8 t375, .int .i64 t376, .int .i64 t377, .float .f64 0]) ?_ 5 _ rfl; (with_reducible repeat (first | refine zF ?_ _ | refine zD ?_ | refine zG ?_ _)); refine blk_put (cs := #[.int .i64 t373, .int .i64 t374, .int .u8 t375, .int .i64 t376, .int .i64 0, .float .f64 0]) ?_ 4 _ rfl; (with_reducible repeat (first | refine zF ?_ _ | refine zD ?_ | refine zG ?_ _)); refine blk_put (cs := #[.int .i64 t373, .int .i64 t374, .int .u8 t375, .int .i64 0, .int .i64 0, .float .f64 0]) ?_ 3 _ rfl; (with_reducible repeat (first | refine zF ?_ _ | refine zD ?_ | refine zG ?_ _)); refine blk_put (cs := #[.int .i64 t373, .int .i64 t374, .int .u8 0, .int .i64 0, .int .i64 0, .float .f64 0]) ?_ 2 _ rfl; (with_reducible repeat (first | refine zF ?_ _ | refine zD ?_ | refine zG ?_ _)); refine blk_put (cs := #[.int .i64 t373, .int .i64 0, .int .u8 0, .int .i64 0, .int .i64 0, .float .f64 0]) ?_ 1 _ rfl; (with_reducible repeat (first | refine zF ?_ _ | refine zD ?_ | refine zG ?_ _)); refine blk_put (cs := #[.int .i64 0, .int .i64 0, .int .u8 0, .int .i64 0, .int .i64 0, .float .f64 0]) ?_ 0 _ rfl; (with_reducible repeat (first | refine zF ?_ _ | refine zD ?_ | refine zG ?_ _)); refine blk_far ?_ NB380_379.out _; (with_reducible repeat (first | refine zF ?_ _ | refine zD ?_ | refine zG ?_ _)); refine blk_far ?_ NB380_379.out _; (with_reducible repeat (first | refine zF ?_ _ | refine zD ?_ | refine zG ?_ _)); exact BK380.out))⟩; have n7_ : zA (Below w.heap.size w w34) := ⟨(by rw [hw]; exact (aL HB))⟩; clear hw; clear HO369; clear HO372; clear BK360; clear BK361; clear BK362; clear BK379; clear BK380; clear HB; have HO369 := n0_; have HO372 := n1_; have BK360 := n2_; have BK361 := n3_; have BK362 := n4_; have BK379 := n5_; have BK380 := n6_; have HB := n7_; clear n0_ n1_ n2_ n3_ n4_ n5_ n6_ n7_; have hnb35 := NB379_360.out; have hnc35 := NB360_379.out; have hnb36 := NB379_361.out; have hnc36 := NB361_379.out; have hnb37 := NB379_362.out; have hnc37 := NB362_379.out; obtain ⟨hcz38_0, hcz38_1, hfz38_0, hfz38_1⟩ := aC2 BK379; obtain ⟨hcz39_0, hcz39_1, hcz39_2, hcz39_3, hcz39_4, hcz39_5, hfz39_0, hfz39_1, hfz39_2, hfz39_3, hfz39_4, hfz39_5⟩ := aC6 BK380) | ((with_reducible refine gate_callee (f := 34) rfl ?_); refine goesL_ (some 28) rfl rfl Try.func34 (by kernel_rfl) rfl #[.agg #[.slice Ao19 t367.length co19, .slice Ao21 t370.length co21], .agg #[.int .i64 t373, .int .i64 t374, .int .u8 0, .int .i64 t376, .int .i64 t377, .float .f64 t378]] rfl aT ?_; (with_reducible refine (r3_Break.calls k _ _ t367 _ _ t370 t373 t374 0 t376 t377 t378 t381 t384 _ ?side1 ?side2 ?side3 ?side4 A8.out).mono ?_); (case side1 => exact aF HO369); (case side2 => exact (Kd.zP HO369.out).2.1); (case side3 => exact aF HO372); (case side4 => exact (Kd.zP HO372.out).2.1); rintro e w40 ⟨v382, rfl, ho0, hb⟩; refine ⟨_, rfl, ?_⟩; replace HO369 := zA.mk (Kd.zQ (aR HO369) hb); replace HO372 := zA.mk (Kd.zQ (aR HO372) hb); have HO383 := zA.mk (Kd.zT ho0 (zE (aL HB))); replace BK360 := zA.mk (zB (aB BK360) hb); replace BK361 := zA.mk (zB (aB BK361) hb); replace BK362 := zA.mk (zB (aB BK362) hb); replace BK379 := zA.mk (zB (aB BK379) hb); replace BK380 := zA.mk (zB (aB BK380) hb); replace HB := zA.mk (zH (aL HB) hb); (try clear hb); (try clear hb2); (try clear hk); (try clear hi); (try clear ho0); obtain ⟨hcz41_0, hcz41_1, hfz41_0, hfz41_1⟩ := aC2 BK379))
 (try simp only [hji3])
 go_loopg [12, 34] k (fun kq v12 v34 w' => ∃ (x12_1 : List Int) (x34_1 : Int), v34 = .int .i64 x34_1 ∧ zA (stanzalaw22_lined.l0 kq t381 x12_1 t367 (t367.length : Int) x34_1 t367 t370 t373 t374 0 t376 t377 t378 = some (r1, r2, r3, r4, r5, r6, r7, r8, r9, r10)) ∧ zA (kq ≤ k) ∧ zA (Kd.R k45 45 w' w.heap.size (fun _ => True) v382 t381) ∧ zA (Kd.R (Kd.int .u8) 5 w' w.heap.size (fun _ => True) v12 x12_1) ∧ zA (Kd.R k61 61 w' w.heap.size (fun _ => True) (.slice Ao19 t367.length co19) t367) ∧ zA (Kd.R k61 61 w' w.heap.size (fun _ => True) (.slice Ao19 t367.length co19) t367) ∧ zA (Kd.R (Kd.int .u8) 43 w' w.heap.size (fun _ => True) (.slice Ao21 t370.length co21) t370) ∧ zA (w'.heap[gb360]? = some (.cells #[.int .u8 a1_0, .int .u8 a1_1, .int .u8 a1_2, .int .u16 a1_3, .int .u16 a1_4, .float .f64 a1_5] 26 (0, 0))) ∧ zA (w'.heap[gb361]? = some (.cells #[(.slice none 0 0), (.slice none 0 0)] 31 (0, 0))) ∧ zA (w'.heap[gb362]? = some (.cells #[.int .i64 0, .int .i64 0, .int .u8 0, .int .i64 0, .int .i64 0, .float .f64 0] 35 (0, 0))) ∧ zA (w'.heap[gb379]? = some (.cells #[(.slice Ao19 t367.length co19), (.slice Ao21 t370.length co21)] 31 (0, 0))) ∧ zA (w'.heap[gb380]? = some (.cells #[.int .i64 t373, .int .i64 t374, .int .u8 0, .int .i64 t376, .int .i64 t377, .float .f64 t378] 35 (0, 0))) ∧ zA (Below w.heap.size w w'))
 case atStart => exact ⟨(([] : List Int)), (0), aZ, H', ⟨Nat.le_refl _⟩, ⟨aR HO383⟩, ⟨by first | exact Kd.R_nil _ _ _ _ _ | exact Kd.N_nil _ _ _ _ _ | exact Kd.V_nil _ _ _ _ _ | exact Kd.Q_nil _ _ _ _ _ | exact Kd.S_nil _ _ _ _ _⟩, ⟨aR HO369⟩, ⟨aR HO369⟩, ⟨aR HO372⟩, ⟨aB BK360⟩, ⟨aB BK361⟩, ⟨aB BK362⟩, ⟨aB BK379⟩, ⟨aB BK380⟩, ⟨aL HB⟩⟩
 clear H'; obtain ⟨x12_1, x34_1, rfl, HA, HK1, HO_10, HO_12, HO_32, HO_380000, HO_380001, BK360, BK361, BK362, BK379, BK380, HB⟩ := hrel; cases gk with
 | zero => exact absurd HA.out (by simp [stanzalaw22_lined.l0])
 | succ k1 =>
  have H := HA.out; clear HA; simp only [stanzalaw22_lined.l0] at H; by_cases c42 : x34_1 < (t367.length : Int)
  rotate_left
  ·rw [if_neg c42] at H
   have c42b0 : decide (x34_1 < (t367.length : Int)) = false := decide_eq_false c42
   clear c42; simp only [Option.some.injEq, Prod.mk.injEq] at H; obtain ⟨rfl, rfl, rfl, rfl, rfl, rfl, rfl, rfl, rfl, rfl⟩ := H; try go_wp2
   replace HO_10 := zA.mk (Kd.zK HO_10.out); replace HO_12 := zA.mk (Kd.zK HO_12.out); replace HO_32 := zA.mk (Kd.zK HO_32.out); replace HO_380000 := zA.mk (Kd.zK HO_380000.out); replace HO_380001 := zA.mk (Kd.zK HO_380001.out); replace BK360 := zA.mk (zD BK360.out); replace BK361 := zA.mk (zD BK361.out); replace BK362 := zA.mk (zD BK362.out); replace BK379 := zA.mk (zD BK379.out); replace BK380 := zA.mk (zD BK380.out); replace HB := zA.mk (below_drew1 HB.out); refine start_ (n := 8) (S := fun w' => w'.cell? ⟨gb379, 0, none⟩ = some (.slice Ao19 t367.length co19) ∧ w'.cell? ⟨gb379, 1, none⟩ = some (.slice Ao21 t370.length co21) ∧ w'.cell? ⟨gb380, 0, none⟩ = some (.int .i64 t373) ∧ w'.cell? ⟨gb380, 1, none⟩ = some (.int .i64 t374) ∧ w'.cell? ⟨gb380, 2, none⟩ = some (.int .u8 0) ∧ w'.cell? ⟨gb380, 3, none⟩ = some (.int .i64 t376) ∧ w'.cell? ⟨gb380, 4, none⟩ = some (.int .i64 t377) ∧ w'.cell? ⟨gb380, 5, none⟩ = some (.float .f64 t378)) (ds := []) #[false, false, false, false, false, false, false, false] (by kernel_rfl) rfl rfl ⟨(zC BK379.out 0).trans rfl, (zC BK379.out 1).trans rfl, (zC BK380.out 0).trans rfl, (zC BK380.out 1).trans rfl, (zC BK380.out 2).trans rfl, (zC BK380.out 3).trans rfl, (zC BK380.out 4).trans rfl, (zC BK380.out 5).trans rfl⟩ (fun hHeld => ?_); refine with_tabW stanzalaw22_lined.tab14 stanzalaw22_lined.bits14 (fun HT_ HW_ => ?_)
   generalize wr.drew = w57 at HO_10 HO_12 HO_32 HO_380000 HO_380001 BK360 BK361 BK362 BK379 BK380 HB hHeld ⊢
   refine aP 1 (some 56) (tb_ 2 8) HT_ ?_
   refine aP 3 (some 58) (tb_ 10 8) HT_ ?_
   refine take_ (i := 0) (N := some 55) (v := ?_) (a' := ?_) (tb_ 11 8) rfl rfl (take_ofW HT_.out HW_.out (by kernel_rfl)) (fun _ _ _ h => h) (Or.inl ⟨by rfl, ?_⟩) hHeld ?_ ?_
   rotate_left
   ·rintro w' ⟨s0, s1, s2, s3, s4, s5, s6, s7⟩
    go_simp
    with_reducible rfl
   rotate_left
   ·simp only [Act.put, sA_, sB_, sC_, i64_w, i32_w]
    rfl
   refine take_ (i := 2) (N := some 57) (v := ?_) (a' := ?_) (tf_ 4 8) rfl rfl (take_ofW HT_.out HW_.out (by kernel_rfl)) (fun _ _ _ h => h) (Or.inl ⟨by rfl, ?_⟩) hHeld ?_ ?_
   rotate_left
   ·rintro w' ⟨s0, s1, s2, s3, s4, s5, s6, s7⟩
    go_simp
    with_reducible rfl
   rotate_left
   ·simp only [Act.put, sA_, sB_, sC_, i64_w, i32_w]
    rfl
   refine one_ (i := 4) (N := none) (tb_ 31 8) rfl rfl (one_of HT_.out (by kernel_rfl)) (by decide) (fun K hK => ?_)
   have hs58 : w57.cell? ⟨gb361, 0, none⟩ = some (.slice none 0 0) := (zC BK361.out 0).trans rfl
   have hfs58 := blk_frozen BK361.out 0; have hns58_0 := NB360_361.out; have hns58_2 := NB362_361.out; have hns58_3 := NB379_361.out; have hns58_4 := NB380_361.out; have hms58_0 := NB361_360.out; have hms58_2 := NB361_362.out; have hms58_3 := NB361_379.out; have hms58_4 := NB361_380.out; have hs59 : w57.cell? ⟨gb361, 1, none⟩ = some (.slice none 0 0) := (zC BK361.out 1).trans rfl
   have hfs59 := blk_frozen BK361.out 1; have hns59_0 := NB360_361.out; have hns59_2 := NB362_361.out; have hns59_3 := NB379_361.out; have hns59_4 := NB380_361.out; have hms59_0 := NB361_360.out; have hms59_2 := NB361_362.out; have hms59_3 := NB361_379.out; have hms59_4 := NB361_380.out; refine skip_ (w1 := ?_) (by rfl) rfl ?_ ?_
   rotate_left
   ·go_simp
    rfl
   refine hK.out _ _ ⟨((cell_far (p := ⟨gb361, _, none⟩) NB379_361.out _).trans (((cell_far (p := ⟨gb361, _, none⟩) NB379_361.out _).trans (hHeld.1)))), ((cell_far (p := ⟨gb361, _, none⟩) NB379_361.out _).trans (((cell_far (p := ⟨gb361, _, none⟩) NB379_361.out _).trans (hHeld.2.1)))), ((cell_far (p := ⟨gb361, _, none⟩) NB380_361.out _).trans (((cell_far (p := ⟨gb361, _, none⟩) NB380_361.out _).trans (hHeld.2.2.1)))), ((cell_far (p := ⟨gb361, _, none⟩) NB380_361.out _).trans (((cell_far (p := ⟨gb361, _, none⟩) NB380_361.out _).trans (hHeld.2.2.2.1)))), ((cell_far (p := ⟨gb361, _, none⟩) NB380_361.out _).trans (((cell_far (p := ⟨gb361, _, none⟩) NB380_361.out _).trans (hHeld.2.2.2.2.1)))), ((cell_far (p := ⟨gb361, _, none⟩) NB380_361.out _).trans (((cell_far (p := ⟨gb361, _, none⟩) NB380_361.out _).trans (hHeld.2.2.2.2.2.1)))), ((cell_far (p := ⟨gb361, _, none⟩) NB380_361.out _).trans (((cell_far (p := ⟨gb361, _, none⟩) NB380_361.out _).trans (hHeld.2.2.2.2.2.2.1)))), ((cell_far (p := ⟨gb361, _, none⟩) NB380_361.out _).trans (((cell_far (p := ⟨gb361, _, none⟩) NB380_361.out _).trans (hHeld.2.2.2.2.2.2.2))))⟩ (fun hHeld => ?_)
   clear hK K; refine aP 5 (some 5) (tf_ 6 8) HT_ ?_
   refine one_ (i := 6) (N := none) (tb_ 127 8) rfl rfl (one_of HT_.out (by kernel_rfl)) (by decide) (fun K hK => ?_)
   have hs60 : w57.cell? ⟨gb362, 0, none⟩ = some (.int .i64 0) := (zC BK362.out 0).trans rfl
   have hfs60 := blk_frozen BK362.out 0; have hns60_0 := NB360_362.out; have hns60_1 := NB361_362.out; have hns60_3 := NB379_362.out; have hns60_4 := NB380_362.out; have hms60_0 := NB362_360.out; have hms60_1 := NB362_361.out; have hms60_3 := NB362_379.out; have hms60_4 := NB362_380.out; have hs61 : w57.cell? ⟨gb362, 1, none⟩ = some (.int .i64 0) := (zC BK362.out 1).trans rfl
   have hfs61 := blk_frozen BK362.out 1; have hns61_0 := NB360_362.out; have hns61_1 := NB361_362.out; have hns61_3 := NB379_362.out; have hns61_4 := NB380_362.out; have hms61_0 := NB362_360.out; have hms61_1 := NB362_361.out; have hms61_3 := NB362_379.out; have hms61_4 := NB362_380.out; have hs62 : w57.cell? ⟨gb362, 2, none⟩ = some (.int .u8 0) := (zC BK362.out 2).trans rfl
   have hfs62 := blk_frozen BK362.out 2; have hns62_0 := NB360_362.out; have hns62_1 := NB361_362.out; have hns62_3 := NB379_362.out; have hns62_4 := NB380_362.out; have hms62_0 := NB362_360.out; have hms62_1 := NB362_361.out; have hms62_3 := NB362_379.out; have hms62_4 := NB362_380.out; have hs63 : w57.cell? ⟨gb362, 3, none⟩ = some (.int .i64 0) := (zC BK362.out 3).trans rfl
   have hfs63 := blk_frozen BK362.out 3; have hns63_0 := NB360_362.out; have hns63_1 := NB361_362.out; have hns63_3 := NB379_362.out; have hns63_4 := NB380_362.out; have hms63_0 := NB362_360.out; have hms63_1 := NB362_361.out; have hms63_3 := NB362_379.out; have hms63_4 := NB362_380.out; have hs64 : w57.cell? ⟨gb362, 4, none⟩ = some (.int .i64 0) := (zC BK362.out 4).trans rfl
   have hfs64 := blk_frozen BK362.out 4; have hns64_0 := NB360_362.out; have hns64_1 := NB361_362.out; have hns64_3 := NB379_362.out; have hns64_4 := NB380_362.out; have hms64_0 := NB362_360.out; have hms64_1 := NB362_361.out; have hms64_3 := NB362_379.out; have hms64_4 := NB362_380.out; have hs65 : w57.cell? ⟨gb362, 5, none⟩ = some (.float .f64 0) := (zC BK362.out 5).trans rfl
   have hfs65 := blk_frozen BK362.out 5; have hns65_0 := NB360_362.out; have hns65_1 := NB361_362.out; have hns65_3 := NB379_362.out; have hns65_4 := NB380_362.out; have hms65_0 := NB362_360.out; have hms65_1 := NB362_361.out; have hms65_3 := NB362_379.out; have hms65_4 := NB362_380.out; refine skip_ (w1 := ?_) (by rfl) rfl ?_ ?_
   rotate_left
   ·go_simp
    rfl
   refine hK.out _ _ ⟨((cell_far (p := ⟨gb362, _, none⟩) NB379_362.out _).trans (((cell_far (p := ⟨gb362, _, none⟩) NB379_362.out _).trans (((cell_far (p := ⟨gb362, _, none⟩) NB379_362.out _).trans (((cell_far (p := ⟨gb362, _, none⟩) NB379_362.out _).trans (((cell_far (p := ⟨gb362, _, none⟩) NB379_362.out _).trans (((cell_far (p := ⟨gb362, _, none⟩) NB379_362.out _).trans (hHeld.1)))))))))))), ((cell_far (p := ⟨gb362, _, none⟩) NB379_362.out _).trans (((cell_far (p := ⟨gb362, _, none⟩) NB379_362.out _).trans (((cell_far (p := ⟨gb362, _, none⟩) NB379_362.out _).trans (((cell_far (p := ⟨gb362, _, none⟩) NB379_362.out _).trans (((cell_far (p := ⟨gb362, _, none⟩) NB379_362.out _).trans (((cell_far (p := ⟨gb362, _, none⟩) NB379_362.out _).trans (hHeld.2.1)))))))))))), ((cell_far (p := ⟨gb362, _, none⟩) NB380_362.out _).trans (((cell_far (p := ⟨gb362, _, none⟩) NB380_362.out _).trans (((cell_far (p := ⟨gb362, _, none⟩) NB380_362.out _).trans (((cell_far (p := ⟨gb362, _, none⟩) NB380_362.out _).trans (((cell_far (p := ⟨gb362, _, none⟩) NB380_362.out _).trans (((cell_far (p := ⟨gb362, _, none⟩) NB380_362.out _).trans (hHeld.2.2.1)))))))))))), ((cell_far (p := ⟨gb362, _, none⟩) NB380_362.out _).trans (((cell_far (p := ⟨gb362, _, none⟩) NB380_362.out _).trans (((cell_far (p := ⟨gb362, _, none⟩) NB380_362.out _).trans (((cell_far (p := ⟨gb362, _, none⟩) NB380_362.out _).trans (((cell_far (p := ⟨gb362, _, none⟩) NB380_362.out _).trans (((cell_far (p := ⟨gb362, _, none⟩) NB380_362.out _).trans (hHeld.2.2.2.1)))))))))))), ((cell_far (p := ⟨gb362, _, none⟩) NB380_362.out _).trans (((cell_far (p := ⟨gb362, _, none⟩) NB380_362.out _).trans (((cell_far (p := ⟨gb362, _, none⟩) NB380_362.out _).trans (((cell_far (p := ⟨gb362, _, none⟩) NB380_362.out _).trans (((cell_far (p := ⟨gb362, _, none⟩) NB380_362.out _).trans (((cell_far (p := ⟨gb362, _, none⟩) NB380_362.out _).trans (hHeld.2.2.2.2.1)))))))))))), ((cell_far (p := ⟨gb362, _, none⟩) NB380_362.out _).trans (((cell_far (p := ⟨gb362, _, none⟩) NB380_362.out _).trans (((cell_far (p := ⟨gb362, _, none⟩) NB380_362.out _).trans (((cell_far (p := ⟨gb362, _, none⟩) NB380_362.out _).trans (((cell_far (p := ⟨gb362, _, none⟩) NB380_362.out _).trans (((cell_far (p := ⟨gb362, _, none⟩) NB380_362.out _).trans (hHeld.2.2.2.2.2.1)))))))))))), ((cell_far (p := ⟨gb362, _, none⟩) NB380_362.out _).trans (((cell_far (p := ⟨gb362, _, none⟩) NB380_362.out _).trans (((cell_far (p := ⟨gb362, _, none⟩) NB380_362.out _).trans (((cell_far (p := ⟨gb362, _, none⟩) NB380_362.out _).trans (((cell_far (p := ⟨gb362, _, none⟩) NB380_362.out _).trans (((cell_far (p := ⟨gb362, _, none⟩) NB380_362.out _).trans (hHeld.2.2.2.2.2.2.1)))))))))))), ((cell_far (p := ⟨gb362, _, none⟩) NB380_362.out _).trans (((cell_far (p := ⟨gb362, _, none⟩) NB380_362.out _).trans (((cell_far (p := ⟨gb362, _, none⟩) NB380_362.out _).trans (((cell_far (p := ⟨gb362, _, none⟩) NB380_362.out _).trans (((cell_far (p := ⟨gb362, _, none⟩) NB380_362.out _).trans (((cell_far (p := ⟨gb362, _, none⟩) NB380_362.out _).trans (hHeld.2.2.2.2.2.2.2))))))))))))⟩ (fun hHeld => ?_)
   clear hK K; refine aP 7 (some 7) (tb_ 255 8) HT_ ?_
   refine done_ (done_of HT_.out (by kernel_rfl)) ?_
   try go_wp2
   refine bodyPost_ret (results_list (rs := [.cell 4 31, .tmp 5, .cell 6 35, .tmp 7]) rfl (by simp) (.cell gb361 31 #[.slice Ao19 t367.length co19, .slice Ao21 t370.length co21] (0, 0) _ rfl (by (with_reducible repeat (first | refine zF ?_ _ | refine zD ?_ | refine zG ?_ _)); refine blk_far ?_ NB361_362.out _; (with_reducible repeat (first | refine zF ?_ _ | refine zD ?_ | refine zG ?_ _)); refine blk_far ?_ NB361_362.out _; (with_reducible repeat (first | refine zF ?_ _ | refine zD ?_ | refine zG ?_ _)); refine blk_far ?_ NB361_362.out _; (with_reducible repeat (first | refine zF ?_ _ | refine zD ?_ | refine zG ?_ _)); refine blk_far ?_ NB361_362.out _; (with_reducible repeat (first | refine zF ?_ _ | refine zD ?_ | refine zG ?_ _)); refine blk_far ?_ NB361_362.out _; (with_reducible repeat (first | refine zF ?_ _ | refine zD ?_ | refine zG ?_ _)); refine blk_far ?_ NB361_362.out _; (with_reducible repeat (first | refine zF ?_ _ | refine zD ?_ | refine zG ?_ _)); refine blk_put (cs := #[.slice Ao19 t367.length co19, .slice none 0 0]) ?_ 1 _ rfl; (with_reducible repeat (first | refine zF ?_ _ | refine zD ?_ | refine zG ?_ _)); refine blk_put (cs := #[.slice none 0 0, .slice none 0 0]) ?_ 0 _ rfl; (with_reducible repeat (first | refine zF ?_ _ | refine zD ?_ | refine zG ?_ _)); exact BK361.out) Try.underlying31 rfl (by kernel_rfl) (.tmp (.cell gb362 35 #[.int .i64 t373, .int .i64 t374, .int .u8 0, .int .i64 t376, .int .i64 t377, .float .f64 t378] (0, 0) _ rfl (by (with_reducible repeat (first | refine zF ?_ _ | refine zD ?_ | refine zG ?_ _)); refine blk_put (cs := #[.int .i64 t373, .int .i64 t374, .int .u8 0, .int .i64 t376, .int .i64 t377, .float .f64 0]) ?_ 5 _ rfl; (with_reducible repeat (first | refine zF ?_ _ | refine zD ?_ | refine zG ?_ _)); refine blk_put (cs := #[.int .i64 t373, .int .i64 t374, .int .u8 0, .int .i64 t376, .int .i64 0, .float .f64 0]) ?_ 4 _ rfl; (with_reducible repeat (first | refine zF ?_ _ | refine zD ?_ | refine zG ?_ _)); refine blk_put (cs := #[.int .i64 t373, .int .i64 t374, .int .u8 0, .int .i64 0, .int .i64 0, .float .f64 0]) ?_ 3 _ rfl; (with_reducible repeat (first | refine zF ?_ _ | refine zD ?_ | refine zG ?_ _)); refine blk_put (cs := #[.int .i64 t373, .int .i64 t374, .int .u8 0, .int .i64 0, .int .i64 0, .float .f64 0]) ?_ 2 _ rfl; (with_reducible repeat (first | refine zF ?_ _ | refine zD ?_ | refine zG ?_ _)); refine blk_put (cs := #[.int .i64 t373, .int .i64 0, .int .u8 0, .int .i64 0, .int .i64 0, .float .f64 0]) ?_ 1 _ rfl; (with_reducible repeat (first | refine zF ?_ _ | refine zD ?_ | refine zG ?_ _)); refine blk_put (cs := #[.int .i64 0, .int .i64 0, .int .u8 0, .int .i64 0, .int .i64 0, .float .f64 0]) ?_ 0 _ rfl; (with_reducible repeat (first | refine zF ?_ _ | refine zD ?_ | refine zG ?_ _)); refine blk_far ?_ NB362_361.out _; (with_reducible repeat (first | refine zF ?_ _ | refine zD ?_ | refine zG ?_ _)); refine blk_far ?_ NB362_361.out _; (with_reducible repeat (first | refine zF ?_ _ | refine zD ?_ | refine zG ?_ _)); exact BK362.out) Try.underlying35 rfl (by kernel_rfl) (.tmp .nil))))) rfl ?_
   exact ⟨_, _, _, _, by first | rfl | (simp [errW_none, errW_some] <;> rfl) | (simp only [← hji3]; first | rfl | (simp [errW_none, errW_some] <;> rfl)) | (simp [*, errW_none, errW_some] <;> rfl), by (with_reducible repeat (first | apply Kd.zI | apply Kd.zJ | apply Kd.zK)); exact Kd.zU (Kd.zR (p := ⟨gb362, 5, none⟩) (Kd.zR (p := ⟨gb362, 4, none⟩) (Kd.zR (p := ⟨gb362, 3, none⟩) (Kd.zR (p := ⟨gb362, 2, none⟩) (Kd.zR (p := ⟨gb362, 1, none⟩) (Kd.zR (p := ⟨gb362, 0, none⟩) (Kd.zR (p := ⟨gb361, 1, none⟩) (Kd.zR (p := ⟨gb361, 0, none⟩) (Kd.zV (Kd.zV HO_380000.out BK361.out (by decide)) BK362.out (by decide)) (fun _ hk => hk.1.2) (.slice Ao19 t367.length co19)) (fun _ hk => hk.1.2) (.slice Ao21 t370.length co21)) (fun _ hk => hk.2) (.int .i64 t373)) (fun _ hk => hk.2) (.int .i64 t374)) (fun _ hk => hk.2) (.int .u8 0)) (fun _ hk => hk.2) (.int .i64 t376)) (fun _ hk => hk.2) (.int .i64 t377)) (fun _ hk => hk.2) (.float .f64 t378)) (fun _ hk => trivial), by (with_reducible repeat (first | apply Kd.zI | apply Kd.zJ | apply Kd.zK)); exact Kd.zU (Kd.zR (p := ⟨gb362, 5, none⟩) (Kd.zR (p := ⟨gb362, 4, none⟩) (Kd.zR (p := ⟨gb362, 3, none⟩) (Kd.zR (p := ⟨gb362, 2, none⟩) (Kd.zR (p := ⟨gb362, 1, none⟩) (Kd.zR (p := ⟨gb362, 0, none⟩) (Kd.zR (p := ⟨gb361, 1, none⟩) (Kd.zR (p := ⟨gb361, 0, none⟩) (Kd.zV (Kd.zV HO_380001.out BK361.out (by decide)) BK362.out (by decide)) (fun _ hk => hk.1.2) (.slice Ao19 t367.length co19)) (fun _ hk => hk.1.2) (.slice Ao21 t370.length co21)) (fun _ hk => hk.2) (.int .i64 t373)) (fun _ hk => hk.2) (.int .i64 t374)) (fun _ hk => hk.2) (.int .u8 0)) (fun _ hk => hk.2) (.int .i64 t376)) (fun _ hk => hk.2) (.int .i64 t377)) (fun _ hk => hk.2) (.float .f64 t378)) (fun _ hk => trivial), by (with_reducible repeat (first | apply Kd.zI | apply Kd.zJ | apply Kd.zK)); exact Kd.zU (Kd.zR (p := ⟨gb362, 5, none⟩) (Kd.zR (p := ⟨gb362, 4, none⟩) (Kd.zR (p := ⟨gb362, 3, none⟩) (Kd.zR (p := ⟨gb362, 2, none⟩) (Kd.zR (p := ⟨gb362, 1, none⟩) (Kd.zR (p := ⟨gb362, 0, none⟩) (Kd.zR (p := ⟨gb361, 1, none⟩) (Kd.zR (p := ⟨gb361, 0, none⟩) (Kd.zV (Kd.zV HO_10.out BK361.out (by decide)) BK362.out (by decide)) (fun _ hk => hk.1.2) (.slice Ao19 t367.length co19)) (fun _ hk => hk.1.2) (.slice Ao21 t370.length co21)) (fun _ hk => hk.2) (.int .i64 t373)) (fun _ hk => hk.2) (.int .i64 t374)) (fun _ hk => hk.2) (.int .u8 0)) (fun _ hk => hk.2) (.int .i64 t376)) (fun _ hk => hk.2) (.int .i64 t377)) (fun _ hk => hk.2) (.float .f64 t378)) (fun _ hk => trivial), by (with_reducible repeat (first | apply Kd.zI | apply Kd.zJ | apply Kd.zK)); exact Kd.zU (Kd.zR (p := ⟨gb362, 5, none⟩) (Kd.zR (p := ⟨gb362, 4, none⟩) (Kd.zR (p := ⟨gb362, 3, none⟩) (Kd.zR (p := ⟨gb362, 2, none⟩) (Kd.zR (p := ⟨gb362, 1, none⟩) (Kd.zR (p := ⟨gb362, 0, none⟩) (Kd.zR (p := ⟨gb361, 1, none⟩) (Kd.zR (p := ⟨gb361, 0, none⟩) (Kd.zV (Kd.zV HO_12.out BK361.out (by decide)) BK362.out (by decide)) (fun _ hk => hk.1.2) (.slice Ao19 t367.length co19)) (fun _ hk => hk.1.2) (.slice Ao21 t370.length co21)) (fun _ hk => hk.2) (.int .i64 t373)) (fun _ hk => hk.2) (.int .i64 t374)) (fun _ hk => hk.2) (.int .u8 0)) (fun _ hk => hk.2) (.int .i64 t376)) (fun _ hk => hk.2) (.int .i64 t377)) (fun _ hk => hk.2) (.float .f64 t378)) (fun _ hk => trivial), aL HB⟩
  rw [if_pos c42] at H; have c42b0 : decide (x34_1 < (t367.length : Int)) = true := decide_eq_true c42
  clear c42; by_cases c43 : 0 ≤ x34_1
  rotate_left
  ·rw [if_neg c43] at H
   exact absurd H (by simp)
  rw [if_pos c43] at H; have c43b0 : decide (0 ≤ x34_1) = true := decide_eq_true c43
  clear c43; by_cases c44 : x34_1 < (t367.length : Int)
  rotate_left
  ·rw [if_neg c44] at H
   exact absurd H (by simp)
  rw [if_pos c44] at H; have c44b0 : decide (x34_1 < (t367.length : Int)) = true := decide_eq_true c44
  clear c44; have H' := zA.mk H
  clear H; have p385 : 0 ≤ (x34_1 : Int) := aD
  have q385 : x34_1 < (t367.length : Int) := aD
  obtain ⟨ad385, e385, hx385_0, hx385_1, hx385_2, hx385_3⟩ := at_T61 (Kd.zP HO_32.out).2.2 x34_1 p385 q385; cases e385
  replace p385 := eq_true p385; replace q385 := eq_true q385; go_wp2_with (first | ((with_reducible refine gate_dst (N := 14) rfl ?_); refine box_event ?hg (N := 14) ?hd (cs := #[.int .i64 0, .int .i64 0, .int .i64 0, .int .u8 0]) (t := 61) ?hr ?_; (case hd => rfl); (case hg => rfl); (case hr => first | (go_simp; done) | (go_simp; rfl)); intro gb386 hg w45 hbox hb; replace HO_10 := zA.mk (Kd.zQ (aR HO_10) hb); replace HO_12 := zA.mk (Kd.zQ (aR HO_12) hb); replace HO_32 := zA.mk (Kd.zQ (Kd.R_elderB (aR HO_32) gb386 (Nat.le_of_eq hg.symm)) hb); replace HO_380000 := zA.mk (Kd.zQ (Kd.R_elderB (aR HO_380000) gb386 (Nat.le_of_eq hg.symm)) hb); replace HO_380001 := zA.mk (Kd.zQ (aR HO_380001) hb); have BK386 := zA.mk (hbox); have GW386 := zA.mk ((by rw [hg]; exact (zE (aL HB)) : w.heap.size ≤ gb386)); replace HB := zA.mk (zH (aL HB) hb); have GE386 := GW386; have NB360_386 := zA.mk ((by rw [hg]; exact Nat.ne_of_lt (blk_lt (aB BK360)) : gb360 ≠ gb386)); have NB386_360 := zA.mk ((by rw [hg]; exact Nat.ne_of_gt (blk_lt (g := gb360) (o := .cells #[.int .u8 a1_0, .int .u8 a1_1, .int .u8 a1_2, .int .u16 a1_3, .int .u16 a1_4, .float .f64 a1_5] 26 (0, 0)) (aB BK360)) : gb386 ≠ gb360)); replace BK360 := zA.mk (zB (aB BK360) hb); have NB361_386 := zA.mk ((by rw [hg]; exact Nat.ne_of_lt (blk_lt (aB BK361)) : gb361 ≠ gb386)); have NB386_361 := zA.mk ((by rw [hg]; exact Nat.ne_of_gt (blk_lt (g := gb361) (o := .cells #[.slice none 0 0, .slice none 0 0] 31 (0, 0)) (aB BK361)) : gb386 ≠ gb361)); replace BK361 := zA.mk (zB (aB BK361) hb); have NB362_386 := zA.mk ((by rw [hg]; exact Nat.ne_of_lt (blk_lt (aB BK362)) : gb362 ≠ gb386)); have NB386_362 := zA.mk ((by rw [hg]; exact Nat.ne_of_gt (blk_lt (g := gb362) (o := .cells #[.int .i64 0, .int .i64 0, .int .u8 0, .int .i64 0, .int .i64 0, .float .f64 0] 35 (0, 0)) (aB BK362)) : gb386 ≠ gb362)); replace BK362 := zA.mk (zB (aB BK362) hb); have NB379_386 := zA.mk ((by rw [hg]; exact Nat.ne_of_lt (blk_lt (aB BK379)) : gb379 ≠ gb386)); have NB386_379 := zA.mk ((by rw [hg]; exact Nat.ne_of_gt (blk_lt (g := gb379) (o := .cells #[.slice (some ad385) t367.length co19, .slice Ao21 t370.length co21] 31 (0, 0)) (aB BK379)) : gb386 ≠ gb379)); replace BK379 := zA.mk (zB (aB BK379) hb); have NB380_386 := zA.mk ((by rw [hg]; exact Nat.ne_of_lt (blk_lt (aB BK380)) : gb380 ≠ gb386)); have NB386_380 := zA.mk ((by rw [hg]; exact Nat.ne_of_gt (blk_lt (g := gb380) (o := .cells #[.int .i64 t373, .int .i64 t374, .int .u8 0, .int .i64 t376, .int .i64 t377, .float .f64 t378] 35 (0, 0)) (aB BK380)) : gb386 ≠ gb380)); replace BK380 := zA.mk (zB (aB BK380) hb); clear hb hbox hg; have hnb46 := NB386_360.out; have hnc46 := NB360_386.out; have hnb47 := NB386_361.out; have hnc47 := NB361_386.out; have hnb48 := NB386_362.out; have hnc48 := NB362_386.out; have hnb49 := NB386_379.out; have hnc49 := NB379_386.out; have hnb50 := NB386_380.out; have hnc50 := NB380_386.out; obtain ⟨hcz51_0, hcz51_1, hcz51_2, hcz51_3, hfz51_0, hfz51_1, hfz51_2, hfz51_3⟩ := aC4 BK386) | ((with_reducible refine gate_store (t := 61) (p := 14) rfl ?_); refine store_event (t := 61) (p := 14) (v := ?vo_w52) (w1 := ((((w45.setCell ⟨gb386, 0, none⟩ (.int .i64 ((rd_T61 t367 x34_1).f0))).setCell ⟨gb386, 1, none⟩ (.int .i64 ((rd_T61 t367 x34_1).f1))).setCell ⟨gb386, 2, none⟩ (.int .i64 ((rd_T61 t367 x34_1).f2))).setCell ⟨gb386, 3, none⟩ (.int .u8 ((rd_T61 t367 x34_1).f3)))) ?hg ?ho ?hn ?hr ?_; (case ho => rfl); (case hg => rfl); (case hn => rfl); (case hr => first | (go_simp; done) | (go_simp; rfl)); intro w52 hw; have n0_ : zA (Kd.R k45 45 w52 w.heap.size (fun _ => True) v382 t381) := ⟨(by rw [hw]; exact (by (with_reducible repeat (first | apply Kd.zI | apply Kd.zJ | apply Kd.zK)); exact Kd.zU (Kd.zR (p := ⟨gb386, 3, none⟩) (Kd.zR (p := ⟨gb386, 2, none⟩) (Kd.zR (p := ⟨gb386, 1, none⟩) (Kd.zR (p := ⟨gb386, 0, none⟩) (Kd.zV HO_10.out BK386.out (by decide)) (fun _ hk => hk.2) (.int .i64 ((rd_T61 t367 x34_1).f0))) (fun _ hk => hk.2) (.int .i64 ((rd_T61 t367 x34_1).f1))) (fun _ hk => hk.2) (.int .i64 ((rd_T61 t367 x34_1).f2))) (fun _ hk => hk.2) (.int .u8 ((rd_T61 t367 x34_1).f3))) (fun _ hk => trivial)))⟩; have n1_ : zA (Kd.R (Kd.int .u8) 5 w52 w.heap.size (fun _ => True) u12 x12_1) := ⟨(by rw [hw]; exact (by (with_reducible repeat (first | apply Kd.zI | apply Kd.zJ | apply Kd.zK)); exact Kd.zU (Kd.zR (p := ⟨gb386, 3, none⟩) (Kd.zR (p := ⟨gb386, 2, none⟩) (Kd.zR (p := ⟨gb386, 1, none⟩) (Kd.zR (p := ⟨gb386, 0, none⟩) (Kd.zV HO_12.out BK386.out (by decide)) (fun _ hk => hk.2) (.int .i64 ((rd_T61 t367 x34_1).f0))) (fun _ hk => hk.2) (.int .i64 ((rd_T61 t367 x34_1).f1))) (fun _ hk => hk.2) (.int .i64 ((rd_T61 t367 x34_1).f2))) (fun _ hk => hk.2) (.int .u8 ((rd_T61 t367 x34_1).f3))) (fun _ hk => trivial)))⟩; have n2_ : zA (Kd.R k61 61 w52 w.heap.size (fun k_ => k_ ≠ gb386) (.slice (some ad385) t367.length co19) t367) := ⟨(by rw [hw]; exact (by (with_reducible repeat (first | apply Kd.zI | apply Kd.zJ | apply Kd.zK)); exact Kd.zU (Kd.zR (p := ⟨gb386, 3, none⟩) (Kd.zR (p := ⟨gb386, 2, none⟩) (Kd.zR (p := ⟨gb386, 1, none⟩) (Kd.zR (p := ⟨gb386, 0, none⟩) (Kd.zU HO_32.out (fun k_ hk => (⟨hk, hk.2⟩ : _ ∧ k_ ≠ gb386))) (fun _ hk => hk.2) (.int .i64 ((rd_T61 t367 x34_1).f0))) (fun _ hk => hk.2) (.int .i64 ((rd_T61 t367 x34_1).f1))) (fun _ hk => hk.2) (.int .i64 ((rd_T61 t367 x34_1).f2))) (fun _ hk => hk.2) (.int .u8 ((rd_T61 t367 x34_1).f3))) (fun _ hk => hk.1.2)))⟩; have n3_ : zA (Kd.R k61 61 w52 w.heap.size (fun k_ => k_ ≠ gb386) (.slice (some ad385) t367.length co19) t367) := ⟨(by rw [hw]; exact (by (with_reducible repeat (first | apply Kd.zI | apply Kd.zJ | apply Kd.zK)); exact Kd.zU (Kd.zR (p := ⟨gb386, 3, none⟩) (Kd.zR (p := ⟨gb386, 2, none⟩) (Kd.zR (p := ⟨gb386, 1, none⟩) (Kd.zR (p := ⟨gb386, 0, none⟩) (Kd.zU HO_380000.out (fun k_ hk => (⟨hk, hk.2⟩ : _ ∧ k_ ≠ gb386))) (fun _ hk => hk.2) (.int .i64 ((rd_T61 t367 x34_1).f0))) (fun _ hk => hk.2) (.int .i64 ((rd_T61 t367 x34_1).f1))) (fun _ hk => hk.2) (.int .i64 ((rd_T61 t367 x34_1).f2))) (fun _ hk => hk.2) (.int .u8 ((rd_T61 t367 x34_1).f3))) (fun _ hk => hk.1.2)))⟩; have n4_ : zA (Kd.R (Kd.int .u8) 43 w52 w.heap.size (fun _ => True) (.slice Ao21 t370.length co21) t370) := ⟨(by rw [hw]; exact (by (with_reducible repeat (first | apply Kd.zI | apply Kd.zJ | apply Kd.zK)); exact Kd.zU (Kd.zR (p := ⟨gb386, 3, none⟩) (Kd.zR (p := ⟨gb386, 2, none⟩) (Kd.zR (p := ⟨gb386, 1, none⟩) (Kd.zR (p := ⟨gb386, 0, none⟩) (Kd.zV HO_380001.out BK386.out (by decide)) (fun _ hk => hk.2) (.int .i64 ((rd_T61 t367 x34_1).f0))) (fun _ hk => hk.2) (.int .i64 ((rd_T61 t367 x34_1).f1))) (fun _ hk => hk.2) (.int .i64 ((rd_T61 t367 x34_1).f2))) (fun _ hk => hk.2) (.int .u8 ((rd_T61 t367 x34_1).f3))) (fun _ hk => trivial)))⟩; have n5_ : zA (w52.heap[gb360]? = some (.cells #[.int .u8 a1_0, .int .u8 a1_1, .int .u8 a1_2, .int .u16 a1_3, .int .u16 a1_4, .float .f64 a1_5] 26 (0, 0))) := ⟨(by rw [hw]; exact (aB BK360))⟩; have n6_ : zA (w52.heap[gb361]? = some (.cells #[.slice none 0 0, .slice none 0 0] 31 (0, 0))) := ⟨(by rw [hw]; exact (aB BK361))⟩; have n7_ : zA (w52.heap[gb362]? = some (.cells #[.int .i64 0, .int .i64 0, .int .u8 0, .int .i64 0, .int .i64 0, .float .f64 0] 35 (0, 0))) := ⟨(by rw [hw]; exact (aB BK362))⟩; have n8_ : zA (w52.heap[gb379]? = some (.cells #[.slice (some ad385) t367.length co19, .slice Ao21 t370.length co21] 31 (0, 0))) := ⟨(by rw [hw]; exact (aB BK379))⟩; have n9_ : zA (w52.heap[gb380]? = some (.cells #[.int .i64 t373, .int .i64 t374, .int .u8 0, .int .i64 t376, .int .i64 t377, .float .f64 t378] 35 (0, 0))) := ⟨(by rw [hw]; exact (aB BK380))⟩; have n10_ : zA (w52.heap[gb386]? = some (.cells #[.int .i64 ((rd_T61 t367 x34_1).f0), .int .i64 ((rd_T61 t367 x34_1).f1), .int .i64 ((rd_T61 t367 x34_1).f2), .int .u8 ((rd_T61 t367 x34_1).f3)] 61 (0, 0))) := ⟨(by rw [hw]; exact (by (with_reducible repeat (first | refine zF ?_ _ | refine zD ?_ | refine zG ?_ _)); refine blk_put (cs := #[.int .i64 ((rd_T61 t367 x34_1).f0), .int .i64 ((rd_T61 t367 x34_1).f1), .int .i64 ((rd_T61 t367 x34_1).f2), .int .u8 0]) ?_ 3 _ rfl; (with_reducible repeat (first | refine zF ?_ _ | refine zD ?_ | refine zG ?_ _)); refine blk_put (cs := #[.int .i64 ((rd_T61 t367 x34_1).f0), .int .i64 ((rd_T61 t367 x34_1).f1), .int .i64 0, .int .u8 0]) ?_ 2 _ rfl; (with_reducible repeat (first | refine zF ?_ _ | refine zD ?_ | refine zG ?_ _)); refine blk_put (cs := #[.int .i64 ((rd_T61 t367 x34_1).f0), .int .i64 0, .int .i64 0, .int .u8 0]) ?_ 1 _ rfl; (with_reducible repeat (first | refine zF ?_ _ | refine zD ?_ | refine zG ?_ _)); refine blk_put (cs := #[.int .i64 0, .int .i64 0, .int .i64 0, .int .u8 0]) ?_ 0 _ rfl; (with_reducible repeat (first | refine zF ?_ _ | refine zD ?_ | refine zG ?_ _)); exact BK386.out))⟩; have n11_ : zA (Below w.heap.size w w52) := ⟨(by rw [hw]; exact (aL HB))⟩; clear hw; clear HO_10; clear HO_12; clear HO_32; clear HO_380000; clear HO_380001; clear BK360; clear BK361; clear BK362; clear BK379; clear BK380; clear BK386; clear HB; have HO_10 := n0_; have HO_12 := n1_; have HO_32 := n2_; have HO_380000 := n3_; have HO_380001 := n4_; have BK360 := n5_; have BK361 := n6_; have BK362 := n7_; have BK379 := n8_; have BK380 := n9_; have BK386 := n10_; have HB := n11_; clear n0_ n1_ n2_ n3_ n4_ n5_ n6_ n7_ n8_ n9_ n10_ n11_; obtain ⟨hcz53_0, hcz53_1, hcz53_2, hcz53_3, hfz53_0, hfz53_1, hfz53_2, hfz53_3⟩ := aC4 BK386))
  (try simp only [hji3])
  go_loopg [12, 41] k1 (fun kq v12 v41 w' => ∃ (x12_2 : List Int) (x41_2 : Int), v41 = .int .i64 x41_2 ∧ zA (stanzalaw22_lined.l1 kq t381 x12_2 x34_1 t367 (t367.length : Int) x34_1 ((rd_T61 t367 x34_1).f1) x41_2 t367 t370 t373 t374 0 t376 t377 t378 = some (r1, r2, r3, r4, r5, r6, r7, r8, r9, r10)) ∧ zA (kq ≤ k1) ∧ zA (Kd.R k45 45 w' w.heap.size (fun _ => True) v382 t381) ∧ zA (Kd.R (Kd.int .u8) 5 w' w.heap.size (fun _ => True) v12 x12_2) ∧ zA (Kd.R k61 61 w' w.heap.size (fun k_ => k_ ≠ gb386) (.slice (some ad385) t367.length co19) t367) ∧ zA (Kd.R k61 61 w' w.heap.size (fun k_ => k_ ≠ gb386) (.slice (some ad385) t367.length co19) t367) ∧ zA (Kd.R (Kd.int .u8) 43 w' w.heap.size (fun _ => True) (.slice Ao21 t370.length co21) t370) ∧ zA (w'.heap[gb360]? = some (.cells #[.int .u8 a1_0, .int .u8 a1_1, .int .u8 a1_2, .int .u16 a1_3, .int .u16 a1_4, .float .f64 a1_5] 26 (0, 0))) ∧ zA (w'.heap[gb361]? = some (.cells #[(.slice none 0 0), (.slice none 0 0)] 31 (0, 0))) ∧ zA (w'.heap[gb362]? = some (.cells #[.int .i64 0, .int .i64 0, .int .u8 0, .int .i64 0, .int .i64 0, .float .f64 0] 35 (0, 0))) ∧ zA (w'.heap[gb379]? = some (.cells #[(.slice (some ad385) t367.length co19), (.slice Ao21 t370.length co21)] 31 (0, 0))) ∧ zA (w'.heap[gb380]? = some (.cells #[.int .i64 t373, .int .i64 t374, .int .u8 0, .int .i64 t376, .int .i64 t377, .float .f64 t378] 35 (0, 0))) ∧ zA (w'.heap[gb386]? = some (.cells #[.int .i64 ((rd_T61 t367 x34_1).f0), .int .i64 ((rd_T61 t367 x34_1).f1), .int .i64 ((rd_T61 t367 x34_1).f2), .int .u8 ((rd_T61 t367 x34_1).f3)] 61 (0, 0))) ∧ zA (Below w.heap.size w w'))
  case atStart => exact ⟨(x12_1), (0), aZ, H', ⟨Nat.le_refl _⟩, ⟨aR HO_10⟩, ⟨aR HO_12⟩, ⟨aR HO_32⟩, ⟨aR HO_380000⟩, ⟨aR HO_380001⟩, ⟨aB BK360⟩, ⟨aB BK361⟩, ⟨aB BK362⟩, ⟨aB BK379⟩, ⟨aB BK380⟩, ⟨aB BK386⟩, ⟨aL HB⟩⟩
  clear H'; obtain ⟨x12_2, x41_2, rfl, HA, HK2, HO_10, HO_12, HO_32, HO_380000, HO_380001, BK360, BK361, BK362, BK379, BK380, BK386, HB⟩ := hrel; cases gk with
  | zero => exact absurd HA.out (by simp [stanzalaw22_lined.l1])
  | succ k2 =>
   have H := HA.out; clear HA; simp only [stanzalaw22_lined.l1] at H; by_cases c54 : x41_2 < ((rd_T61 t367 x34_1).f1)
   rotate_left
   ·rw [if_neg c54] at H
    have c54b0 : decide (x41_2 < ((rd_T61 t367 x34_1).f1)) = false := decide_eq_false c54
    clear c54; have H' := zA.mk H
    clear H; go_wp2
    go_roundg k2
    case measure => have := HK1.out; have := HK2.out; omega
    case rel => exact ⟨(x12_2), (wrap64 (x34_1 + 1)), aZ, H', ⟨by have := HK1.out; have := HK2.out; omega⟩, ⟨aR HO_10⟩, ⟨aR HO_12⟩, ⟨by (with_reducible repeat (first | apply Kd.zI | apply Kd.zJ | apply Kd.zK)); exact Kd.zU HO_32.out (fun _ hk => trivial)⟩, ⟨by (with_reducible repeat (first | apply Kd.zI | apply Kd.zJ | apply Kd.zK)); exact Kd.zU HO_380000.out (fun _ hk => trivial)⟩, ⟨aR HO_380001⟩, ⟨aB BK360⟩, ⟨aB BK361⟩, ⟨aB BK362⟩, ⟨aB BK379⟩, ⟨aB BK380⟩, ⟨aL HB⟩⟩
   rw [if_pos c54] at H; have c54b0 : decide (x41_2 < ((rd_T61 t367 x34_1).f1)) = true := decide_eq_true c54
   clear c54; by_cases c55 : x12_2.length < 140737488355328
   rotate_left
   ·rw [if_neg c55] at H
    exact absurd H (by simp)
   rw [if_pos c55] at H; have LMc55 := zA.mk c55; clear c55; obtain ⟨y387, hy387⟩ : ∃ y_ : List Int, y_ = (x12_2 ++ [(wrap64 (97 + (Int.tmod (wrap64 (x34_1 + x41_2)) 26))) % 256]) := ⟨_, rfl⟩; replace H : (stanzalaw22_lined.l1 k2 t381 y387 x34_1 t367 (t367.length : Int) x34_1 ((rd_T61 t367 x34_1).f1) (wrap64 (x41_2 + 1)) t367 t370 t373 t374 0 t376 t377 t378) = some (r1, r2, r3, r4, r5, r6, r7, r8, r9, r10) := by first | (rw [hy387]; with_reducible exact H) | (have H2_ := (Option.bind_some _ _).symm.trans H; rw [hy387]; with_reducible exact H2_) | (have H2_ := (Option.bind_some _ _).symm.trans H; with_reducible exact H2_) | with_reducible exact H | (rw [hy387]; exact H) | exact H
   have Ny387 := zA.mk hy387; clear hy387; have H' := zA.mk H
   clear H; go_wp2_with (first | ((with_reducible refine gate_builtin (b := .append) (xs := #[.tmp 44, .tmp 51]) rfl ?_); at_builtin; refine Kd.R_append (Kd.int .u8) (w0 := w) w.heap.size rfl (.tmp 44) (.tmp 51) 51 5 (.int .u8 0) 1 rfl Try.underlying51 info5 rfl (by decide) (by omega) u12 x12_2 ((wrap64 (97 + (Int.tmod (wrap64 (x34_1 + x41_2)) 26))) % 256) [.int .u8 ((wrap64 (97 + (Int.tmod (wrap64 (x34_1 + x41_2)) 26))) % 256)] (fun _ => True) (fun _ => False) rfl rfl ?aP (fun _ hk => hk.elim) ?aF ?aO ?aB ?aS ?aL ?_; (case aP => exact rfl); (case aB => exact (aL HB)); (case aF => exact (fun _ _ => trivial)); (case aO => exact (aR HO_12)); (case aS => exact (zE (aL HB))); (case aL => have := LMc55.out; omega); intro v388 w56 ho hb hg hat; rw [← Ny387.out] at ho; replace HO_10 := zA.mk (Kd.R_over' (aR HO_10) (Kd.R_typed (aR HO_12)) (by decide) hg); replace HO_32 := zA.mk (Kd.R_over' (aR HO_32) (Kd.R_typed (aR HO_12)) (by decide) hg); replace HO_380000 := zA.mk (Kd.R_over' (aR HO_380000) (Kd.R_typed (aR HO_12)) (by decide) hg); replace HO_380001 := zA.mk (Kd.R_over' (aR HO_380001) (Kd.R_typed (aR HO_12)) (by decide) hg); replace BK360 := zA.mk (blk_grown (g := gb360) (o := .cells #[.int .u8 a1_0, .int .u8 a1_1, .int .u8 a1_2, .int .u16 a1_3, .int .u16 a1_4, .float .f64 a1_5] 26 (0, 0)) (aB BK360) hg (Kd.R_ne HO_12.out BK360.out (by decide))); replace BK361 := zA.mk (blk_grown (g := gb361) (o := .cells #[.slice none 0 0, .slice none 0 0] 31 (0, 0)) (aB BK361) hg (Kd.R_ne HO_12.out BK361.out (by decide))); replace BK362 := zA.mk (blk_grown (g := gb362) (o := .cells #[.int .i64 0, .int .i64 0, .int .u8 0, .int .i64 0, .int .i64 0, .float .f64 0] 35 (0, 0)) (aB BK362) hg (Kd.R_ne HO_12.out BK362.out (by decide))); replace BK379 := zA.mk (blk_grown (g := gb379) (o := .cells #[.slice (some ad385) t367.length co19, .slice Ao21 t370.length co21] 31 (0, 0)) (aB BK379) hg (Kd.R_ne HO_12.out BK379.out (by decide))); replace BK380 := zA.mk (blk_grown (g := gb380) (o := .cells #[.int .i64 t373, .int .i64 t374, .int .u8 0, .int .i64 t376, .int .i64 t377, .float .f64 t378] 35 (0, 0)) (aB BK380) hg (Kd.R_ne HO_12.out BK380.out (by decide))); replace BK386 := zA.mk (blk_grown (g := gb386) (o := .cells #[.int .i64 ((rd_T61 t367 x34_1).f0), .int .i64 ((rd_T61 t367 x34_1).f1), .int .i64 ((rd_T61 t367 x34_1).f2), .int .u8 ((rd_T61 t367 x34_1).f3)] 61 (0, 0)) (aB BK386) hg (Kd.R_ne HO_12.out BK386.out (by decide))); replace HB := zA.mk (hb); have HO389 := zA.mk (ho); clear HO_12; clear ho hb hg hat))
   go_roundg k2
   case measure => have := HK1.out; have := HK2.out; omega
   case rel => exact ⟨(y387), (wrap64 (x41_2 + 1)), aZ, H', ⟨by have := HK1.out; have := HK2.out; omega⟩, ⟨aR HO_10⟩, ⟨aR HO389⟩, ⟨aR HO_32⟩, ⟨aR HO_380000⟩, ⟨aR HO_380001⟩, ⟨aB BK360⟩, ⟨aB BK361⟩, ⟨aB BK362⟩, ⟨aB BK379⟩, ⟨aB BK380⟩, ⟨aB BK386⟩, ⟨aL HB⟩⟩
def draw_All.l0 : Nat → List Int → Bool → List (List Int) → List (S45) → Int → Int → List (S61) → List Int → Int → Int → Int → Int → Int → Nat → Option ((List (List Int)))
 | 0, _, _, _, _, _, _, _, _, _, _, _, _, _, _ => none
 | k + 1, x0, x4, x11, x14, x15, x16, x391000, x391001, x392000, x392001, x392002, x392003, x392004, x392005 => if x16 < x15 then (if 0 ≤ x16 then (if x16 < (x14.length : Int) then ((draw_Row.f k x0 x391000 x391001 ((rd_T45 x14 x16).f0) ((rd_T45 x14 x16).f1) ((rd_T45 x14 x16).f2) ((rd_T45 x14 x16).f3) x392000 x392001 x392002 x392003 x392004 x392005 x4).bind fun t394 => (if x11.length < 5864062014805 then (draw_All.l0 k x0 x4 (x11 ++ [t394]) x14 x15 (wrap64 (x16 + 1)) x391000 x391001 x392000 x392001 x392002 x392003 x392004 x392005) else (none))) else (none)) else (none)) else (some x11)
def draw_All.f (k : Nat) (l0 : List Int) (l1_0 : List (S61)) (l1_1 : List Int) (l2 : List (S45)) (a3_0 : Int) (a3_1 : Int) (a3_2 : Int) (a3_3 : Int) (a3_4 : Int) (a3_5 : Nat) (a4 : Bool) : Option ((List (List Int))) := draw_All.l0 k l0 a4 ([] : List (List Int)) l2 (l2.length : Int) 0 l1_0 l1_1 a3_0 a3_1 a3_2 a3_3 a3_4 a3_5
theorem draw_All.mono_l : ∀ k, (∀ y0 y1 y2 y3 y4 y5 y6 y7 y8 y9 y10 y11 y12 y13, LeO (draw_All.l0 k y0 y1 y2 y3 y4 y5 y6 y7 y8 y9 y10 y11 y12 y13) (draw_All.l0 (k + 1) y0 y1 y2 y3 y4 y5 y6 y7 y8 y9 y10 y11 y12 y13))
 | 0 => fun _ _ _ _ _ _ _ _ _ _ _ _ _ _ r h => by simp [draw_All.l0] at h
 | k + 1 => by
  have ih0 := draw_All.mono_l k
  ·intro y0 y1 y2 y3 y4 y5 y6 y7 y8 y9 y10 y11 y12 y13
   unfold draw_All.l0
   repeat' (with_reducible first | exact ih0 _ _ _ _ _ _ _ _ _ _ _ _ _ _ | exact draw_Row.mono _ _ _ _ _ _ _ _ _ _ _ _ _ _ _ | exact LeO.refl _ | exact LeO.none _ | refine LeO.ite ?_ ?_ | refine LeO.bind ?_ (fun _ => ?_))
theorem draw_All.mono : ∀ a0 a1 a2 a3 a4 a5 a6 a7 a8 a9 a10 k, LeO (draw_All.f k a0 a1 a2 a3 a4 a5 a6 a7 a8 a9 a10) (draw_All.f (k + 1) a0 a1 a2 a3 a4 a5 a6 a7 a8 a9 a10) := by
 intro a0 a1 a2 a3 a4 a5 a6 a7 a8 a9 a10 k
 have ih0 := draw_All.mono_l k; unfold draw_All.f
 repeat' (with_reducible first | exact ih0 _ _ _ _ _ _ _ _ _ _ _ _ _ _ | exact draw_Row.mono _ _ _ _ _ _ _ _ _ _ _ _ _ _ _ | exact LeO.refl _ | exact LeO.none _ | refine LeO.ite ?_ ?_ | refine LeO.bind ?_ (fun _ => ?_))
set_option maxHeartbeats 8000000 in
set_option maxRecDepth 100000 in
theorem draw_All.calls (k : Nat) (A0 : Option Addr) (c0 : Nat) (l0 : List Int) (A1_0 : Option Addr) (c1_0 : Nat) (l1_0 : List (S61)) (A1_1 : Option Addr) (c1_1 : Nat) (l1_1 : List Int) (A2 : Option Addr) (c2 : Nat) (l2 : List (S45)) (a3_0 : Int) (a3_1 : Int) (a3_2 : Int) (a3_3 : Int) (a3_4 : Int) (a3_5 : Nat) (a4 : Bool) (r : List (List Int)) (w : World) (hr0 : Kd.C (Kd.int .u8) w A0 l0.length l0) (hc0 : l0.length ≤ c0) (hr1_0 : Kd.C k61 w A1_0 l1_0.length l1_0) (hc1_0 : l1_0.length ≤ c1_0) (hr1_1 : Kd.C (Kd.int .u8) w A1_1 l1_1.length l1_1) (hc1_1 : l1_1.length ≤ c1_1) (hr2 : Kd.C k45 w A2 l2.length l2) (hc2 : l2.length ≤ c2) (h : draw_All.f k l0 l1_0 l1_1 l2 a3_0 a3_1 a3_2 a3_3 a3_4 a3_5 a4 = some r) :
  Calls Try.prog 23 #[.slice A0 l0.length c0, .agg #[.slice A1_0 l1_0.length c1_0, .slice A1_1 l1_1.length c1_1], .slice A2 l2.length c2, .agg #[.int .i64 a3_0, .int .i64 a3_1, .int .u8 a3_2, .int .i64 a3_3, .int .i64 a3_4, .float .f64 a3_5], .bool a4] w fun e w' => ∃ v0_ : Value, e = .returned (v0_) ∧ Kd.S (Kd.slice 5 (Kd.int .u8)) 51 w' w.heap.size (fun _ => True) v0_ r ∧ Below w.heap.size w w' := by
 have hu31 := Try.underlying31; have hu35 := Try.underlying35; have hu45 := Try.underlying45; have HR0 := zA.mk hr0; have HC0 := zA.mk hc0; clear hr0 hc0; have HR1_0 := zA.mk hr1_0; have HC1_0 := zA.mk hc1_0; clear hr1_0 hc1_0; have HR1_1 := zA.mk hr1_1; have HC1_1 := zA.mk hc1_1; clear hr1_1 hc1_1; have HR2 := zA.mk hr2; have HC2 := zA.mk hc2; clear hr2 hc2; have HB := zA.mk (Below.refl w.heap.size w); have H : (draw_All.l0 k l0 a4 ([] : List (List Int)) l2 (l2.length : Int) 0 l1_0 l1_1 a3_0 a3_1 a3_2 a3_3 a3_4 a3_5) = some r := h
 clear h; have H' := zA.mk H
 clear H; go_enter Try.func23, Try.ntmps23
 go_wp2_with (first | ((with_reducible refine gate_dst (N := 6) rfl ?_); refine box_event ?hg (N := 6) ?hd (cs := #[.slice A1_0 l1_0.length c1_0, .slice A1_1 l1_1.length c1_1]) (t := 31) ?hr ?_; (case hd => rfl); (case hg => rfl); (case hr => first | (go_simp; done) | (go_simp; rfl)); intro gb390 hg w6 hbox hb; have BK390 := zA.mk (hbox); have GW390 := zA.mk ((by rw [hg]; exact (zE (aL HB)) : w.heap.size ≤ gb390)); replace HB := zA.mk (zH (aL HB) hb); have GE390 := GW390; clear hb hbox hg) | ((with_reducible refine gate_dst (N := 8) rfl ?_); refine box_event ?hg (N := 8) ?hd (cs := #[.int .i64 a3_0, .int .i64 a3_1, .int .u8 a3_2, .int .i64 a3_3, .int .i64 a3_4, .float .f64 a3_5]) (t := 35) ?hr ?_; (case hd => rfl); (case hg => rfl); (case hr => first | (go_simp; done) | (go_simp; rfl)); intro gb391 hg w7 hbox hb; have BK391 := zA.mk (hbox); have GW391 := zA.mk ((by rw [hg]; exact (zE (aL HB)) : w.heap.size ≤ gb391)); replace HB := zA.mk (zH (aL HB) hb); have GE391 := GW391; have NB390_391 := zA.mk ((by rw [hg]; exact Nat.ne_of_lt (blk_lt (aB BK390)) : gb390 ≠ gb391)); have NB391_390 := zA.mk ((by rw [hg]; exact Nat.ne_of_gt (blk_lt (g := gb390) (o := .cells #[.slice A1_0 l1_0.length c1_0, .slice A1_1 l1_1.length c1_1] 31 (0, 0)) (aB BK390)) : gb391 ≠ gb390)); replace BK390 := zA.mk (zB (aB BK390) hb); clear hb hbox hg))
 go_loopg [11, 16] k (fun kq v11 v16 w' => ∃ (x11_1 : List (List Int)) (x16_1 : Int), v16 = .int .i64 x16_1 ∧ zA (draw_All.l0 kq l0 a4 x11_1 l2 (l2.length : Int) x16_1 l1_0 l1_1 a3_0 a3_1 a3_2 a3_3 a3_4 a3_5 = some r) ∧ zA (kq ≤ k) ∧ zA (Kd.S (Kd.slice 5 (Kd.int .u8)) 51 w' w.heap.size (fun _ => True) v11 x11_1) ∧ zA (w'.heap[gb390]? = some (.cells #[(.slice A1_0 l1_0.length c1_0), (.slice A1_1 l1_1.length c1_1)] 31 (0, 0))) ∧ zA (w'.heap[gb391]? = some (.cells #[.int .i64 a3_0, .int .i64 a3_1, .int .u8 a3_2, .int .i64 a3_3, .int .i64 a3_4, .float .f64 a3_5] 35 (0, 0))) ∧ zA (Below w.heap.size w w'))
 case atStart => exact ⟨(([] : List (List Int))), (0), aZ, H', ⟨Nat.le_refl _⟩, ⟨by first | exact Kd.S_nil _ _ _ _ _ | exact Kd.N_nil _ _ _ _ _ | exact Kd.V_nil _ _ _ _ _ | exact Kd.Q_nil _ _ _ _ _ | exact Kd.R_nil _ _ _ _ _⟩, ⟨aB BK390⟩, ⟨aB BK391⟩, ⟨aL HB⟩⟩
 clear H'; obtain ⟨x11_1, x16_1, rfl, HA, HK1, HO_11, BK390, BK391, HB⟩ := hrel; cases gk with
 | zero => exact absurd HA.out (by simp [draw_All.l0])
 | succ k1 =>
  have H := HA.out; clear HA; simp only [draw_All.l0] at H; by_cases c8 : x16_1 < (l2.length : Int)
  rotate_left
  ·rw [if_neg c8] at H
   have c8b0 : decide (x16_1 < (l2.length : Int)) = false := decide_eq_false c8
   clear c8; obtain rfl := Option.some.inj H
   go_wp2
   go_ret
   exact ⟨_, aX, aS HO_11, aL HB⟩
  rw [if_pos c8] at H; have c8b0 : decide (x16_1 < (l2.length : Int)) = true := decide_eq_true c8
  clear c8; by_cases c9 : 0 ≤ x16_1
  rotate_left
  ·rw [if_neg c9] at H
   exact absurd H (by simp)
  rw [if_pos c9] at H; have c9b0 : decide (0 ≤ x16_1) = true := decide_eq_true c9
  clear c9; by_cases c10 : x16_1 < (l2.length : Int)
  rotate_left
  ·rw [if_neg c10] at H
   exact absurd H (by simp)
  rw [if_pos c10] at H; have c10b0 : decide (x16_1 < (l2.length : Int)) = true := decide_eq_true c10
  clear c10; replace H := Option.bind_eq_some_iff.mp H; obtain ⟨t394, A110, H⟩ := H; replace H : (if x11_1.length < 5864062014805 then (draw_All.l0 k1 l0 a4 (x11_1 ++ [t394]) l2 (l2.length : Int) (wrap64 (x16_1 + 1)) l1_0 l1_1 a3_0 a3_1 a3_2 a3_3 a3_4 a3_5) else (none)) = some r := H; have A11 := zA.mk A110; clear A110; by_cases c12 : x11_1.length < 5864062014805
  rotate_left
  ·rw [if_neg c12] at H
   exact absurd H (by simp)
  rw [if_pos c12] at H; have LMc12 := zA.mk c12; clear c12; obtain ⟨y397, hy397⟩ : ∃ y_ : List (List Int), y_ = (x11_1 ++ [t394]) := ⟨_, rfl⟩; replace H : (draw_All.l0 k1 l0 a4 y397 l2 (l2.length : Int) (wrap64 (x16_1 + 1)) l1_0 l1_1 a3_0 a3_1 a3_2 a3_3 a3_4 a3_5) = some r := by first | (rw [hy397]; with_reducible exact H) | (have H2_ := (Option.bind_some _ _).symm.trans H; rw [hy397]; with_reducible exact H2_) | (have H2_ := (Option.bind_some _ _).symm.trans H; with_reducible exact H2_) | with_reducible exact H | (rw [hy397]; exact H) | exact H
  have Ny397 := zA.mk hy397; clear hy397; have H' := zA.mk H
  clear H; have p392 : 0 ≤ (x16_1 : Int) := aD
  have q392 : x16_1 < (l2.length : Int) := aD
  obtain ⟨ad392, e392, hx392_0, hx392_1, hx392_2, hx392_3⟩ := at_T45 HR2.out x16_1 p392 q392; cases e392
  replace hx392_0 := (HB.out.cell (World.block_lt_of_cell? w _ hx392_0)).trans hx392_0; replace hx392_1 := (HB.out.cell (World.block_lt_of_cell? w _ hx392_1)).trans hx392_1; replace hx392_2 := (HB.out.cell (World.block_lt_of_cell? w _ hx392_2)).trans hx392_2; replace hx392_3 := (HB.out.cell (World.block_lt_of_cell? w _ hx392_3)).trans hx392_3; replace p392 := eq_true p392; replace q392 := eq_true q392; go_wp2_with (first | ((with_reducible refine gate_dst (N := 13) rfl ?_); refine box_event ?hg (N := 13) ?hd (cs := #[.int .i64 0, .int .i64 0, .int .i64 0, .int .u8 0]) (t := 45) ?hr ?_; (case hd => rfl); (case hg => rfl); (case hr => first | (go_simp; done) | (go_simp; rfl)); intro gb393 hg w13 hbox hb; replace HO_11 := zA.mk (Kd.S_below (aS HO_11) hb); have BK393 := zA.mk (hbox); have GW393 := zA.mk ((by rw [hg]; exact (zE (aL HB)) : w.heap.size ≤ gb393)); replace HB := zA.mk (zH (aL HB) hb); have GE393 := GW393; have NB390_393 := zA.mk ((by rw [hg]; exact Nat.ne_of_lt (blk_lt (aB BK390)) : gb390 ≠ gb393)); have NB393_390 := zA.mk ((by rw [hg]; exact Nat.ne_of_gt (blk_lt (g := gb390) (o := .cells #[.slice A1_0 l1_0.length c1_0, .slice A1_1 l1_1.length c1_1] 31 (0, 0)) (aB BK390)) : gb393 ≠ gb390)); replace BK390 := zA.mk (zB (aB BK390) hb); have NB391_393 := zA.mk ((by rw [hg]; exact Nat.ne_of_lt (blk_lt (aB BK391)) : gb391 ≠ gb393)); have NB393_391 := zA.mk ((by rw [hg]; exact Nat.ne_of_gt (blk_lt (g := gb391) (o := .cells #[.int .i64 a3_0, .int .i64 a3_1, .int .u8 a3_2, .int .i64 a3_3, .int .i64 a3_4, .float .f64 a3_5] 35 (0, 0)) (aB BK391)) : gb393 ≠ gb391)); replace BK391 := zA.mk (zB (aB BK391) hb); clear hb hbox hg; have hnb14 := NB393_390.out; have hnc14 := NB390_393.out; have hnb15 := NB393_391.out; have hnc15 := NB391_393.out; obtain ⟨hcz16_0, hcz16_1, hcz16_2, hcz16_3, hfz16_0, hfz16_1, hfz16_2, hfz16_3⟩ := aC4 BK393) | ((with_reducible refine gate_store (t := 45) (p := 13) rfl ?_); refine store_event (t := 45) (p := 13) (v := ?vo_w17) (w1 := ((((w13.setCell ⟨gb393, 0, none⟩ (.int .i64 ((rd_T45 l2 x16_1).f0))).setCell ⟨gb393, 1, none⟩ (.int .i64 ((rd_T45 l2 x16_1).f1))).setCell ⟨gb393, 2, none⟩ (.int .i64 ((rd_T45 l2 x16_1).f2))).setCell ⟨gb393, 3, none⟩ (.int .u8 ((rd_T45 l2 x16_1).f3)))) ?hg ?ho ?hn ?hr ?_; (case ho => rfl); (case hg => rfl); (case hn => rfl); (case hr => first | (go_simp; done) | (go_simp; rfl)); intro w17 hw; have n0_ : zA (Kd.S (Kd.slice 5 (Kd.int .u8)) 51 w17 w.heap.size (fun _ => True) u11 x11_1) := ⟨(by rw [hw]; exact (by (with_reducible repeat (first | apply Kd.S_alloc | apply Kd.S_drewN | apply Kd.S_drew)); exact Kd.S_mono (Kd.S_far (p := ⟨gb393, 3, none⟩) (Kd.S_far (p := ⟨gb393, 2, none⟩) (Kd.S_far (p := ⟨gb393, 1, none⟩) (Kd.S_far (p := ⟨gb393, 0, none⟩) (Kd.S_types HO_11.out BK393.out (by decide)) (fun _ hk => hk.2) (.int .i64 ((rd_T45 l2 x16_1).f0))) (fun _ hk => hk.2) (.int .i64 ((rd_T45 l2 x16_1).f1))) (fun _ hk => hk.2) (.int .i64 ((rd_T45 l2 x16_1).f2))) (fun _ hk => hk.2) (.int .u8 ((rd_T45 l2 x16_1).f3))) (fun _ hk => trivial)))⟩; have n1_ : zA (w17.heap[gb390]? = some (.cells #[.slice A1_0 l1_0.length c1_0, .slice A1_1 l1_1.length c1_1] 31 (0, 0))) := ⟨(by rw [hw]; exact (aB BK390))⟩; have n2_ : zA (w17.heap[gb391]? = some (.cells #[.int .i64 a3_0, .int .i64 a3_1, .int .u8 a3_2, .int .i64 a3_3, .int .i64 a3_4, .float .f64 a3_5] 35 (0, 0))) := ⟨(by rw [hw]; exact (aB BK391))⟩; have n3_ : zA (w17.heap[gb393]? = some (.cells #[.int .i64 ((rd_T45 l2 x16_1).f0), .int .i64 ((rd_T45 l2 x16_1).f1), .int .i64 ((rd_T45 l2 x16_1).f2), .int .u8 ((rd_T45 l2 x16_1).f3)] 45 (0, 0))) := ⟨(by rw [hw]; exact (by (with_reducible repeat (first | refine zF ?_ _ | refine zD ?_ | refine zG ?_ _)); refine blk_put (cs := #[.int .i64 ((rd_T45 l2 x16_1).f0), .int .i64 ((rd_T45 l2 x16_1).f1), .int .i64 ((rd_T45 l2 x16_1).f2), .int .u8 0]) ?_ 3 _ rfl; (with_reducible repeat (first | refine zF ?_ _ | refine zD ?_ | refine zG ?_ _)); refine blk_put (cs := #[.int .i64 ((rd_T45 l2 x16_1).f0), .int .i64 ((rd_T45 l2 x16_1).f1), .int .i64 0, .int .u8 0]) ?_ 2 _ rfl; (with_reducible repeat (first | refine zF ?_ _ | refine zD ?_ | refine zG ?_ _)); refine blk_put (cs := #[.int .i64 ((rd_T45 l2 x16_1).f0), .int .i64 0, .int .i64 0, .int .u8 0]) ?_ 1 _ rfl; (with_reducible repeat (first | refine zF ?_ _ | refine zD ?_ | refine zG ?_ _)); refine blk_put (cs := #[.int .i64 0, .int .i64 0, .int .i64 0, .int .u8 0]) ?_ 0 _ rfl; (with_reducible repeat (first | refine zF ?_ _ | refine zD ?_ | refine zG ?_ _)); exact BK393.out))⟩; have n4_ : zA (Below w.heap.size w w17) := ⟨(by rw [hw]; exact (aL HB))⟩; clear hw; clear HO_11; clear BK390; clear BK391; clear BK393; clear HB; have HO_11 := n0_; have BK390 := n1_; have BK391 := n2_; have BK393 := n3_; have HB := n4_; clear n0_ n1_ n2_ n3_ n4_; have hnb18 := NB390_391.out; have hnc18 := NB391_390.out; obtain ⟨hcz19_0, hcz19_1, hfz19_0, hfz19_1⟩ := aC2 BK390; obtain ⟨hcz20_0, hcz20_1, hcz20_2, hcz20_3, hfz20_0, hfz20_1, hfz20_2, hfz20_3⟩ := aC4 BK393; obtain ⟨hcz21_0, hcz21_1, hcz21_2, hcz21_3, hcz21_4, hcz21_5, hfz21_0, hfz21_1, hfz21_2, hfz21_3, hfz21_4, hfz21_5⟩ := aC6 BK391) | ((with_reducible refine gate_callee (f := 25) rfl ?_); refine goesL_ (some 26) rfl rfl Try.func25 (by kernel_rfl) rfl #[.slice A0 l0.length c0, .agg #[.slice A1_0 l1_0.length c1_0, .slice A1_1 l1_1.length c1_1], .agg #[.int .i64 ((rd_T45 l2 x16_1).f0), .int .i64 ((rd_T45 l2 x16_1).f1), .int .i64 ((rd_T45 l2 x16_1).f2), .int .u8 ((rd_T45 l2 x16_1).f3)], .agg #[.int .i64 a3_0, .int .i64 a3_1, .int .u8 a3_2, .int .i64 a3_3, .int .i64 a3_4, .float .f64 a3_5], .bool a4] rfl aT ?_; (with_reducible refine (draw_Row.calls k1 _ _ l0 _ _ l1_0 _ _ l1_1 ((rd_T45 l2 x16_1).f0) ((rd_T45 l2 x16_1).f1) ((rd_T45 l2 x16_1).f2) ((rd_T45 l2 x16_1).f3) a3_0 a3_1 a3_2 a3_3 a3_4 a3_5 a4 t394 _ ?side1 ?side2 ?side3 ?side4 ?side5 ?side6 A11.out).mono ?_); (case side1 => exact aA HR0 HB); (case side2 => exact HC0.out); (case side3 => exact aA HR1_0 HB); (case side4 => exact HC1_0.out); (case side5 => exact aA HR1_1 HB); (case side6 => exact HC1_1.out); rintro e w22 ⟨v395, rfl, ho0, hb⟩; refine ⟨_, rfl, ?_⟩; replace HO_11 := zA.mk (Kd.S_elder' (aS HO_11) (Kd.R_base ho0) hb); have HO396 := zA.mk (Kd.zT ho0 (zE (aL HB))); replace BK390 := zA.mk (zB (aB BK390) hb); replace BK391 := zA.mk (zB (aB BK391) hb); replace BK393 := zA.mk (zB (aB BK393) hb); replace HB := zA.mk (zH (aL HB) hb); (try clear hb); (try clear hb2); (try clear hk); (try clear hi); (try clear ho0); obtain ⟨Ao24, co24, eo24⟩ := Kd.zS HO396.out; subst eo24) | ((with_reducible refine gate_builtin (b := .append) (xs := #[.tmp 20, .tmp 27]) rfl ?_); at_builtin; refine Kd.S_append (Kd.slice 5 (Kd.int .u8)) (w0 := w) w.heap.size rfl (.tmp 20) (.tmp 27) 54 51 (.slice none 0 0) 24 rfl Try.underlying54 info51 rfl (by decide) (by omega) u11 x11_1 t394 [.slice Ao24 t394.length co24] (fun _ => True) (fun k_ => some k_ = (.slice Ao24 t394.length co24 : Value).ownBlock) rfl rfl ?aP (fun k_ hk_ => ((Kd.zU (ok' := fun k_ => ((fun _ => True)) k_ ∧ some k_ ≠ (u11 : Value).ownBlock) (Kd.R_apart' (HO396.out) (Kd.S_typed HO_11.out) (by decide)) (fun k_ hk => ⟨trivial, hk.2⟩))).1 k_ hk_.symm) ?aF ?aO ?aB ?aS ?aL ?_; (case aP => exact Kd.M_row (Kd.zU (Kd.R_tight rfl (Kd.zU (ok' := fun k_ => ((fun _ => True)) k_ ∧ some k_ ≠ (u11 : Value).ownBlock) (Kd.R_apart' (HO396.out) (Kd.S_typed HO_11.out) (by decide)) (fun k_ hk => ⟨trivial, hk.2⟩))) (fun _ h_ => h_))); (case aB => exact (aL HB)); (case aF => exact (fun _ _ => trivial)); (case aO => exact (by (with_reducible repeat (first | apply Kd.S_alloc | apply Kd.S_drewN | apply Kd.S_drew)); exact Kd.S_mono HO_11.out (fun k_ hk => ⟨trivial, fun e_ => hk.2 e_⟩))); (case aS => exact (zE (aL HB))); (case aL => have := LMc12.out; omega); intro v398 w23 ho hb hg hat; rw [← Ny397.out] at ho; replace BK390 := zA.mk (blk_grown (g := gb390) (o := .cells #[.slice A1_0 l1_0.length c1_0, .slice A1_1 l1_1.length c1_1] 31 (0, 0)) (aB BK390) hg (Kd.S_ne HO_11.out BK390.out (by decide))); replace BK391 := zA.mk (blk_grown (g := gb391) (o := .cells #[.int .i64 a3_0, .int .i64 a3_1, .int .u8 a3_2, .int .i64 a3_3, .int .i64 a3_4, .float .f64 a3_5] 35 (0, 0)) (aB BK391) hg (Kd.S_ne HO_11.out BK391.out (by decide))); replace BK393 := zA.mk (blk_grown (g := gb393) (o := .cells #[.int .i64 ((rd_T45 l2 x16_1).f0), .int .i64 ((rd_T45 l2 x16_1).f1), .int .i64 ((rd_T45 l2 x16_1).f2), .int .u8 ((rd_T45 l2 x16_1).f3)] 45 (0, 0)) (aB BK393) hg (Kd.S_ne HO_11.out BK393.out (by decide))); replace HB := zA.mk (hb); have HO399 := zA.mk (ho); clear HO_11 HO396; clear ho hb hg hat))
  go_roundg k1
  case measure => have := HK1.out; omega
  case rel => exact ⟨(y397), (wrap64 (x16_1 + 1)), aZ, H', ⟨by have := HK1.out; omega⟩, ⟨aS HO399⟩, ⟨aB BK390⟩, ⟨aB BK391⟩, ⟨aL HB⟩⟩
end Go.Proofs.Ytfeidhmkmbgnoaa.F
end
