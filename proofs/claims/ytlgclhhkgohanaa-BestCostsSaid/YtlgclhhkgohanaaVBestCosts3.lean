/- Printed by a program: Lean functions that answer as the Go functions do, and the proofs of it. -/
import Derived.Test.YtlgclhhkgohanaaVBestCosts0
import Derived.Test.YtlgclhhkgohanaaVBestCosts2
import Derived.Test.YtlgclhhkgohanaaVBestCosts1
section
namespace Go.Proofs.Ytlgclhhkgohanaa.F
open Go.RowKit Go.Proofs.YtlgclhhkgohanaaW.PrintWords Go.Proofs.YtlgclhhkgohanaaW.PrintLast Go.Proofs.YtlgclhhkgohanaaW.PrintMore
attribute [local go_sem] max2_int min2_int max_two min_two max_three min_three max_four min_four   -- for this text's walks alone
set_option linter.unusedVariables false
set_option linter.unusedSimpArgs false
mutual
def stanzaref13_Cost.j0 : Nat → Int → Int → Bool → Bool → List (S62) → List Int → Int → Int → Int → Int → Int → Nat → Option (Int × Bool)
  | 0, _, _, _, _, _, _, _, _, _, _, _, _ => none
  | k + 1, x1, x2, x3, x26, x256000, x256001, x257000, x257001, x257002, x257003, x257004, x257005 => if x26 = true then (some (0, false)) else (if 0 ≤ x2 then (if x2 < (x256001.length : Int) then ((stanzaref13_Cells.f k x256000 x256001 x1 x2 (rd x256001 x2) x257001).bind fun t259 => (if t259 > x257000 then (some (0, false)) else (if x3 = true then (stanzaref13_Cost.j1 k x1 x2 0 x256000 x256001 x257000 x257001 x257002 x257003 x257004 x257005) else ((stanzaref13_Gaps.f k x256000 x256001 x1 x2).bind fun t260 => ((stanzaref12_Of.f (wrap64 (x257000 - t259)) t260).bind fun t261 => (if (FloatKind.f64.format.order t261 x257005 == some .gt) = true then (some (0, false)) else ((stanzaref12_Badness.f k t261).bind fun t262 => (stanzaref13_Cost.j1 k x1 x2 t262 x256000 x256001 x257000 x257001 x257002 x257003 x257004 x257005)))))))) else (none)) else (none))
def stanzaref13_Cost.j1 : Nat → Int → Int → Int → List (S62) → List Int → Int → Int → Int → Int → Int → Nat → Option (Int × Bool)
  | 0, _, _, _, _, _, _, _, _, _, _, _ => none
  | k + 1, x1, x2, x13, x256000, x256001, x257000, x257001, x257002, x257003, x257004, x257005 => if 0 ≤ x2 then (if x2 < (x256001.length : Int) then (if (rd x256001 x2) = 3 then (if 0 ≤ x1 then (if x1 < (x256001.length : Int) then (if (rd x256001 x1) = 3 then (some (wrap64 ((wrap64 ((wrap64 ((wrap64 (100 + (wrap64 (20 * x13)))) + (wrap64 (x13 * x13)))) + x257003)) + x257004), true)) else (some (wrap64 ((wrap64 ((wrap64 (100 + (wrap64 (20 * x13)))) + (wrap64 (x13 * x13)))) + x257003), true))) else (none)) else (none)) else (some (wrap64 ((wrap64 (100 + (wrap64 (20 * x13)))) + (wrap64 (x13 * x13))), true))) else (none)) else (none)
end
def stanzaref13_Cost.f (k : Nat) (l0_0 : List (S62)) (l0_1 : List Int) (a1 : Int) (a2 : Int) (a3 : Bool) (a4_0 : Int) (a4_1 : Int) (a4_2 : Int) (a4_3 : Int) (a4_4 : Int) (a4_5 : Nat) : Option (Int × Bool) := if a2 ≤ a1 then (stanzaref13_Cost.j0 k a1 a2 a3 true l0_0 l0_1 a4_0 a4_1 a4_2 a4_3 a4_4 a4_5) else (if 0 ≤ a2 then (if a2 < (l0_1.length : Int) then (stanzaref13_Cost.j0 k a1 a2 a3 ((rd l0_1 a2) == 0) l0_0 l0_1 a4_0 a4_1 a4_2 a4_3 a4_4 a4_5) else (none)) else (none))
theorem stanzaref13_Cost.mono_l : ∀ k, (∀ y0 y1 y2 y3 y4 y5 y6 y7 y8 y9 y10 y11, LeO (stanzaref13_Cost.j0 k y0 y1 y2 y3 y4 y5 y6 y7 y8 y9 y10 y11) (stanzaref13_Cost.j0 (k + 1) y0 y1 y2 y3 y4 y5 y6 y7 y8 y9 y10 y11)) ∧ (∀ y0 y1 y2 y3 y4 y5 y6 y7 y8 y9 y10, LeO (stanzaref13_Cost.j1 k y0 y1 y2 y3 y4 y5 y6 y7 y8 y9 y10) (stanzaref13_Cost.j1 (k + 1) y0 y1 y2 y3 y4 y5 y6 y7 y8 y9 y10))
  | 0 => ⟨fun _ _ _ _ _ _ _ _ _ _ _ _ r h => by simp [stanzaref13_Cost.j0] at h, fun _ _ _ _ _ _ _ _ _ _ _ r h => by simp [stanzaref13_Cost.j1] at h⟩
  | k + 1 => by
    obtain ⟨ih0, ih1⟩ := stanzaref13_Cost.mono_l k; refine ⟨?_, ?_⟩
    · intro y0 y1 y2 y3 y4 y5 y6 y7 y8 y9 y10 y11
      unfold stanzaref13_Cost.j0
      repeat' first
      | (with_reducible exact ih0 _ _ _ _ _ _ _ _ _ _ _ _)
      | (with_reducible exact ih1 _ _ _ _ _ _ _ _ _ _ _)
      | (with_reducible exact stanzaref12_Badness.mono _ _)
      | (with_reducible exact stanzaref13_Cells.mono _ _ _ _ _ _ _)
      | (with_reducible exact stanzaref13_Gaps.mono _ _ _ _ _)
      | (with_reducible exact LeO.refl _)
      | (with_reducible exact LeO.none _)
      | (with_reducible refine LeO.ite ?_ ?_)
      | (with_reducible refine LeO.bind ?_ (fun _ => ?_))
      | exact ih0 _ _ _ _ _ _ _ _ _ _ _ _
      | exact ih1 _ _ _ _ _ _ _ _ _ _ _
      | exact stanzaref12_Badness.mono _ _
      | exact stanzaref13_Cells.mono _ _ _ _ _ _ _
      | exact stanzaref13_Gaps.mono _ _ _ _ _
      | exact LeO.none _
      | refine LeO.ite ?_ ?_
      | refine LeO.bind ?_ (fun _ => ?_)
    · intro y0 y1 y2 y3 y4 y5 y6 y7 y8 y9 y10
      unfold stanzaref13_Cost.j1
      repeat' first
      | (with_reducible exact ih0 _ _ _ _ _ _ _ _ _ _ _ _)
      | (with_reducible exact ih1 _ _ _ _ _ _ _ _ _ _ _)
      | (with_reducible exact stanzaref12_Badness.mono _ _)
      | (with_reducible exact stanzaref13_Cells.mono _ _ _ _ _ _ _)
      | (with_reducible exact stanzaref13_Gaps.mono _ _ _ _ _)
      | (with_reducible exact LeO.refl _)
      | (with_reducible exact LeO.none _)
      | (with_reducible refine LeO.ite ?_ ?_)
      | (with_reducible refine LeO.bind ?_ (fun _ => ?_))
      | exact ih0 _ _ _ _ _ _ _ _ _ _ _ _
      | exact ih1 _ _ _ _ _ _ _ _ _ _ _
      | exact stanzaref12_Badness.mono _ _
      | exact stanzaref13_Cells.mono _ _ _ _ _ _ _
      | exact stanzaref13_Gaps.mono _ _ _ _ _
      | exact LeO.none _
      | refine LeO.ite ?_ ?_
      | refine LeO.bind ?_ (fun _ => ?_)
theorem stanzaref13_Cost.mono : ∀ a0 a1 a2 a3 a4 a5 a6 a7 a8 a9 a10 k, LeO (stanzaref13_Cost.f k a0 a1 a2 a3 a4 a5 a6 a7 a8 a9 a10) (stanzaref13_Cost.f (k + 1) a0 a1 a2 a3 a4 a5 a6 a7 a8 a9 a10) := by
  intro a0 a1 a2 a3 a4 a5 a6 a7 a8 a9 a10 k
  obtain ⟨ih0, ih1⟩ := stanzaref13_Cost.mono_l k; unfold stanzaref13_Cost.f
  repeat' first
      | (with_reducible exact ih0 _ _ _ _ _ _ _ _ _ _ _ _)
      | (with_reducible exact ih1 _ _ _ _ _ _ _ _ _ _ _)
      | (with_reducible exact stanzaref12_Badness.mono _ _)
      | (with_reducible exact stanzaref13_Cells.mono _ _ _ _ _ _ _)
      | (with_reducible exact stanzaref13_Gaps.mono _ _ _ _ _)
      | (with_reducible exact LeO.refl _)
      | (with_reducible exact LeO.none _)
      | (with_reducible refine LeO.ite ?_ ?_)
      | (with_reducible refine LeO.bind ?_ (fun _ => ?_))
      | exact ih0 _ _ _ _ _ _ _ _ _ _ _ _
      | exact ih1 _ _ _ _ _ _ _ _ _ _ _
      | exact stanzaref12_Badness.mono _ _
      | exact stanzaref13_Cells.mono _ _ _ _ _ _ _
      | exact stanzaref13_Gaps.mono _ _ _ _ _
      | exact LeO.none _
      | refine LeO.ite ?_ ?_
      | refine LeO.bind ?_ (fun _ => ?_)
def stanzaref13_Cost.T3 : Bool × List (List Nat × List Nat) := (true, [([], []), ([], []), ([], []), ([], []), ([3], [3]), ([], []), ([4, 5], [4, 5]), ([6], [6]), ([], []), ([8], [8]), ([0, 1, 2, 7, 9], [0, 1, 2, 7, 9]), ([10, 10, 0, 1, 2, 3, 4, 5, 6, 7, 8, 9, 10], [10])])
def stanzaref13_Cost.B3 : List Nat := [0, 0, 0, 0, 8, 0, 56, 120, 0, 256, 1023, 2047]
theorem stanzaref13_Cost.tab3 : rtab .any (opsOf Try.f20 3) = stanzaref13_Cost.T3 := by kernel_rfl
theorem stanzaref13_Cost.bits3 : waitsOk stanzaref13_Cost.T3.2 stanzaref13_Cost.B3 = true := by kernel_rfl
def stanzaref13_Cost.T8 : Bool × List (List Nat × List Nat) := (true, [([], []), ([0], [0]), ([], []), ([1, 2], [1, 2]), ([], []), ([], []), ([], []), ([4, 5, 6], [4, 5, 6]), ([3, 7, 7], [3, 7]), ([8, 8, 0, 1, 2, 3, 4, 5, 6, 7, 8], [8])])
def stanzaref13_Cost.B8 : List Nat := [0, 1, 0, 7, 0, 0, 0, 112, 255, 511]
theorem stanzaref13_Cost.tab8 : rtab .any (opsOf Try.f20 8) = stanzaref13_Cost.T8 := by kernel_rfl
theorem stanzaref13_Cost.bits8 : waitsOk stanzaref13_Cost.T8.2 stanzaref13_Cost.B8 = true := by kernel_rfl
set_option maxHeartbeats 8000000 in
set_option maxRecDepth 100000 in
theorem stanzaref13_Cost.calls (k : Nat) (A0_0 : Option Addr) (c0_0 : Nat) (l0_0 : List (S62)) (A0_1 : Option Addr) (c0_1 : Nat) (l0_1 : List Int) (a1 : Int) (a2 : Int) (a3 : Bool) (a4_0 : Int) (a4_1 : Int) (a4_2 : Int) (a4_3 : Int) (a4_4 : Int) (a4_5 : Nat) (r1 : Int) (r2 : Bool) (w : World) (hr0_0 : Kd.C k62 w A0_0 l0_0.length l0_0) (hc0_0 : l0_0.length ≤ c0_0) (hr0_1 : Kd.C (Kd.int .u8) w A0_1 l0_1.length l0_1) (hc0_1 : l0_1.length ≤ c0_1) (h : stanzaref13_Cost.f k l0_0 l0_1 a1 a2 a3 a4_0 a4_1 a4_2 a4_3 a4_4 a4_5 = some (r1, r2)) :
    Calls Try.prog 20 #[.agg #[.slice A0_0 l0_0.length c0_0, .slice A0_1 l0_1.length c0_1], .int .i64 a1, .int .i64 a2, .bool a3, .agg #[.int .i64 a4_0, .int .i64 a4_1, .int .u8 a4_2, .int .i64 a4_3, .int .i64 a4_4, .float .f64 a4_5]] w fun e w' => e = .returned (.tuple #[.int .i64 r1, .bool r2]) ∧ Below w.heap.size w w' := by
  have hu31 := Try.underlying31; have hu35 := Try.underlying35; have HR0_0 := zA.mk hr0_0; have HC0_0 := zA.mk hc0_0; clear hr0_0 hc0_0; have HR0_1 := zA.mk hr0_1; have HC0_1 := zA.mk hc0_1; clear hr0_1 hc0_1; have HB := zA.mk (Below.refl w.heap.size w); have H : (if a2 ≤ a1 then (stanzaref13_Cost.j0 k a1 a2 a3 true l0_0 l0_1 a4_0 a4_1 a4_2 a4_3 a4_4 a4_5) else (if 0 ≤ a2 then (if a2 < (l0_1.length : Int) then (stanzaref13_Cost.j0 k a1 a2 a3 ((rd l0_1 a2) == 0) l0_0 l0_1 a4_0 a4_1 a4_2 a4_3 a4_4 a4_5) else (none)) else (none))) = some (r1, r2) := h
  clear h; have HC6 := zA.mk H; clear H; go_enter Try.func20, Try.ntmps20
  go_upto_region 1 with (first | ((with_reducible refine gate_dst (N := 5) rfl ?_); refine box_event ?hg (N := 5) ?hd (cs := #[.slice A0_0 l0_0.length c0_0, .slice A0_1 l0_1.length c0_1]) (t := 31) ?hr ?_; (case hd => rfl); (case hg => rfl); (case hr => first | (go_simp; done) | (go_simp; rfl)); intro gb255 hg w7 hbox hb; have n0_ := zA.mk (zM (by repeat (first | (with_reducible first | exact HB.out | apply zI | apply zF | apply zH) | exact HB.out)) hb); have n1_ := zA.mk (hbox); have n2_ := zA.mk ((by rw [hg]; exact (zL (by repeat (first | (with_reducible first | exact HB.out | apply zI | apply zF | apply zH) | exact HB.out))) : w.heap.size ≤ gb255)); have n3_ := zA.mk ((by rw [hg]; exact (zL (by repeat (first | (with_reducible first | exact HB.out | apply zI | apply zF | apply zH) | exact HB.out))) : w.heap.size ≤ gb255)); clear HB; have HB := n0_; have BK255 := n1_; have GW255 := n2_; have GE255 := n3_; clear n0_ n1_ n2_ n3_; clear hb hbox hg) | ((with_reducible refine gate_dst (N := 9) rfl ?_); refine box_event ?hg (N := 9) ?hd (cs := #[.int .i64 a4_0, .int .i64 a4_1, .int .u8 a4_2, .int .i64 a4_3, .int .i64 a4_4, .float .f64 a4_5]) (t := 35) ?hr ?_; (case hd => rfl); (case hg => rfl); (case hr => first | (go_simp; done) | (go_simp; rfl)); intro gb256 hg w8 hbox hb; have n0_ := zA.mk (zK (g := gb255) (o := .cells #[.slice A0_0 l0_0.length c0_0, .slice A0_1 l0_1.length c0_1] 31 (0, 0)) (by (with_reducible repeat (first | refine zC ?_ _ | refine zD ?_ | refine zB ?_ _)); exact BK255.out) hb); have n1_ := zA.mk (zM (by repeat (first | (with_reducible first | exact HB.out | apply zI | apply zF | apply zH | refine zE ?_ GE255.out) | exact HB.out)) hb); have n2_ := zA.mk (hbox); have n3_ := zA.mk ((by rw [hg]; exact (zL (by repeat (first | (with_reducible first | exact HB.out | apply zI | apply zF | apply zH | refine zE ?_ GE255.out) | exact HB.out))) : w.heap.size ≤ gb256)); have n4_ := zA.mk ((by rw [hg]; exact (zL (by repeat (first | (with_reducible first | exact HB.out | apply zI | apply zF | apply zH | refine zE ?_ GE255.out) | exact HB.out))) : w.heap.size ≤ gb256)); have n5_ := zA.mk ((by rw [hg]; exact Nat.ne_of_lt (blk_lt (g := gb255) (o := .cells #[.slice A0_0 l0_0.length c0_0, .slice A0_1 l0_1.length c0_1] 31 (0, 0)) (by (with_reducible repeat (first | refine zC ?_ _ | refine zD ?_ | refine zB ?_ _)); exact BK255.out)) : gb255 ≠ gb256)); have n6_ := zA.mk ((by rw [hg]; exact Nat.ne_of_gt (blk_lt (g := gb255) (o := .cells #[.slice A0_0 l0_0.length c0_0, .slice A0_1 l0_1.length c0_1] 31 (0, 0)) (by (with_reducible repeat (first | refine zC ?_ _ | refine zD ?_ | refine zB ?_ _)); exact BK255.out)) : gb256 ≠ gb255)); clear BK255; clear HB; have BK255 := n0_; have HB := n1_; have BK256 := n2_; have GW256 := n3_; have GE256 := n4_; have NB255_256 := n5_; have NB256_255 := n6_; clear n0_ n1_ n2_ n3_ n4_ n5_ n6_; clear hb hbox hg))
  (try simp only [Act.put, sA_, sB_, sC_])
  go_cut [26] (fun v26 wc => ∃ (kq : Nat) (x26_5 : Bool), v26 = .bool x26_5 ∧ zA (stanzaref13_Cost.j0 kq a1 a2 a3 x26_5 l0_0 l0_1 a4_0 a4_1 a4_2 a4_3 a4_4 a4_5 = some (r1, r2)) ∧ zA (kq ≤ k) ∧ zA (wc.heap[gb255]? = some (.cells #[(.slice A0_0 l0_0.length c0_0), (.slice A0_1 l0_1.length c0_1)] 31 (0, 0))) ∧ zA (wc.heap[gb256]? = some (.cells #[.int .i64 a4_0, .int .i64 a4_1, .int .u8 a4_2, .int .i64 a4_3, .int .i64 a4_4, .float .f64 a4_5] 35 (0, 0))) ∧ zA (Below w.heap.size w wc))
  case first =>
    have H := HC6.out; clear HC6; by_cases c9 : a2 ≤ a1
    · rw [if_pos c9] at H
      have c9b0 : decide (a2 ≤ a1) = true := decide_eq_true c9
      clear c9; (first | rw [c9b0] | (simp only [i64_w, i32_w]; rw [c9b0]) | skip)
      have H' := zA.mk H
      clear H; go_wp2
      go_meet
      case rel => exact ⟨_, (true), (by first | rfl | (simp; done) | (simp [*]; done)), H', ⟨by first | omega | exact Nat.le_refl _⟩, ⟨by (with_reducible repeat (first | refine zC ?_ _ | refine zD ?_ | refine zB ?_ _)); exact BK255.out⟩, ⟨by (with_reducible repeat (first | refine zC ?_ _ | refine zD ?_ | refine zB ?_ _)); exact BK256.out⟩, ⟨by repeat (first | (with_reducible first | exact HB.out | apply zI | apply zF | apply zH | refine zE ?_ GE255.out | refine zE ?_ GE256.out) | exact HB.out)⟩⟩
    rw [if_neg c9] at H; have c9b0 : decide (a2 ≤ a1) = false := decide_eq_false c9
    clear c9; (first | rw [c9b0] | (simp only [i64_w, i32_w]; rw [c9b0]) | skip)
    by_cases c10 : 0 ≤ a2
    rotate_left
    · rw [if_neg c10] at H
      exact absurd H (by simp)
    rw [if_pos c10] at H; have c10b0 : decide (0 ≤ a2) = true := decide_eq_true c10
    clear c10; by_cases c11 : a2 < (l0_1.length : Int)
    rotate_left
    · rw [if_neg c11] at H
      exact absurd H (by simp)
    rw [if_pos c11] at H; have c11b0 : decide (a2 < (l0_1.length : Int)) = true := decide_eq_true c11
    clear c11; have H' := zA.mk H
    clear H; have hnb12 := NB255_256.out; have hnc12 := NB256_255.out; have hcz13_0 : w8.cell? ⟨gb255, 0, none⟩ = some (.slice A0_0 l0_0.length c0_0) := (zG BK255.out 0).trans rfl
    have hcz13_1 : w8.cell? ⟨gb255, 1, none⟩ = some (.slice A0_1 l0_1.length c0_1) := (zG BK255.out 1).trans rfl
    have hfz13_0 := zJ BK255.out 0; have hfz13_1 := zJ BK255.out 1; have p257 : 0 ≤ (a2 : Int) := of_decide_eq_true (by first | (with_reducible assumption) | assumption)
    have q257 : a2 < (l0_1.length : Int) := of_decide_eq_true (by first | (with_reducible assumption) | assumption)
    obtain ⟨ad257, e257, hx257_0⟩ := Kd.at_int HR0_1.out a2 p257 q257; cases e257
    replace hx257_0 := (HB.out.cell (World.block_lt_of_cell? w _ hx257_0)).trans hx257_0; replace p257 := eq_true p257; replace q257 := eq_true q257; go_wp2
    go_meet
    case rel => exact ⟨_, (((rd l0_1 a2) == 0)), (by first | rfl | (simp; done) | (simp [*]; done)), H', ⟨by first | omega | exact Nat.le_refl _⟩, ⟨by (with_reducible repeat (first | refine zC ?_ _ | refine zD ?_ | refine zB ?_ _)); exact BK255.out⟩, ⟨by (with_reducible repeat (first | refine zC ?_ _ | refine zD ?_ | refine zB ?_ _)); exact BK256.out⟩, ⟨by repeat (first | (with_reducible first | exact HB.out | apply zI | apply zF | apply zH | refine zE ?_ GE255.out | refine zE ?_ GE256.out) | exact HB.out)⟩⟩
  clear HC6; try clear c1
  try clear c2
  try clear p2
  try clear q2
  try clear hx2
  try clear c9
  try clear c9b0
  try clear c10
  try clear c10b0
  try clear c11
  try clear c11b0
  try clear c12
  try clear hcz13_0
  try clear hcz13_1
  try clear hfz13_0
  try clear hfz13_1
  try clear hx257_0
  try clear p257
  try clear q257
  obtain ⟨kq, x26_5, rfl, HA, HJ5, BK255, BK256, HB⟩ := hcut; cases kq with
  | zero => exact absurd HA.out (by simp [stanzaref13_Cost.j0])
  | succ kj5 =>
    have H := HA.out; clear HA; simp only [stanzaref13_Cost.j0] at H; by_cases c14 : x26_5 = true
    · subst c14
      have H1 : (some (0, false)) = some (r1, r2) := by rw [if_pos rfl] at H; exact H
      clear H; have H := H1; clear H1; simp only [Option.some.injEq, Prod.mk.injEq] at H; obtain ⟨rfl, rfl⟩ := H; go_wp2
      go_ret2
      exact ⟨by first | rfl | (simp [errW_none, errW_some] <;> rfl) | (simp [*, errW_none, errW_some] <;> rfl), by repeat (first | (with_reducible first | exact HB.out | apply zI | apply zF | apply zH | refine zE ?_ GE255.out | refine zE ?_ GE256.out) | exact HB.out)⟩
    replace c14 := Bool.eq_false_iff.mpr c14; subst c14; have H1 : (if 0 ≤ a2 then (if a2 < (l0_1.length : Int) then ((stanzaref13_Cells.f kj5 l0_0 l0_1 a1 a2 (rd l0_1 a2) a4_1).bind fun t259 => (if t259 > a4_0 then (some (0, false)) else (if a3 = true then (stanzaref13_Cost.j1 kj5 a1 a2 0 l0_0 l0_1 a4_0 a4_1 a4_2 a4_3 a4_4 a4_5) else ((stanzaref13_Gaps.f kj5 l0_0 l0_1 a1 a2).bind fun t260 => ((stanzaref12_Of.f (wrap64 (a4_0 - t259)) t260).bind fun t261 => (if (FloatKind.f64.format.order t261 a4_5 == some .gt) = true then (some (0, false)) else ((stanzaref12_Badness.f kj5 t261).bind fun t262 => (stanzaref13_Cost.j1 kj5 a1 a2 t262 l0_0 l0_1 a4_0 a4_1 a4_2 a4_3 a4_4 a4_5)))))))) else (none)) else (none)) = some (r1, r2) := by rw [if_neg (show ¬ (false = true) by decide)] at H; exact H
    clear H; have H := H1; clear H1; by_cases c15 : 0 ≤ a2
    rotate_left
    · rw [if_neg c15] at H
      exact absurd H (by simp)
    rw [if_pos c15] at H; have c15b0 : decide (0 ≤ a2) = true := decide_eq_true c15
    clear c15; by_cases c16 : a2 < (l0_1.length : Int)
    rotate_left
    · rw [if_neg c16] at H
      exact absurd H (by simp)
    rw [if_pos c16] at H; have c16b0 : decide (a2 < (l0_1.length : Int)) = true := decide_eq_true c16
    clear c16; replace H := Option.bind_eq_some_iff.mp H; obtain ⟨t259, A170, H⟩ := H; replace H : (if t259 > a4_0 then (some (0, false)) else (if a3 = true then (stanzaref13_Cost.j1 kj5 a1 a2 0 l0_0 l0_1 a4_0 a4_1 a4_2 a4_3 a4_4 a4_5) else ((stanzaref13_Gaps.f kj5 l0_0 l0_1 a1 a2).bind fun t260 => ((stanzaref12_Of.f (wrap64 (a4_0 - t259)) t260).bind fun t261 => (if (FloatKind.f64.format.order t261 a4_5 == some .gt) = true then (some (0, false)) else ((stanzaref12_Badness.f kj5 t261).bind fun t262 => (stanzaref13_Cost.j1 kj5 a1 a2 t262 l0_0 l0_1 a4_0 a4_1 a4_2 a4_3 a4_4 a4_5))))))) = some (r1, r2) := H
    have A17 := zA.mk A170; clear A170; by_cases c18 : t259 > a4_0
    · rw [if_pos c18] at H
      have c18b0 : decide (a4_0 < t259) = true := decide_eq_true c18
      clear c18; simp only [Option.some.injEq, Prod.mk.injEq] at H; obtain ⟨rfl, rfl⟩ := H; try go_wp2
      have n0_ := zA.mk (zD BK255.out); have n1_ := zA.mk (zD BK256.out); have n2_ := zA.mk (zH HB.out); clear BK255; clear BK256; clear HB; have BK255 := n0_; have BK256 := n1_; have HB := n2_; clear n0_ n1_ n2_; have p258 : 0 ≤ (a2 : Int) := of_decide_eq_true (by first | (with_reducible assumption) | assumption)
      have q258 : a2 < (l0_1.length : Int) := of_decide_eq_true (by first | (with_reducible assumption) | assumption)
      obtain ⟨ad258, e258, hx258_0⟩ := Kd.at_int HR0_1.out a2 p258 q258; have hw258_0 := hx258_0; cases e258
      replace hx258_0 := (HB.out.cell (World.block_lt_of_cell? w _ hx258_0)).trans hx258_0; replace p258 := eq_true p258; replace q258 := eq_true q258; refine start_ (n := 12) (S := fun w' => w'.cell? ⟨gb255, 0, none⟩ = some (.slice A0_0 l0_0.length c0_0) ∧ w'.cell? ⟨gb255, 1, none⟩ = some (.slice (some ad258) l0_1.length c0_1) ∧ w'.cell? ⟨gb256, 0, none⟩ = some (.int .i64 a4_0) ∧ w'.cell? ⟨gb256, 1, none⟩ = some (.int .i64 a4_1) ∧ w'.cell? ⟨gb256, 2, none⟩ = some (.int .u8 a4_2) ∧ w'.cell? ⟨gb256, 3, none⟩ = some (.int .i64 a4_3) ∧ w'.cell? ⟨gb256, 4, none⟩ = some (.int .i64 a4_4) ∧ w'.cell? ⟨gb256, 5, none⟩ = some (.float .f64 a4_5) ∧ w'.cell? (ad258.add (a2).toNat) = some (.int .u8 (rd l0_1 a2))) (ds := []) #[false, false, false, false, false, false, false, false, false, false, false, false] (by kernel_rfl) rfl rfl ⟨(zG BK255.out 0).trans rfl, (zG BK255.out 1).trans rfl, (zG BK256.out 0).trans rfl, (zG BK256.out 1).trans rfl, (zG BK256.out 2).trans rfl, (zG BK256.out 3).trans rfl, (zG BK256.out 4).trans rfl, (zG BK256.out 5).trans rfl, ((HB.out.cell (World.block_lt_of_cell? w _ hw258_0)).trans hw258_0)⟩ (fun hHeld => ?_); refine with_tabW stanzaref13_Cost.tab3 stanzaref13_Cost.bits3 (fun HT_ HW_ => ?_)
      generalize wc.drew = w19 at BK255 BK256 HB hx258_0 hHeld ⊢
      refine pure_ (i := 1) (N := some 28) (v := ?_) (a' := ?_) #[false, true, false, false, false, false, false, false, false, false, false, false] rfl rfl (any_of HT_.out (by kernel_rfl)) (fun _ _ _ h => h) (Or.inl ⟨by rfl, ?_⟩) ?_ ?_
      rotate_left
      · intro w'
        go_simp
        with_reducible rfl
      rotate_left
      · simp only [Act.put, sA_, sB_, sC_, i64_w, i32_w]
        rfl
      refine pure_ (i := 2) (N := some 29) (v := ?_) (a' := ?_) #[false, true, true, false, false, false, false, false, false, false, false, false] rfl rfl (any_of HT_.out (by kernel_rfl)) (fun _ _ _ h => h) (Or.inl ⟨by rfl, ?_⟩) ?_ ?_
      rotate_left
      · intro w'
        go_simp
        with_reducible rfl
      rotate_left
      · simp only [Act.put, sA_, sB_, sC_, i64_w, i32_w]
        rfl
      refine pure_ (i := 3) (N := some 30) (v := ?_) (a' := ?_) #[false, true, true, true, false, false, false, false, false, false, false, false] rfl rfl (any_of HT_.out (by kernel_rfl)) (fun _ _ _ h => h) (Or.inl ⟨by rfl, ?_⟩) ?_ ?_
      rotate_left
      · intro w'
        go_simp
        with_reducible rfl
      rotate_left
      · simp only [Act.put, sA_, sB_, sC_, i64_w, i32_w]
        rfl
      refine pure_ (i := 5) (N := some 32) (v := ?_) (a' := ?_) #[false, true, true, true, false, true, false, false, false, false, false, false] rfl rfl (any_of HT_.out (by kernel_rfl)) (fun _ _ _ h => h) (Or.inl ⟨by rfl, ?_⟩) ?_ ?_
      rotate_left
      · intro w'
        go_simp
        with_reducible rfl
      rotate_left
      · simp only [Act.put, sA_, sB_, sC_, i64_w, i32_w]
        rfl
      refine pure_ (i := 8) (N := some 35) (v := ?_) (a' := ?_) #[false, true, true, true, false, true, false, false, true, false, false, false] rfl rfl (any_of HT_.out (by kernel_rfl)) (fun _ _ _ h => h) (Or.inl ⟨by rfl, ?_⟩) ?_ ?_
      rotate_left
      · intro w'
        go_simp
        with_reducible rfl
      rotate_left
      · simp only [Act.put, sA_, sB_, sC_, i64_w, i32_w]
        rfl
      refine take_ (i := 0) (N := some 27) (v := ?_) (a' := ?_) #[true, true, true, true, false, true, false, false, true, false, false, false] rfl rfl (take_ofW HT_.out HW_.out (by kernel_rfl)) (fun _ _ _ h => h) (Or.inl ⟨by rfl, ?_⟩) hHeld ?_ ?_
      rotate_left
      · rintro w' ⟨s0, s1, s2, s3, s4, s5, s6, s7, s8⟩
        go_simp
        with_reducible rfl
      rotate_left
      · simp only [Act.put, sA_, sB_, sC_, i64_w, i32_w]
        rfl
      refine take_ (i := 4) (N := some 31) (v := ?_) (a' := ?_) #[true, true, true, true, true, true, false, false, true, false, false, false] rfl rfl (take_ofW HT_.out HW_.out (by kernel_rfl)) (fun _ _ _ h => h) (Or.inl ⟨by rfl, ?_⟩) hHeld ?_ ?_
      rotate_left
      · rintro w' ⟨s0, s1, s2, s3, s4, s5, s6, s7, s8⟩
        go_simp
        with_reducible rfl
      rotate_left
      · simp only [Act.put, sA_, sB_, sC_, i64_w, i32_w]
        rfl
      refine pure_ (i := 6) (N := some 33) (v := ?_) (a' := ?_) #[true, true, true, true, true, true, true, false, true, false, false, false] rfl rfl (any_of HT_.out (by kernel_rfl)) (fun _ _ _ h => h) (Or.inl ⟨by rfl, ?_⟩) ?_ ?_
      rotate_left
      · intro w'
        go_simp
        with_reducible rfl
      rotate_left
      · simp only [Act.put, sA_, sB_, sC_, i64_w, i32_w]
        rfl
      refine take_ (i := 7) (N := some 34) (v := ?_) (a' := ?_) (tf_ 9 12) rfl rfl (take_ofW HT_.out HW_.out (by kernel_rfl)) (fun _ _ _ h => h) (Or.inl ⟨by rfl, ?_⟩) hHeld ?_ ?_
      rotate_left
      · rintro w' ⟨s0, s1, s2, s3, s4, s5, s6, s7, s8⟩
        go_simp
        with_reducible rfl
      rotate_left
      · simp only [Act.put, sA_, sB_, sC_, i64_w, i32_w]
        rfl
      refine take_ (i := 9) (N := some 36) (v := ?_) (a' := ?_) (tf_ 10 12) rfl rfl (take_ofW HT_.out HW_.out (by kernel_rfl)) (fun _ _ _ h => h) (Or.inl ⟨by rfl, ?_⟩) hHeld ?_ ?_
      rotate_left
      · rintro w' ⟨s0, s1, s2, s3, s4, s5, s6, s7, s8⟩
        go_simp
        with_reducible rfl
      rotate_left
      · simp only [Act.put, sA_, sB_, sC_, i64_w, i32_w]
        rfl
      refine one_ (i := 10) (N := some 37) #[true, true, true, true, true, true, true, true, true, true, true, false] rfl rfl (one_of HT_.out (by kernel_rfl)) (by decide) (fun K hK => ?_)
      refine goes_ Try.func18 (by kernel_rfl) rfl #[.agg #[.slice A0_0 l0_0.length c0_0, .slice (some ad258) l0_1.length c0_1], .int .i64 a1, .int .i64 a2, .int .u8 (rd l0_1 a2), .int .i64 a4_1] (by rfl) rfl rfl (by (try simp only [List.map_toArray, List.map_cons, List.map_nil]); first | done | rfl | (simp only [List.length_drop, List.length_take]; rfl)) ?_
      with_reducible refine (stanzaref13_Cells.calls kj5 _ _ l0_0 _ _ l0_1 a1 a2 (rd l0_1 a2) a4_1 t259 _ ?side1 ?side2 ?side3 ?side4 A17.out).mono ?_
      (case side1 => repeat (first | exact (Kd.C_below HR0_0.out HB.out) | (with_reducible refine Kd.C_alloc ?_ _) | (with_reducible refine Kd.C_drewN ?_ _) | (with_reducible refine Kd.C_drew ?_)))
      (case side2 => exact HC0_0.out)
      (case side3 => repeat (first | exact (Kd.C_below HR0_1.out HB.out) | (with_reducible refine Kd.C_alloc ?_ _) | (with_reducible refine Kd.C_drewN ?_ _) | (with_reducible refine Kd.C_drew ?_)))
      (case side4 => exact HC0_1.out)
      rintro e w20 ⟨rfl, hb⟩
      refine ⟨_, rfl, ?_⟩
      have n0_ := zA.mk (zK (g := gb255) (o := .cells #[.slice A0_0 l0_0.length c0_0, .slice (some ad258) l0_1.length c0_1] 31 (0, 0)) (by (with_reducible repeat (first | refine zC ?_ _ | refine zD ?_ | refine zB ?_ _)); exact BK255.out) hb)
      have n1_ := zA.mk (zK (g := gb256) (o := .cells #[.int .i64 a4_0, .int .i64 a4_1, .int .u8 a4_2, .int .i64 a4_3, .int .i64 a4_4, .float .f64 a4_5] 35 (0, 0)) (by (with_reducible repeat (first | refine zC ?_ _ | refine zD ?_ | refine zB ?_ _)); exact BK256.out) hb)
      have n2_ := zA.mk (zM (by repeat (first | (with_reducible first | exact HB.out | apply zI | apply zF | apply zH | refine zE ?_ GE255.out | refine zE ?_ GE256.out) | exact HB.out)) hb)
      clear BK255 BK256 HB; have BK255 := n0_; have BK256 := n1_; have HB := n2_; clear n0_ n1_ n2_; (try clear hb)
      (try clear hb2)
      (try clear hk)
      (try clear hi)
      refine hK.out _ _ ⟨(zG BK255.out 0).trans rfl, (zG BK255.out 1).trans rfl, (zG BK256.out 0).trans rfl, (zG BK256.out 1).trans rfl, (zG BK256.out 2).trans rfl, (zG BK256.out 3).trans rfl, (zG BK256.out 4).trans rfl, (zG BK256.out 5).trans rfl, ((HB.out.cell (World.block_lt_of_cell? w _ hw258_0)).trans hw258_0)⟩ (fun hHeld => ?_)
      clear hK K; refine norm_ (a' := ?_) ?_ ?_
      rotate_left
      · show Act.put _ (some 37) _ = _
        simp only [Act.put, sA_, sB_, sC_, i64_w, i32_w]; rfl
      refine pure_ (i := 11) (N := some 12) (v := ?_) (a' := ?_) #[true, true, true, true, true, true, true, true, true, true, true, true] rfl rfl (any_of HT_.out (by kernel_rfl)) (fun _ _ _ h => h) (Or.inl ⟨by rfl, ?_⟩) ?_ ?_
      rotate_left
      · intro w'
        go_simp
        with_reducible rfl
      rotate_left
      · simp only [Act.put, sA_, sB_, sC_, i64_w, i32_w]
        rfl
      refine done_ (done_of HT_.out (by kernel_rfl)) ?_
      have hnb21 := NB256_255.out; have hnc21 := NB255_256.out; have hcz22_0 : w20.cell? ⟨gb256, 0, none⟩ = some (.int .i64 a4_0) := (zG BK256.out 0).trans rfl
      have hcz22_1 : w20.cell? ⟨gb256, 1, none⟩ = some (.int .i64 a4_1) := (zG BK256.out 1).trans rfl
      have hcz22_2 : w20.cell? ⟨gb256, 2, none⟩ = some (.int .u8 a4_2) := (zG BK256.out 2).trans rfl
      have hcz22_3 : w20.cell? ⟨gb256, 3, none⟩ = some (.int .i64 a4_3) := (zG BK256.out 3).trans rfl
      have hcz22_4 : w20.cell? ⟨gb256, 4, none⟩ = some (.int .i64 a4_4) := (zG BK256.out 4).trans rfl
      have hcz22_5 : w20.cell? ⟨gb256, 5, none⟩ = some (.float .f64 a4_5) := (zG BK256.out 5).trans rfl
      have hfz22_0 := zJ BK256.out 0; have hfz22_1 := zJ BK256.out 1; have hfz22_2 := zJ BK256.out 2; have hfz22_3 := zJ BK256.out 3; have hfz22_4 := zJ BK256.out 4; have hfz22_5 := zJ BK256.out 5; try go_wp2
      go_ret2
      exact ⟨by first | rfl | (simp [errW_none, errW_some] <;> rfl) | (simp [*, errW_none, errW_some] <;> rfl), by repeat (first | (with_reducible first | exact HB.out | apply zI | apply zF | apply zH | refine zE ?_ GE255.out | refine zE ?_ GE256.out) | exact HB.out)⟩
    rw [if_neg c18] at H; have c18b0 : decide (a4_0 < t259) = false := decide_eq_false c18
    clear c18; have HC23 := zA.mk H; clear H; try go_wp2
    have n0_ := zA.mk (zD BK255.out); have n1_ := zA.mk (zD BK256.out); have n2_ := zA.mk (zH HB.out); clear BK255; clear BK256; clear HB; have BK255 := n0_; have BK256 := n1_; have HB := n2_; clear n0_ n1_ n2_; have p258 : 0 ≤ (a2 : Int) := of_decide_eq_true (by first | (with_reducible assumption) | assumption)
    have q258 : a2 < (l0_1.length : Int) := of_decide_eq_true (by first | (with_reducible assumption) | assumption)
    obtain ⟨ad258, e258, hx258_0⟩ := Kd.at_int HR0_1.out a2 p258 q258; have hw258_0 := hx258_0; cases e258
    replace hx258_0 := (HB.out.cell (World.block_lt_of_cell? w _ hx258_0)).trans hx258_0; replace p258 := eq_true p258; replace q258 := eq_true q258; refine start_ (n := 12) (S := fun w' => w'.cell? ⟨gb255, 0, none⟩ = some (.slice A0_0 l0_0.length c0_0) ∧ w'.cell? ⟨gb255, 1, none⟩ = some (.slice (some ad258) l0_1.length c0_1) ∧ w'.cell? ⟨gb256, 0, none⟩ = some (.int .i64 a4_0) ∧ w'.cell? ⟨gb256, 1, none⟩ = some (.int .i64 a4_1) ∧ w'.cell? ⟨gb256, 2, none⟩ = some (.int .u8 a4_2) ∧ w'.cell? ⟨gb256, 3, none⟩ = some (.int .i64 a4_3) ∧ w'.cell? ⟨gb256, 4, none⟩ = some (.int .i64 a4_4) ∧ w'.cell? ⟨gb256, 5, none⟩ = some (.float .f64 a4_5) ∧ w'.cell? (ad258.add (a2).toNat) = some (.int .u8 (rd l0_1 a2))) (ds := []) #[false, false, false, false, false, false, false, false, false, false, false, false] (by kernel_rfl) rfl rfl ⟨(zG BK255.out 0).trans rfl, (zG BK255.out 1).trans rfl, (zG BK256.out 0).trans rfl, (zG BK256.out 1).trans rfl, (zG BK256.out 2).trans rfl, (zG BK256.out 3).trans rfl, (zG BK256.out 4).trans rfl, (zG BK256.out 5).trans rfl, ((HB.out.cell (World.block_lt_of_cell? w _ hw258_0)).trans hw258_0)⟩ (fun hHeld => ?_); refine with_tabW stanzaref13_Cost.tab3 stanzaref13_Cost.bits3 (fun HT_ HW_ => ?_)
    generalize wc.drew = w24 at BK255 BK256 HB hx258_0 hHeld ⊢
    refine pure_ (i := 1) (N := some 28) (v := ?_) (a' := ?_) #[false, true, false, false, false, false, false, false, false, false, false, false] rfl rfl (any_of HT_.out (by kernel_rfl)) (fun _ _ _ h => h) (Or.inl ⟨by rfl, ?_⟩) ?_ ?_
    rotate_left
    · intro w'
      go_simp
      with_reducible rfl
    rotate_left
    · simp only [Act.put, sA_, sB_, sC_, i64_w, i32_w]
      rfl
    refine pure_ (i := 2) (N := some 29) (v := ?_) (a' := ?_) #[false, true, true, false, false, false, false, false, false, false, false, false] rfl rfl (any_of HT_.out (by kernel_rfl)) (fun _ _ _ h => h) (Or.inl ⟨by rfl, ?_⟩) ?_ ?_
    rotate_left
    · intro w'
      go_simp
      with_reducible rfl
    rotate_left
    · simp only [Act.put, sA_, sB_, sC_, i64_w, i32_w]
      rfl
    refine pure_ (i := 3) (N := some 30) (v := ?_) (a' := ?_) #[false, true, true, true, false, false, false, false, false, false, false, false] rfl rfl (any_of HT_.out (by kernel_rfl)) (fun _ _ _ h => h) (Or.inl ⟨by rfl, ?_⟩) ?_ ?_
    rotate_left
    · intro w'
      go_simp
      with_reducible rfl
    rotate_left
    · simp only [Act.put, sA_, sB_, sC_, i64_w, i32_w]
      rfl
    refine pure_ (i := 5) (N := some 32) (v := ?_) (a' := ?_) #[false, true, true, true, false, true, false, false, false, false, false, false] rfl rfl (any_of HT_.out (by kernel_rfl)) (fun _ _ _ h => h) (Or.inl ⟨by rfl, ?_⟩) ?_ ?_
    rotate_left
    · intro w'
      go_simp
      with_reducible rfl
    rotate_left
    · simp only [Act.put, sA_, sB_, sC_, i64_w, i32_w]
      rfl
    refine pure_ (i := 8) (N := some 35) (v := ?_) (a' := ?_) #[false, true, true, true, false, true, false, false, true, false, false, false] rfl rfl (any_of HT_.out (by kernel_rfl)) (fun _ _ _ h => h) (Or.inl ⟨by rfl, ?_⟩) ?_ ?_
    rotate_left
    · intro w'
      go_simp
      with_reducible rfl
    rotate_left
    · simp only [Act.put, sA_, sB_, sC_, i64_w, i32_w]
      rfl
    refine take_ (i := 0) (N := some 27) (v := ?_) (a' := ?_) #[true, true, true, true, false, true, false, false, true, false, false, false] rfl rfl (take_ofW HT_.out HW_.out (by kernel_rfl)) (fun _ _ _ h => h) (Or.inl ⟨by rfl, ?_⟩) hHeld ?_ ?_
    rotate_left
    · rintro w' ⟨s0, s1, s2, s3, s4, s5, s6, s7, s8⟩
      go_simp
      with_reducible rfl
    rotate_left
    · simp only [Act.put, sA_, sB_, sC_, i64_w, i32_w]
      rfl
    refine take_ (i := 4) (N := some 31) (v := ?_) (a' := ?_) #[true, true, true, true, true, true, false, false, true, false, false, false] rfl rfl (take_ofW HT_.out HW_.out (by kernel_rfl)) (fun _ _ _ h => h) (Or.inl ⟨by rfl, ?_⟩) hHeld ?_ ?_
    rotate_left
    · rintro w' ⟨s0, s1, s2, s3, s4, s5, s6, s7, s8⟩
      go_simp
      with_reducible rfl
    rotate_left
    · simp only [Act.put, sA_, sB_, sC_, i64_w, i32_w]
      rfl
    refine pure_ (i := 6) (N := some 33) (v := ?_) (a' := ?_) #[true, true, true, true, true, true, true, false, true, false, false, false] rfl rfl (any_of HT_.out (by kernel_rfl)) (fun _ _ _ h => h) (Or.inl ⟨by rfl, ?_⟩) ?_ ?_
    rotate_left
    · intro w'
      go_simp
      with_reducible rfl
    rotate_left
    · simp only [Act.put, sA_, sB_, sC_, i64_w, i32_w]
      rfl
    refine take_ (i := 7) (N := some 34) (v := ?_) (a' := ?_) (tf_ 9 12) rfl rfl (take_ofW HT_.out HW_.out (by kernel_rfl)) (fun _ _ _ h => h) (Or.inl ⟨by rfl, ?_⟩) hHeld ?_ ?_
    rotate_left
    · rintro w' ⟨s0, s1, s2, s3, s4, s5, s6, s7, s8⟩
      go_simp
      with_reducible rfl
    rotate_left
    · simp only [Act.put, sA_, sB_, sC_, i64_w, i32_w]
      rfl
    refine take_ (i := 9) (N := some 36) (v := ?_) (a' := ?_) (tf_ 10 12) rfl rfl (take_ofW HT_.out HW_.out (by kernel_rfl)) (fun _ _ _ h => h) (Or.inl ⟨by rfl, ?_⟩) hHeld ?_ ?_
    rotate_left
    · rintro w' ⟨s0, s1, s2, s3, s4, s5, s6, s7, s8⟩
      go_simp
      with_reducible rfl
    rotate_left
    · simp only [Act.put, sA_, sB_, sC_, i64_w, i32_w]
      rfl
    refine one_ (i := 10) (N := some 37) #[true, true, true, true, true, true, true, true, true, true, true, false] rfl rfl (one_of HT_.out (by kernel_rfl)) (by decide) (fun K hK => ?_)
    refine goes_ Try.func18 (by kernel_rfl) rfl #[.agg #[.slice A0_0 l0_0.length c0_0, .slice (some ad258) l0_1.length c0_1], .int .i64 a1, .int .i64 a2, .int .u8 (rd l0_1 a2), .int .i64 a4_1] (by rfl) rfl rfl (by (try simp only [List.map_toArray, List.map_cons, List.map_nil]); first | done | rfl | (simp only [List.length_drop, List.length_take]; rfl)) ?_
    with_reducible refine (stanzaref13_Cells.calls kj5 _ _ l0_0 _ _ l0_1 a1 a2 (rd l0_1 a2) a4_1 t259 _ ?side1 ?side2 ?side3 ?side4 A17.out).mono ?_
    (case side1 => repeat (first | exact (Kd.C_below HR0_0.out HB.out) | (with_reducible refine Kd.C_alloc ?_ _) | (with_reducible refine Kd.C_drewN ?_ _) | (with_reducible refine Kd.C_drew ?_)))
    (case side2 => exact HC0_0.out)
    (case side3 => repeat (first | exact (Kd.C_below HR0_1.out HB.out) | (with_reducible refine Kd.C_alloc ?_ _) | (with_reducible refine Kd.C_drewN ?_ _) | (with_reducible refine Kd.C_drew ?_)))
    (case side4 => exact HC0_1.out)
    rintro e w25 ⟨rfl, hb⟩
    refine ⟨_, rfl, ?_⟩
    have n0_ := zA.mk (zK (g := gb255) (o := .cells #[.slice A0_0 l0_0.length c0_0, .slice (some ad258) l0_1.length c0_1] 31 (0, 0)) (by (with_reducible repeat (first | refine zC ?_ _ | refine zD ?_ | refine zB ?_ _)); exact BK255.out) hb)
    have n1_ := zA.mk (zK (g := gb256) (o := .cells #[.int .i64 a4_0, .int .i64 a4_1, .int .u8 a4_2, .int .i64 a4_3, .int .i64 a4_4, .float .f64 a4_5] 35 (0, 0)) (by (with_reducible repeat (first | refine zC ?_ _ | refine zD ?_ | refine zB ?_ _)); exact BK256.out) hb)
    have n2_ := zA.mk (zM (by repeat (first | (with_reducible first | exact HB.out | apply zI | apply zF | apply zH | refine zE ?_ GE255.out | refine zE ?_ GE256.out) | exact HB.out)) hb)
    clear BK255 BK256 HB; have BK255 := n0_; have BK256 := n1_; have HB := n2_; clear n0_ n1_ n2_; (try clear hb)
    (try clear hb2)
    (try clear hk)
    (try clear hi)
    refine hK.out _ _ ⟨(zG BK255.out 0).trans rfl, (zG BK255.out 1).trans rfl, (zG BK256.out 0).trans rfl, (zG BK256.out 1).trans rfl, (zG BK256.out 2).trans rfl, (zG BK256.out 3).trans rfl, (zG BK256.out 4).trans rfl, (zG BK256.out 5).trans rfl, ((HB.out.cell (World.block_lt_of_cell? w _ hw258_0)).trans hw258_0)⟩ (fun hHeld => ?_)
    clear hK K; refine norm_ (a' := ?_) ?_ ?_
    rotate_left
    · show Act.put _ (some 37) _ = _
      simp only [Act.put, sA_, sB_, sC_, i64_w, i32_w]; rfl
    refine pure_ (i := 11) (N := some 12) (v := ?_) (a' := ?_) #[true, true, true, true, true, true, true, true, true, true, true, true] rfl rfl (any_of HT_.out (by kernel_rfl)) (fun _ _ _ h => h) (Or.inl ⟨by rfl, ?_⟩) ?_ ?_
    rotate_left
    · intro w'
      go_simp
      with_reducible rfl
    rotate_left
    · simp only [Act.put, sA_, sB_, sC_, i64_w, i32_w]
      rfl
    refine done_ (done_of HT_.out (by kernel_rfl)) ?_
    have hnb26 := NB256_255.out; have hnc26 := NB255_256.out; have hcz27_0 : w25.cell? ⟨gb256, 0, none⟩ = some (.int .i64 a4_0) := (zG BK256.out 0).trans rfl
    have hcz27_1 : w25.cell? ⟨gb256, 1, none⟩ = some (.int .i64 a4_1) := (zG BK256.out 1).trans rfl
    have hcz27_2 : w25.cell? ⟨gb256, 2, none⟩ = some (.int .u8 a4_2) := (zG BK256.out 2).trans rfl
    have hcz27_3 : w25.cell? ⟨gb256, 3, none⟩ = some (.int .i64 a4_3) := (zG BK256.out 3).trans rfl
    have hcz27_4 : w25.cell? ⟨gb256, 4, none⟩ = some (.int .i64 a4_4) := (zG BK256.out 4).trans rfl
    have hcz27_5 : w25.cell? ⟨gb256, 5, none⟩ = some (.float .f64 a4_5) := (zG BK256.out 5).trans rfl
    have hfz27_0 := zJ BK256.out 0; have hfz27_1 := zJ BK256.out 1; have hfz27_2 := zJ BK256.out 2; have hfz27_3 := zJ BK256.out 3; have hfz27_4 := zJ BK256.out 4; have hfz27_5 := zJ BK256.out 5; go_upto_if 43 with (fail)
    go_cut [13] (fun v13 wc => ∃ (kq : Nat) (x13_22 : Int), v13 = .int .i64 x13_22 ∧ zA (stanzaref13_Cost.j1 kq a1 a2 x13_22 l0_0 l0_1 a4_0 a4_1 a4_2 a4_3 a4_4 a4_5 = some (r1, r2)) ∧ zA (kq ≤ kj5) ∧ zA (wc.heap[gb255]? = some (.cells #[(.slice A0_0 l0_0.length c0_0), (.slice (some ad258) l0_1.length c0_1)] 31 (0, 0))) ∧ zA (wc.heap[gb256]? = some (.cells #[.int .i64 a4_0, .int .i64 a4_1, .int .u8 a4_2, .int .i64 a4_3, .int .i64 a4_4, .float .f64 a4_5] 35 (0, 0))) ∧ zA (Below w.heap.size w wc))
    case first =>
      have H := HC23.out; clear HC23; by_cases c28 : a3 = true
      · subst c28
        have H1 : (stanzaref13_Cost.j1 kj5 a1 a2 0 l0_0 l0_1 a4_0 a4_1 a4_2 a4_3 a4_4 a4_5) = some (r1, r2) := by rw [if_pos rfl] at H; exact H
        clear H; have H := H1; clear H1; have H' := zA.mk H
        clear H; go_wp2
        go_meet
        case rel => exact ⟨_, (0), (by first | rfl | (simp; done) | (simp [*]; done)), H', ⟨by have := HJ5.out; first | omega | exact Nat.le_refl _⟩, ⟨by (with_reducible repeat (first | refine zC ?_ _ | refine zD ?_ | refine zB ?_ _)); exact BK255.out⟩, ⟨by (with_reducible repeat (first | refine zC ?_ _ | refine zD ?_ | refine zB ?_ _)); exact BK256.out⟩, ⟨by repeat (first | (with_reducible first | exact HB.out | apply zI | apply zF | apply zH | refine zE ?_ GE255.out | refine zE ?_ GE256.out) | exact HB.out)⟩⟩
      replace c28 := Bool.eq_false_iff.mpr c28; subst c28; have H1 : ((stanzaref13_Gaps.f kj5 l0_0 l0_1 a1 a2).bind fun t260 => ((stanzaref12_Of.f (wrap64 (a4_0 - t259)) t260).bind fun t261 => (if (FloatKind.f64.format.order t261 a4_5 == some .gt) = true then (some (0, false)) else ((stanzaref12_Badness.f kj5 t261).bind fun t262 => (stanzaref13_Cost.j1 kj5 a1 a2 t262 l0_0 l0_1 a4_0 a4_1 a4_2 a4_3 a4_4 a4_5))))) = some (r1, r2) := by rw [if_neg (show ¬ (false = true) by decide)] at H; exact H
      clear H; have H := H1; clear H1; replace H := Option.bind_eq_some_iff.mp H; obtain ⟨t260, A290, H⟩ := H; replace H : ((stanzaref12_Of.f (wrap64 (a4_0 - t259)) t260).bind fun t261 => (if (FloatKind.f64.format.order t261 a4_5 == some .gt) = true then (some (0, false)) else ((stanzaref12_Badness.f kj5 t261).bind fun t262 => (stanzaref13_Cost.j1 kj5 a1 a2 t262 l0_0 l0_1 a4_0 a4_1 a4_2 a4_3 a4_4 a4_5)))) = some (r1, r2) := H
      have A29 := zA.mk A290; clear A290; replace H := Option.bind_eq_some_iff.mp H; obtain ⟨t261, A300, H⟩ := H; replace H : (if (FloatKind.f64.format.order t261 a4_5 == some .gt) = true then (some (0, false)) else ((stanzaref12_Badness.f kj5 t261).bind fun t262 => (stanzaref13_Cost.j1 kj5 a1 a2 t262 l0_0 l0_1 a4_0 a4_1 a4_2 a4_3 a4_4 a4_5))) = some (r1, r2) := H
      have A30 := zA.mk A300; clear A300; by_cases c31 : (FloatKind.f64.format.order t261 a4_5 == some .gt) = true
      · rw [if_pos c31] at H
        have c31b0 : (FloatKind.f64.format.order t261 a4_5 == some .gt) = true := c31
        (try (have c31b1 : decide (FloatKind.f64.format.order t261 a4_5 = some .gt) = true := by simpa using c31))
        (try (have c31b2 : (FloatKind.f64.format.order t261 a4_5 == some .gt) = true := by simpa using c31))
        clear c31; (first | rw [c31b0] | (simp only [i64_w, i32_w]; rw [c31b0]) | skip)
        simp only [Option.some.injEq, Prod.mk.injEq] at H; obtain ⟨rfl, rfl⟩ := H; try go_wp2
        have n0_ := zA.mk (zD BK255.out); have n1_ := zA.mk (zD BK256.out); have n2_ := zA.mk (zH HB.out); clear BK255; clear BK256; clear HB; have BK255 := n0_; have BK256 := n1_; have HB := n2_; clear n0_ n1_ n2_; refine start_ (n := 10) (S := fun w' => w'.cell? ⟨gb256, 0, none⟩ = some (.int .i64 a4_0) ∧ w'.cell? ⟨gb256, 1, none⟩ = some (.int .i64 a4_1) ∧ w'.cell? ⟨gb256, 2, none⟩ = some (.int .u8 a4_2) ∧ w'.cell? ⟨gb256, 3, none⟩ = some (.int .i64 a4_3) ∧ w'.cell? ⟨gb256, 4, none⟩ = some (.int .i64 a4_4) ∧ w'.cell? ⟨gb256, 5, none⟩ = some (.float .f64 a4_5) ∧ w'.cell? ⟨gb255, 0, none⟩ = some (.slice A0_0 l0_0.length c0_0) ∧ w'.cell? ⟨gb255, 1, none⟩ = some (.slice (some ad258) l0_1.length c0_1)) (ds := []) #[false, false, false, false, false, false, false, false, false, false] (by kernel_rfl) rfl rfl ⟨(zG BK256.out 0).trans rfl, (zG BK256.out 1).trans rfl, (zG BK256.out 2).trans rfl, (zG BK256.out 3).trans rfl, (zG BK256.out 4).trans rfl, (zG BK256.out 5).trans rfl, (zG BK255.out 0).trans rfl, (zG BK255.out 1).trans rfl⟩ (fun hHeld => ?_); refine with_tabW stanzaref13_Cost.tab8 stanzaref13_Cost.bits8 (fun HT_ HW_ => ?_)
        generalize w25.drew = w32 at BK255 BK256 HB hHeld ⊢
        refine pure_ (i := 0) (N := some 44) (v := ?_) (a' := ?_) (tf_ 1 10) rfl rfl (any_of HT_.out (by kernel_rfl)) (fun _ _ _ h => h) (Or.inl ⟨by rfl, ?_⟩) ?_ ?_
        rotate_left
        · intro w'
          go_simp
          with_reducible rfl
        rotate_left
        · simp only [Act.put, sA_, sB_, sC_, i64_w, i32_w]
          rfl
        refine pure_ (i := 2) (N := some 46) (v := ?_) (a' := ?_) #[true, false, true, false, false, false, false, false, false, false] rfl rfl (any_of HT_.out (by kernel_rfl)) (fun _ _ _ h => h) (Or.inl ⟨by rfl, ?_⟩) ?_ ?_
        rotate_left
        · intro w'
          go_simp
          with_reducible rfl
        rotate_left
        · simp only [Act.put, sA_, sB_, sC_, i64_w, i32_w]
          rfl
        refine pure_ (i := 5) (N := some 49) (v := ?_) (a' := ?_) #[true, false, true, false, false, true, false, false, false, false] rfl rfl (any_of HT_.out (by kernel_rfl)) (fun _ _ _ h => h) (Or.inl ⟨by rfl, ?_⟩) ?_ ?_
        rotate_left
        · intro w'
          go_simp
          with_reducible rfl
        rotate_left
        · simp only [Act.put, sA_, sB_, sC_, i64_w, i32_w]
          rfl
        refine pure_ (i := 6) (N := some 50) (v := ?_) (a' := ?_) #[true, false, true, false, false, true, true, false, false, false] rfl rfl (any_of HT_.out (by kernel_rfl)) (fun _ _ _ h => h) (Or.inl ⟨by rfl, ?_⟩) ?_ ?_
        rotate_left
        · intro w'
          go_simp
          with_reducible rfl
        rotate_left
        · simp only [Act.put, sA_, sB_, sC_, i64_w, i32_w]
          rfl
        refine take_ (i := 1) (N := some 45) (v := ?_) (a' := ?_) #[true, true, true, false, false, true, true, false, false, false] rfl rfl (take_ofW HT_.out HW_.out (by kernel_rfl)) (fun _ _ _ h => h) (Or.inl ⟨by rfl, ?_⟩) hHeld ?_ ?_
        rotate_left
        · rintro w' ⟨s0, s1, s2, s3, s4, s5, s6, s7⟩
          go_simp
          with_reducible rfl
        rotate_left
        · simp only [Act.put, sA_, sB_, sC_, i64_w, i32_w]
          rfl
        refine pure_ (i := 3) (N := some 47) (v := ?_) (a' := ?_) #[true, true, true, true, false, true, true, false, false, false] rfl rfl (any_of HT_.out (by kernel_rfl)) (fun _ _ _ h => h) (Or.inl ⟨by rfl, ?_⟩) ?_ ?_
        rotate_left
        · intro w'
          go_simp
          with_reducible rfl
        rotate_left
        · simp only [Act.put, sA_, sB_, sC_, i64_w, i32_w]
          rfl
        refine take_ (i := 4) (N := some 48) (v := ?_) (a' := ?_) (tf_ 7 10) rfl rfl (take_ofW HT_.out HW_.out (by kernel_rfl)) (fun _ _ _ h => h) (Or.inl ⟨by rfl, ?_⟩) hHeld ?_ ?_
        rotate_left
        · rintro w' ⟨s0, s1, s2, s3, s4, s5, s6, s7⟩
          go_simp
          with_reducible rfl
        rotate_left
        · simp only [Act.put, sA_, sB_, sC_, i64_w, i32_w]
          rfl
        refine one_ (i := 7) (N := some 51) #[true, true, true, true, true, true, true, true, false, false] rfl rfl (one_of HT_.out (by kernel_rfl)) (by decide) (fun K hK => ?_)
        refine goes_ Try.func35 (by kernel_rfl) rfl #[.agg #[.slice A0_0 l0_0.length c0_0, .slice (some ad258) l0_1.length c0_1], .int .i64 a1, .int .i64 a2] (by rfl) rfl rfl (by (try simp only [List.map_toArray, List.map_cons, List.map_nil]); first | done | rfl | (simp only [List.length_drop, List.length_take]; rfl)) ?_
        with_reducible refine (stanzaref13_Gaps.calls kj5 _ _ l0_0 _ _ l0_1 a1 a2 t260 _ ?side1 ?side2 ?side3 ?side4 A29.out).mono ?_
        (case side1 => repeat (first | exact (Kd.C_below HR0_0.out HB.out) | (with_reducible refine Kd.C_alloc ?_ _) | (with_reducible refine Kd.C_drewN ?_ _) | (with_reducible refine Kd.C_drew ?_)))
        (case side2 => exact HC0_0.out)
        (case side3 => repeat (first | exact (Kd.C_below HR0_1.out HB.out) | (with_reducible refine Kd.C_alloc ?_ _) | (with_reducible refine Kd.C_drewN ?_ _) | (with_reducible refine Kd.C_drew ?_)))
        (case side4 => exact HC0_1.out)
        rintro e w33 ⟨rfl, hb⟩
        refine ⟨_, rfl, ?_⟩
        have n0_ := zA.mk (zK (g := gb255) (o := .cells #[.slice A0_0 l0_0.length c0_0, .slice (some ad258) l0_1.length c0_1] 31 (0, 0)) (by (with_reducible repeat (first | refine zC ?_ _ | refine zD ?_ | refine zB ?_ _)); exact BK255.out) hb)
        have n1_ := zA.mk (zK (g := gb256) (o := .cells #[.int .i64 a4_0, .int .i64 a4_1, .int .u8 a4_2, .int .i64 a4_3, .int .i64 a4_4, .float .f64 a4_5] 35 (0, 0)) (by (with_reducible repeat (first | refine zC ?_ _ | refine zD ?_ | refine zB ?_ _)); exact BK256.out) hb)
        have n2_ := zA.mk (zM (by repeat (first | (with_reducible first | exact HB.out | apply zI | apply zF | apply zH | refine zE ?_ GE255.out | refine zE ?_ GE256.out) | exact HB.out)) hb)
        clear BK255 BK256 HB; have BK255 := n0_; have BK256 := n1_; have HB := n2_; clear n0_ n1_ n2_; (try clear hb)
        (try clear hb2)
        (try clear hk)
        (try clear hi)
        refine hK.out _ _ ⟨(zG BK256.out 0).trans rfl, (zG BK256.out 1).trans rfl, (zG BK256.out 2).trans rfl, (zG BK256.out 3).trans rfl, (zG BK256.out 4).trans rfl, (zG BK256.out 5).trans rfl, (zG BK255.out 0).trans rfl, (zG BK255.out 1).trans rfl⟩ (fun hHeld => ?_)
        clear hK K; refine norm_ (a' := ?_) ?_ ?_
        rotate_left
        · show Act.put _ (some 51) _ = _
          simp only [Act.put, sA_, sB_, sC_, i64_w, i32_w]; rfl
        refine one_ (i := 8) (N := some 52) #[true, true, true, true, true, true, true, true, true, false] rfl rfl (one_of HT_.out (by kernel_rfl)) (by decide) (fun K hK => ?_)
        refine goes_ Try.func34 (by kernel_rfl) rfl #[.int .i64 (wrap64 (a4_0 - t259)), .int .i64 t260] (by rfl) rfl rfl (by (try simp only [List.map_toArray, List.map_cons, List.map_nil]); first | done | rfl | (simp only [List.length_drop, List.length_take]; rfl)) ?_
        with_reducible refine (stanzaref12_Of.calls (wrap64 (a4_0 - t259)) t260 t261 _ A30.out).mono ?_
        rintro e w' ⟨bt_t261, rfl, ⟨nd, rfl⟩, hfr_⟩; have HF_t261 := zA.mk hfr_; clear hfr_; have c31b0r : (FloatKind.f64.format.order bt_t261 a4_5 == some .gt) = true := (by first | (rw [HF_t261.out.order_l]; exact c31b0) | (rw [HF_t261.out.order_r]; exact c31b0)); have c31b1r : decide (FloatKind.f64.format.order bt_t261 a4_5 = some .gt) = true := (by first | (rw [HF_t261.out.order_l]; exact c31b1) | (rw [HF_t261.out.order_r]; exact c31b1)); have c31b2r : (FloatKind.f64.format.order bt_t261 a4_5 == some .gt) = true := (by first | (rw [HF_t261.out.order_l]; exact c31b2) | (rw [HF_t261.out.order_r]; exact c31b2))
        refine ⟨_, rfl, ?_⟩
        refine hK.out _ _ ⟨(zG BK256.out 0).trans rfl, (zG BK256.out 1).trans rfl, (zG BK256.out 2).trans rfl, (zG BK256.out 3).trans rfl, (zG BK256.out 4).trans rfl, (zG BK256.out 5).trans rfl, (zG BK255.out 0).trans rfl, (zG BK255.out 1).trans rfl⟩ (fun hHeld => ?_)
        clear hK K; refine norm_ (a' := ?_) ?_ ?_
        rotate_left
        · show Act.put _ (some 52) _ = _
          simp only [Act.put, sA_, sB_, sC_, i64_w, i32_w]; rfl
        refine pure_ (i := 9) (N := some 14) (v := ?_) (a' := ?_) #[true, true, true, true, true, true, true, true, true, true] rfl rfl (any_of HT_.out (by kernel_rfl)) (fun _ _ _ h => h) (Or.inl ⟨by rfl, ?_⟩) ?_ ?_
        rotate_left
        · intro w'
          go_simp
          with_reducible rfl
        rotate_left
        · simp only [Act.put, sA_, sB_, sC_, i64_w, i32_w]
          rfl
        refine done_ (done_of HT_.out (by kernel_rfl)) ?_
        have hnb34 := NB256_255.out; have hnc34 := NB255_256.out; have hcz35_0 : w33.cell? ⟨gb256, 0, none⟩ = some (.int .i64 a4_0) := (zG BK256.out 0).trans rfl
        have hcz35_1 : w33.cell? ⟨gb256, 1, none⟩ = some (.int .i64 a4_1) := (zG BK256.out 1).trans rfl
        have hcz35_2 : w33.cell? ⟨gb256, 2, none⟩ = some (.int .u8 a4_2) := (zG BK256.out 2).trans rfl
        have hcz35_3 : w33.cell? ⟨gb256, 3, none⟩ = some (.int .i64 a4_3) := (zG BK256.out 3).trans rfl
        have hcz35_4 : w33.cell? ⟨gb256, 4, none⟩ = some (.int .i64 a4_4) := (zG BK256.out 4).trans rfl
        have hcz35_5 : w33.cell? ⟨gb256, 5, none⟩ = some (.float .f64 a4_5) := (zG BK256.out 5).trans rfl
        have hfz35_0 := zJ BK256.out 0; have hfz35_1 := zJ BK256.out 1; have hfz35_2 := zJ BK256.out 2; have hfz35_3 := zJ BK256.out 3; have hfz35_4 := zJ BK256.out 4; have hfz35_5 := zJ BK256.out 5; try go_wp2
        go_ret2
        exact ⟨by first | rfl | (simp [errW_none, errW_some] <;> rfl) | (simp [*, errW_none, errW_some] <;> rfl), by repeat (first | (with_reducible first | exact HB.out | apply zI | apply zF | apply zH | refine zE ?_ GE255.out | refine zE ?_ GE256.out) | exact HB.out)⟩
      rw [if_neg c31] at H; have c31b0 : (FloatKind.f64.format.order t261 a4_5 == some .gt) = false := by simpa using c31
      (try (have c31b1 : decide (FloatKind.f64.format.order t261 a4_5 = some .gt) = false := by simpa using c31))
      (try (have c31b2 : (FloatKind.f64.format.order t261 a4_5 == some .gt) = false := by simpa using c31))
      (try (have c31b3 : ¬ (FloatKind.f64.format.order t261 a4_5 = some .gt) := by simpa using c31))
      clear c31; (first | rw [c31b0] | (simp only [i64_w, i32_w]; rw [c31b0]) | skip)
      replace H := Option.bind_eq_some_iff.mp H; obtain ⟨t262, A360, H⟩ := H; replace H : (stanzaref13_Cost.j1 kj5 a1 a2 t262 l0_0 l0_1 a4_0 a4_1 a4_2 a4_3 a4_4 a4_5) = some (r1, r2) := H; have A36 := zA.mk A360; clear A360; have H' := zA.mk H
      clear H; try go_wp2
      have n0_ := zA.mk (zD BK255.out); have n1_ := zA.mk (zD BK256.out); have n2_ := zA.mk (zH HB.out); clear BK255; clear BK256; clear HB; have BK255 := n0_; have BK256 := n1_; have HB := n2_; clear n0_ n1_ n2_; refine start_ (n := 10) (S := fun w' => w'.cell? ⟨gb256, 0, none⟩ = some (.int .i64 a4_0) ∧ w'.cell? ⟨gb256, 1, none⟩ = some (.int .i64 a4_1) ∧ w'.cell? ⟨gb256, 2, none⟩ = some (.int .u8 a4_2) ∧ w'.cell? ⟨gb256, 3, none⟩ = some (.int .i64 a4_3) ∧ w'.cell? ⟨gb256, 4, none⟩ = some (.int .i64 a4_4) ∧ w'.cell? ⟨gb256, 5, none⟩ = some (.float .f64 a4_5) ∧ w'.cell? ⟨gb255, 0, none⟩ = some (.slice A0_0 l0_0.length c0_0) ∧ w'.cell? ⟨gb255, 1, none⟩ = some (.slice (some ad258) l0_1.length c0_1)) (ds := []) #[false, false, false, false, false, false, false, false, false, false] (by kernel_rfl) rfl rfl ⟨(zG BK256.out 0).trans rfl, (zG BK256.out 1).trans rfl, (zG BK256.out 2).trans rfl, (zG BK256.out 3).trans rfl, (zG BK256.out 4).trans rfl, (zG BK256.out 5).trans rfl, (zG BK255.out 0).trans rfl, (zG BK255.out 1).trans rfl⟩ (fun hHeld => ?_); refine with_tabW stanzaref13_Cost.tab8 stanzaref13_Cost.bits8 (fun HT_ HW_ => ?_)
      generalize w25.drew = w37 at BK255 BK256 HB hHeld ⊢
      refine pure_ (i := 0) (N := some 44) (v := ?_) (a' := ?_) (tf_ 1 10) rfl rfl (any_of HT_.out (by kernel_rfl)) (fun _ _ _ h => h) (Or.inl ⟨by rfl, ?_⟩) ?_ ?_
      rotate_left
      · intro w'
        go_simp
        with_reducible rfl
      rotate_left
      · simp only [Act.put, sA_, sB_, sC_, i64_w, i32_w]
        rfl
      refine pure_ (i := 2) (N := some 46) (v := ?_) (a' := ?_) #[true, false, true, false, false, false, false, false, false, false] rfl rfl (any_of HT_.out (by kernel_rfl)) (fun _ _ _ h => h) (Or.inl ⟨by rfl, ?_⟩) ?_ ?_
      rotate_left
      · intro w'
        go_simp
        with_reducible rfl
      rotate_left
      · simp only [Act.put, sA_, sB_, sC_, i64_w, i32_w]
        rfl
      refine pure_ (i := 5) (N := some 49) (v := ?_) (a' := ?_) #[true, false, true, false, false, true, false, false, false, false] rfl rfl (any_of HT_.out (by kernel_rfl)) (fun _ _ _ h => h) (Or.inl ⟨by rfl, ?_⟩) ?_ ?_
      rotate_left
      · intro w'
        go_simp
        with_reducible rfl
      rotate_left
      · simp only [Act.put, sA_, sB_, sC_, i64_w, i32_w]
        rfl
      refine pure_ (i := 6) (N := some 50) (v := ?_) (a' := ?_) #[true, false, true, false, false, true, true, false, false, false] rfl rfl (any_of HT_.out (by kernel_rfl)) (fun _ _ _ h => h) (Or.inl ⟨by rfl, ?_⟩) ?_ ?_
      rotate_left
      · intro w'
        go_simp
        with_reducible rfl
      rotate_left
      · simp only [Act.put, sA_, sB_, sC_, i64_w, i32_w]
        rfl
      refine take_ (i := 1) (N := some 45) (v := ?_) (a' := ?_) #[true, true, true, false, false, true, true, false, false, false] rfl rfl (take_ofW HT_.out HW_.out (by kernel_rfl)) (fun _ _ _ h => h) (Or.inl ⟨by rfl, ?_⟩) hHeld ?_ ?_
      rotate_left
      · rintro w' ⟨s0, s1, s2, s3, s4, s5, s6, s7⟩
        go_simp
        with_reducible rfl
      rotate_left
      · simp only [Act.put, sA_, sB_, sC_, i64_w, i32_w]
        rfl
      refine pure_ (i := 3) (N := some 47) (v := ?_) (a' := ?_) #[true, true, true, true, false, true, true, false, false, false] rfl rfl (any_of HT_.out (by kernel_rfl)) (fun _ _ _ h => h) (Or.inl ⟨by rfl, ?_⟩) ?_ ?_
      rotate_left
      · intro w'
        go_simp
        with_reducible rfl
      rotate_left
      · simp only [Act.put, sA_, sB_, sC_, i64_w, i32_w]
        rfl
      refine take_ (i := 4) (N := some 48) (v := ?_) (a' := ?_) (tf_ 7 10) rfl rfl (take_ofW HT_.out HW_.out (by kernel_rfl)) (fun _ _ _ h => h) (Or.inl ⟨by rfl, ?_⟩) hHeld ?_ ?_
      rotate_left
      · rintro w' ⟨s0, s1, s2, s3, s4, s5, s6, s7⟩
        go_simp
        with_reducible rfl
      rotate_left
      · simp only [Act.put, sA_, sB_, sC_, i64_w, i32_w]
        rfl
      refine one_ (i := 7) (N := some 51) #[true, true, true, true, true, true, true, true, false, false] rfl rfl (one_of HT_.out (by kernel_rfl)) (by decide) (fun K hK => ?_)
      refine goes_ Try.func35 (by kernel_rfl) rfl #[.agg #[.slice A0_0 l0_0.length c0_0, .slice (some ad258) l0_1.length c0_1], .int .i64 a1, .int .i64 a2] (by rfl) rfl rfl (by (try simp only [List.map_toArray, List.map_cons, List.map_nil]); first | done | rfl | (simp only [List.length_drop, List.length_take]; rfl)) ?_
      with_reducible refine (stanzaref13_Gaps.calls kj5 _ _ l0_0 _ _ l0_1 a1 a2 t260 _ ?side1 ?side2 ?side3 ?side4 A29.out).mono ?_
      (case side1 => repeat (first | exact (Kd.C_below HR0_0.out HB.out) | (with_reducible refine Kd.C_alloc ?_ _) | (with_reducible refine Kd.C_drewN ?_ _) | (with_reducible refine Kd.C_drew ?_)))
      (case side2 => exact HC0_0.out)
      (case side3 => repeat (first | exact (Kd.C_below HR0_1.out HB.out) | (with_reducible refine Kd.C_alloc ?_ _) | (with_reducible refine Kd.C_drewN ?_ _) | (with_reducible refine Kd.C_drew ?_)))
      (case side4 => exact HC0_1.out)
      rintro e w38 ⟨rfl, hb⟩
      refine ⟨_, rfl, ?_⟩
      have n0_ := zA.mk (zK (g := gb255) (o := .cells #[.slice A0_0 l0_0.length c0_0, .slice (some ad258) l0_1.length c0_1] 31 (0, 0)) (by (with_reducible repeat (first | refine zC ?_ _ | refine zD ?_ | refine zB ?_ _)); exact BK255.out) hb)
      have n1_ := zA.mk (zK (g := gb256) (o := .cells #[.int .i64 a4_0, .int .i64 a4_1, .int .u8 a4_2, .int .i64 a4_3, .int .i64 a4_4, .float .f64 a4_5] 35 (0, 0)) (by (with_reducible repeat (first | refine zC ?_ _ | refine zD ?_ | refine zB ?_ _)); exact BK256.out) hb)
      have n2_ := zA.mk (zM (by repeat (first | (with_reducible first | exact HB.out | apply zI | apply zF | apply zH | refine zE ?_ GE255.out | refine zE ?_ GE256.out) | exact HB.out)) hb)
      clear BK255 BK256 HB; have BK255 := n0_; have BK256 := n1_; have HB := n2_; clear n0_ n1_ n2_; (try clear hb)
      (try clear hb2)
      (try clear hk)
      (try clear hi)
      refine hK.out _ _ ⟨(zG BK256.out 0).trans rfl, (zG BK256.out 1).trans rfl, (zG BK256.out 2).trans rfl, (zG BK256.out 3).trans rfl, (zG BK256.out 4).trans rfl, (zG BK256.out 5).trans rfl, (zG BK255.out 0).trans rfl, (zG BK255.out 1).trans rfl⟩ (fun hHeld => ?_)
      clear hK K; refine norm_ (a' := ?_) ?_ ?_
      rotate_left
      · show Act.put _ (some 51) _ = _
        simp only [Act.put, sA_, sB_, sC_, i64_w, i32_w]; rfl
      refine one_ (i := 8) (N := some 52) #[true, true, true, true, true, true, true, true, true, false] rfl rfl (one_of HT_.out (by kernel_rfl)) (by decide) (fun K hK => ?_)
      refine goes_ Try.func34 (by kernel_rfl) rfl #[.int .i64 (wrap64 (a4_0 - t259)), .int .i64 t260] (by rfl) rfl rfl (by (try simp only [List.map_toArray, List.map_cons, List.map_nil]); first | done | rfl | (simp only [List.length_drop, List.length_take]; rfl)) ?_
      with_reducible refine (stanzaref12_Of.calls (wrap64 (a4_0 - t259)) t260 t261 _ A30.out).mono ?_
      rintro e w' ⟨bt_t261, rfl, ⟨nd, rfl⟩, hfr_⟩; have HF_t261 := zA.mk hfr_; clear hfr_; have c31b0r : (FloatKind.f64.format.order bt_t261 a4_5 == some .gt) = false := (by first | (rw [HF_t261.out.order_l]; exact c31b0) | (rw [HF_t261.out.order_r]; exact c31b0)); have c31b1r : decide (FloatKind.f64.format.order bt_t261 a4_5 = some .gt) = false := (by first | (rw [HF_t261.out.order_l]; exact c31b1) | (rw [HF_t261.out.order_r]; exact c31b1)); have c31b2r : (FloatKind.f64.format.order bt_t261 a4_5 == some .gt) = false := (by first | (rw [HF_t261.out.order_l]; exact c31b2) | (rw [HF_t261.out.order_r]; exact c31b2)); have c31b3r : ¬ (FloatKind.f64.format.order bt_t261 a4_5 = some .gt) := (by first | (rw [HF_t261.out.order_l]; exact c31b3) | (rw [HF_t261.out.order_r]; exact c31b3))
      refine ⟨_, rfl, ?_⟩
      refine hK.out _ _ ⟨(zG BK256.out 0).trans rfl, (zG BK256.out 1).trans rfl, (zG BK256.out 2).trans rfl, (zG BK256.out 3).trans rfl, (zG BK256.out 4).trans rfl, (zG BK256.out 5).trans rfl, (zG BK255.out 0).trans rfl, (zG BK255.out 1).trans rfl⟩ (fun hHeld => ?_)
      clear hK K; refine norm_ (a' := ?_) ?_ ?_
      rotate_left
      · show Act.put _ (some 52) _ = _
        simp only [Act.put, sA_, sB_, sC_, i64_w, i32_w]; rfl
      refine pure_ (i := 9) (N := some 14) (v := ?_) (a' := ?_) #[true, true, true, true, true, true, true, true, true, true] rfl rfl (any_of HT_.out (by kernel_rfl)) (fun _ _ _ h => h) (Or.inl ⟨by rfl, ?_⟩) ?_ ?_
      rotate_left
      · intro w'
        go_simp
        with_reducible rfl
      rotate_left
      · simp only [Act.put, sA_, sB_, sC_, i64_w, i32_w]
        rfl
      refine done_ (done_of HT_.out (by kernel_rfl)) ?_
      have hnb39 := NB256_255.out; have hnc39 := NB255_256.out; have hcz40_0 : w38.cell? ⟨gb256, 0, none⟩ = some (.int .i64 a4_0) := (zG BK256.out 0).trans rfl
      have hcz40_1 : w38.cell? ⟨gb256, 1, none⟩ = some (.int .i64 a4_1) := (zG BK256.out 1).trans rfl
      have hcz40_2 : w38.cell? ⟨gb256, 2, none⟩ = some (.int .u8 a4_2) := (zG BK256.out 2).trans rfl
      have hcz40_3 : w38.cell? ⟨gb256, 3, none⟩ = some (.int .i64 a4_3) := (zG BK256.out 3).trans rfl
      have hcz40_4 : w38.cell? ⟨gb256, 4, none⟩ = some (.int .i64 a4_4) := (zG BK256.out 4).trans rfl
      have hcz40_5 : w38.cell? ⟨gb256, 5, none⟩ = some (.float .f64 a4_5) := (zG BK256.out 5).trans rfl
      have hfz40_0 := zJ BK256.out 0; have hfz40_1 := zJ BK256.out 1; have hfz40_2 := zJ BK256.out 2; have hfz40_3 := zJ BK256.out 3; have hfz40_4 := zJ BK256.out 4; have hfz40_5 := zJ BK256.out 5; try go_wp2_with (first | ((with_reducible refine gate_callee (f := 36) rfl ?_); refine goesL_ (some 58) rfl rfl Try.func36 (by kernel_rfl) rfl #[.float .f64 bt_t261] rfl (by (try simp only [List.map_toArray, List.map_cons, List.map_nil]); first | done | rfl | (simp only [List.length_drop, List.length_take]; rfl)) ?_; (with_reducible refine (stanzaref12_Badness.calls kj5 t261 t262 _ A36.out).mono ?_); rintro e w' ⟨rfl, ⟨nd, rfl⟩⟩; refine ⟨_, rfl, ?_⟩))
      go_meet
      case rel => exact ⟨_, (t262), (by first | rfl | (simp; done) | (simp [*]; done)), H', ⟨by have := HJ5.out; first | omega | exact Nat.le_refl _⟩, ⟨by (with_reducible repeat (first | refine zC ?_ _ | refine zD ?_ | refine zB ?_ _)); exact BK255.out⟩, ⟨by (with_reducible repeat (first | refine zC ?_ _ | refine zD ?_ | refine zB ?_ _)); exact BK256.out⟩, ⟨by repeat (first | (with_reducible first | exact HB.out | apply zI | apply zF | apply zH | refine zE ?_ GE255.out | refine zE ?_ GE256.out) | exact HB.out)⟩⟩
    clear HC23; try clear c1
    try clear c2
    try clear p2
    try clear q2
    try clear hx2
    try clear c3
    try clear p6
    try clear c18
    try clear c18b0
    try clear c21
    try clear p25
    try clear q25
    try clear hx25
    try clear c26
    try clear c28
    try clear c31
    try clear c31b0
    try clear c31b1
    try clear c31b2
    try clear c34
    try clear c35
    try clear c36
    try clear c39
    try clear hcz22_0
    try clear hcz22_1
    try clear hcz22_2
    try clear hcz22_3
    try clear hcz22_4
    try clear hcz22_5
    try clear hcz27_0
    try clear hcz27_1
    try clear hcz27_2
    try clear hcz27_3
    try clear hcz27_4
    try clear hcz27_5
    try clear hcz35_0
    try clear hcz35_1
    try clear hcz35_2
    try clear hcz35_3
    try clear hcz35_4
    try clear hcz35_5
    try clear hcz40_0
    try clear hcz40_1
    try clear hcz40_2
    try clear hcz40_3
    try clear hcz40_4
    try clear hcz40_5
    try clear hfz22_0
    try clear hfz22_1
    try clear hfz22_2
    try clear hfz22_3
    try clear hfz22_4
    try clear hfz22_5
    try clear hfz27_0
    try clear hfz27_1
    try clear hfz27_2
    try clear hfz27_3
    try clear hfz27_4
    try clear hfz27_5
    try clear hfz35_0
    try clear hfz35_1
    try clear hfz35_2
    try clear hfz35_3
    try clear hfz35_4
    try clear hfz35_5
    try clear hfz40_0
    try clear hfz40_1
    try clear hfz40_2
    try clear hfz40_3
    try clear hfz40_4
    try clear hfz40_5
    try clear hx258_0
    try clear p258
    try clear q258
    obtain ⟨kq, x13_22, rfl, HA, HJ22, BK255, BK256, HB⟩ := hcut; cases kq with
    | zero => exact absurd HA.out (by simp [stanzaref13_Cost.j1])
    | succ kj22 =>
      have H := HA.out; clear HA; simp only [stanzaref13_Cost.j1] at H; by_cases c41 : 0 ≤ a2
      rotate_left
      · rw [if_neg c41] at H
        exact absurd H (by simp)
      rw [if_pos c41] at H; have c41b0 : decide (0 ≤ a2) = true := decide_eq_true c41
      clear c41; by_cases c42 : a2 < (l0_1.length : Int)
      rotate_left
      · rw [if_neg c42] at H
        exact absurd H (by simp)
      rw [if_pos c42] at H; have c42b0 : decide (a2 < (l0_1.length : Int)) = true := decide_eq_true c42
      clear c42; by_cases c43 : (rd l0_1 a2) = 3
      rotate_left
      · rw [if_neg c43] at H
        have c43b0 : ((rd l0_1 a2) == 3) = false := beq_eq_false_iff_ne.mpr c43
        have c43b1 : ((rd l0_1 a2) != 3) = true := bne_iff_ne.mpr c43
        simp only [Option.some.injEq, Prod.mk.injEq] at H; obtain ⟨rfl, rfl⟩ := H; have hnb53 := NB255_256.out; have hnc53 := NB256_255.out; have hcz54_0 : wc.cell? ⟨gb255, 0, none⟩ = some (.slice A0_0 l0_0.length c0_0) := (zG BK255.out 0).trans rfl
        have hcz54_1 : wc.cell? ⟨gb255, 1, none⟩ = some (.slice (some ad258) l0_1.length c0_1) := (zG BK255.out 1).trans rfl
        have hfz54_0 := zJ BK255.out 0; have hfz54_1 := zJ BK255.out 1; have p263 : 0 ≤ (a2 : Int) := of_decide_eq_true (by first | (with_reducible assumption) | assumption)
        have q263 : a2 < (l0_1.length : Int) := of_decide_eq_true (by first | (with_reducible assumption) | assumption)
        obtain ⟨ad263, e263, hx263_0⟩ := Kd.at_int HR0_1.out a2 p263 q263; obtain rfl : ad258 = ad263 := (by injection e263)
        replace hx263_0 := (HB.out.cell (World.block_lt_of_cell? w _ hx263_0)).trans hx263_0; replace p263 := eq_true p263; replace q263 := eq_true q263; go_wp2
        go_ret2
        exact ⟨by first | rfl | (simp [errW_none, errW_some] <;> rfl) | (simp [*, errW_none, errW_some] <;> rfl), by repeat (first | (with_reducible first | exact HB.out | apply zI | apply zF | apply zH | refine zE ?_ GE255.out | refine zE ?_ GE256.out) | exact HB.out)⟩
      rw [if_pos c43] at H; have c43b0 : ((rd l0_1 a2) == 3) = true := beq_iff_eq.mpr c43
      have c43b1 : ((rd l0_1 a2) != 3) = false := bne_eq_false_iff_eq.mpr c43
      clear c43; by_cases c44 : 0 ≤ a1
      rotate_left
      · rw [if_neg c44] at H
        exact absurd H (by simp)
      rw [if_pos c44] at H; have c44b0 : decide (0 ≤ a1) = true := decide_eq_true c44
      clear c44; by_cases c45 : a1 < (l0_1.length : Int)
      rotate_left
      · rw [if_neg c45] at H
        exact absurd H (by simp)
      rw [if_pos c45] at H; have c45b0 : decide (a1 < (l0_1.length : Int)) = true := decide_eq_true c45
      clear c45; by_cases c46 : (rd l0_1 a1) = 3
      · rw [if_pos c46] at H
        have c46b0 : ((rd l0_1 a1) == 3) = true := beq_iff_eq.mpr c46
        have c46b1 : ((rd l0_1 a1) != 3) = false := bne_eq_false_iff_eq.mpr c46
        clear c46; simp only [Option.some.injEq, Prod.mk.injEq] at H; obtain ⟨rfl, rfl⟩ := H; have hnb47 := NB255_256.out; have hnc47 := NB256_255.out; have hcz48_0 : wc.cell? ⟨gb255, 0, none⟩ = some (.slice A0_0 l0_0.length c0_0) := (zG BK255.out 0).trans rfl
        have hcz48_1 : wc.cell? ⟨gb255, 1, none⟩ = some (.slice (some ad258) l0_1.length c0_1) := (zG BK255.out 1).trans rfl
        have hfz48_0 := zJ BK255.out 0; have hfz48_1 := zJ BK255.out 1; have p263 : 0 ≤ (a2 : Int) := of_decide_eq_true (by first | (with_reducible assumption) | assumption)
        have q263 : a2 < (l0_1.length : Int) := of_decide_eq_true (by first | (with_reducible assumption) | assumption)
        obtain ⟨ad263, e263, hx263_0⟩ := Kd.at_int HR0_1.out a2 p263 q263; obtain rfl : ad258 = ad263 := (by injection e263)
        replace hx263_0 := (HB.out.cell (World.block_lt_of_cell? w _ hx263_0)).trans hx263_0; replace p263 := eq_true p263; replace q263 := eq_true q263; have hcz49_0 : wc.cell? ⟨gb256, 0, none⟩ = some (.int .i64 a4_0) := (zG BK256.out 0).trans rfl
        have hcz49_1 : wc.cell? ⟨gb256, 1, none⟩ = some (.int .i64 a4_1) := (zG BK256.out 1).trans rfl
        have hcz49_2 : wc.cell? ⟨gb256, 2, none⟩ = some (.int .u8 a4_2) := (zG BK256.out 2).trans rfl
        have hcz49_3 : wc.cell? ⟨gb256, 3, none⟩ = some (.int .i64 a4_3) := (zG BK256.out 3).trans rfl
        have hcz49_4 : wc.cell? ⟨gb256, 4, none⟩ = some (.int .i64 a4_4) := (zG BK256.out 4).trans rfl
        have hcz49_5 : wc.cell? ⟨gb256, 5, none⟩ = some (.float .f64 a4_5) := (zG BK256.out 5).trans rfl
        have hfz49_0 := zJ BK256.out 0; have hfz49_1 := zJ BK256.out 1; have hfz49_2 := zJ BK256.out 2; have hfz49_3 := zJ BK256.out 3; have hfz49_4 := zJ BK256.out 4; have hfz49_5 := zJ BK256.out 5; have p264 : 0 ≤ (a1 : Int) := of_decide_eq_true (by first | (with_reducible assumption) | assumption)
        have q264 : a1 < (l0_1.length : Int) := of_decide_eq_true (by first | (with_reducible assumption) | assumption)
        obtain ⟨ad264, e264, hx264_0⟩ := Kd.at_int HR0_1.out a1 p264 q264; obtain rfl : ad258 = ad264 := (by injection e264)
        replace hx264_0 := (HB.out.cell (World.block_lt_of_cell? w _ hx264_0)).trans hx264_0; replace p264 := eq_true p264; replace q264 := eq_true q264; go_wp2
        go_ret2
        exact ⟨by first | rfl | (simp [errW_none, errW_some] <;> rfl) | (simp [*, errW_none, errW_some] <;> rfl), by repeat (first | (with_reducible first | exact HB.out | apply zI | apply zF | apply zH | refine zE ?_ GE255.out | refine zE ?_ GE256.out) | exact HB.out)⟩
      rw [if_neg c46] at H; have c46b0 : ((rd l0_1 a1) == 3) = false := beq_eq_false_iff_ne.mpr c46
      have c46b1 : ((rd l0_1 a1) != 3) = true := bne_iff_ne.mpr c46
      simp only [Option.some.injEq, Prod.mk.injEq] at H; obtain ⟨rfl, rfl⟩ := H; have hnb50 := NB255_256.out; have hnc50 := NB256_255.out; have hcz51_0 : wc.cell? ⟨gb255, 0, none⟩ = some (.slice A0_0 l0_0.length c0_0) := (zG BK255.out 0).trans rfl
      have hcz51_1 : wc.cell? ⟨gb255, 1, none⟩ = some (.slice (some ad258) l0_1.length c0_1) := (zG BK255.out 1).trans rfl
      have hfz51_0 := zJ BK255.out 0; have hfz51_1 := zJ BK255.out 1; have p263 : 0 ≤ (a2 : Int) := of_decide_eq_true (by first | (with_reducible assumption) | assumption)
      have q263 : a2 < (l0_1.length : Int) := of_decide_eq_true (by first | (with_reducible assumption) | assumption)
      obtain ⟨ad263, e263, hx263_0⟩ := Kd.at_int HR0_1.out a2 p263 q263; obtain rfl : ad258 = ad263 := (by injection e263)
      replace hx263_0 := (HB.out.cell (World.block_lt_of_cell? w _ hx263_0)).trans hx263_0; replace p263 := eq_true p263; replace q263 := eq_true q263; have hcz52_0 : wc.cell? ⟨gb256, 0, none⟩ = some (.int .i64 a4_0) := (zG BK256.out 0).trans rfl
      have hcz52_1 : wc.cell? ⟨gb256, 1, none⟩ = some (.int .i64 a4_1) := (zG BK256.out 1).trans rfl
      have hcz52_2 : wc.cell? ⟨gb256, 2, none⟩ = some (.int .u8 a4_2) := (zG BK256.out 2).trans rfl
      have hcz52_3 : wc.cell? ⟨gb256, 3, none⟩ = some (.int .i64 a4_3) := (zG BK256.out 3).trans rfl
      have hcz52_4 : wc.cell? ⟨gb256, 4, none⟩ = some (.int .i64 a4_4) := (zG BK256.out 4).trans rfl
      have hcz52_5 : wc.cell? ⟨gb256, 5, none⟩ = some (.float .f64 a4_5) := (zG BK256.out 5).trans rfl
      have hfz52_0 := zJ BK256.out 0; have hfz52_1 := zJ BK256.out 1; have hfz52_2 := zJ BK256.out 2; have hfz52_3 := zJ BK256.out 3; have hfz52_4 := zJ BK256.out 4; have hfz52_5 := zJ BK256.out 5; have p264 : 0 ≤ (a1 : Int) := of_decide_eq_true (by first | (with_reducible assumption) | assumption)
      have q264 : a1 < (l0_1.length : Int) := of_decide_eq_true (by first | (with_reducible assumption) | assumption)
      obtain ⟨ad264, e264, hx264_0⟩ := Kd.at_int HR0_1.out a1 p264 q264; obtain rfl : ad258 = ad264 := (by injection e264)
      replace hx264_0 := (HB.out.cell (World.block_lt_of_cell? w _ hx264_0)).trans hx264_0; replace p264 := eq_true p264; replace q264 := eq_true q264; go_wp2
      go_ret2
      exact ⟨by first | rfl | (simp [errW_none, errW_some] <;> rfl) | (simp [*, errW_none, errW_some] <;> rfl), by repeat (first | (with_reducible first | exact HB.out | apply zI | apply zF | apply zH | refine zE ?_ GE255.out | refine zE ?_ GE256.out) | exact HB.out)⟩
end Go.Proofs.Ytlgclhhkgohanaa.F
end
section
namespace Go.Proofs.Ytlgclhhkgohanaa.F
open Go.RowKit Go.Proofs.YtlgclhhkgohanaaW.PrintWords Go.Proofs.YtlgclhhkgohanaaW.PrintLast Go.Proofs.YtlgclhhkgohanaaW.PrintMore
attribute [local go_sem] max2_int min2_int max_two min_two max_three min_three max_four min_four   -- for this text's walks alone
set_option linter.unusedVariables false
set_option linter.unusedSimpArgs false
def span_Gaps.l0 : Nat → Int → List (S62) → Int → Int → Option (Int)
  | 0, _, _, _, _ => none
  | k + 1, x7, x17, x18, x19 => if x19 < x18 then (if 0 ≤ x19 then (if x19 < (x17.length : Int) then (if ((rd_T62 x17 x19).f3) = 1 then (span_Gaps.l0 k (wrap64 (x7 + 1)) x17 x18 (wrap64 (x19 + 1))) else (span_Gaps.l0 k x7 x17 x18 (wrap64 (x19 + 1)))) else (none)) else (none)) else (some x7)
def span_Gaps.f (k : Nat) (l0_0 : List (S62)) (l0_1 : List Int) (a1 : Int) (a2 : Int) : Option (Int) := (span_Trim.f k l0_0 l0_1 a1 a2).bind fun t410 => (if 0 ≤ a1 then (if a1 ≤ t410 then (if t410 ≤ (l0_0.length : Int) then ((some ((l0_0.take (t410 : Int).toNat).drop (a1 : Int).toNat : List (S62))).bind fun y411 => (span_Gaps.l0 k 0 y411 (y411.length : Int) 0)) else (none)) else (none)) else (none))
theorem span_Gaps.mono_l : ∀ k, (∀ y0 y1 y2 y3, LeO (span_Gaps.l0 k y0 y1 y2 y3) (span_Gaps.l0 (k + 1) y0 y1 y2 y3))
  | 0 => fun _ _ _ _ r h => by simp [span_Gaps.l0] at h
  | k + 1 => by
    have ih0 := span_Gaps.mono_l k
    · intro y0 y1 y2 y3
      unfold span_Gaps.l0
      repeat' first
      | (with_reducible exact ih0 _ _ _ _)
      | (with_reducible exact span_Trim.mono _ _ _ _ _)
      | (with_reducible exact LeO.refl _)
      | (with_reducible exact LeO.none _)
      | (with_reducible refine LeO.ite ?_ ?_)
      | (with_reducible refine LeO.bind ?_ (fun _ => ?_))
      | exact ih0 _ _ _ _
      | exact span_Trim.mono _ _ _ _ _
      | exact LeO.none _
      | refine LeO.ite ?_ ?_
      | refine LeO.bind ?_ (fun _ => ?_)
theorem span_Gaps.mono : ∀ a0 a1 a2 a3 k, LeO (span_Gaps.f k a0 a1 a2 a3) (span_Gaps.f (k + 1) a0 a1 a2 a3) := by
  intro a0 a1 a2 a3 k
  have ih0 := span_Gaps.mono_l k; unfold span_Gaps.f
  repeat' first
      | (with_reducible exact ih0 _ _ _ _)
      | (with_reducible exact span_Trim.mono _ _ _ _ _)
      | (with_reducible exact LeO.refl _)
      | (with_reducible exact LeO.none _)
      | (with_reducible refine LeO.ite ?_ ?_)
      | (with_reducible refine LeO.bind ?_ (fun _ => ?_))
      | exact ih0 _ _ _ _
      | exact span_Trim.mono _ _ _ _ _
      | exact LeO.none _
      | refine LeO.ite ?_ ?_
      | refine LeO.bind ?_ (fun _ => ?_)
def span_Gaps.T2 : Bool × List (List Nat × List Nat) := (true, [([], []), ([0], [0]), ([], []), ([], []), ([], []), ([], []), ([3, 4, 5], [3, 4, 5]), ([1, 2, 6], [1, 2, 6]), ([7], [7]), ([], [])])
def span_Gaps.B2 : List Nat := [0, 1, 0, 0, 0, 0, 56, 127, 255, 0]
theorem span_Gaps.tab2 : rtab .any (opsOf Try.f33 2) = span_Gaps.T2 := by kernel_rfl
theorem span_Gaps.bits2 : waitsOk span_Gaps.T2.2 span_Gaps.B2 = true := by kernel_rfl
set_option maxHeartbeats 8000000 in
set_option maxRecDepth 100000 in
theorem span_Gaps.calls (k : Nat) (A0_0 : Option Addr) (c0_0 : Nat) (l0_0 : List (S62)) (A0_1 : Option Addr) (c0_1 : Nat) (l0_1 : List Int) (a1 : Int) (a2 : Int) (r : Int) (w : World) (hr0_0 : Kd.C k62 w A0_0 l0_0.length l0_0) (hc0_0 : l0_0.length ≤ c0_0) (hr0_1 : Kd.C (Kd.int .u8) w A0_1 l0_1.length l0_1) (hc0_1 : l0_1.length ≤ c0_1) (h : span_Gaps.f k l0_0 l0_1 a1 a2 = some r) :
    Calls Try.prog 33 #[.agg #[.slice A0_0 l0_0.length c0_0, .slice A0_1 l0_1.length c0_1], .int .i64 a1, .int .i64 a2] w fun e w' => e = .returned (.int .i64 r) ∧ Below w.heap.size w w' := by
  have hu31 := Try.underlying31; have hu62 := Try.underlying62; have HR0_0 := zA.mk hr0_0; have HC0_0 := zA.mk hc0_0; clear hr0_0 hc0_0; have HR0_1 := zA.mk hr0_1; have HC0_1 := zA.mk hc0_1; clear hr0_1 hc0_1; have HB := zA.mk (Below.refl w.heap.size w); have H : ((span_Trim.f k l0_0 l0_1 a1 a2).bind fun t410 => (if 0 ≤ a1 then (if a1 ≤ t410 then (if t410 ≤ (l0_0.length : Int) then ((some ((l0_0.take (t410 : Int).toNat).drop (a1 : Int).toNat : List (S62))).bind fun y411 => (span_Gaps.l0 k 0 y411 (y411.length : Int) 0)) else (none)) else (none)) else (none))) = some r := h
  clear h; replace H := Option.bind_eq_some_iff.mp H; obtain ⟨t410, A40, H⟩ := H; replace H : (if 0 ≤ a1 then (if a1 ≤ t410 then (if t410 ≤ (l0_0.length : Int) then ((some ((l0_0.take (t410 : Int).toNat).drop (a1 : Int).toNat : List (S62))).bind fun y411 => (span_Gaps.l0 k 0 y411 (y411.length : Int) 0)) else (none)) else (none)) else (none)) = some r := H
  have A4 := zA.mk A40; clear A40; by_cases c5 : 0 ≤ a1
  rotate_left
  · rw [if_neg c5] at H
    exact absurd H (by simp)
  rw [if_pos c5] at H; have c5b0 := eq_true c5; have c5b1 : decide (0 ≤ a1) = true := decide_eq_true c5
  clear c5; by_cases c6 : a1 ≤ t410
  rotate_left
  · rw [if_neg c6] at H
    exact absurd H (by simp)
  rw [if_pos c6] at H; have c6b0 := eq_true c6; have c6b1 : decide (a1 ≤ t410) = true := decide_eq_true c6
  clear c6; by_cases c7 : t410 ≤ (l0_0.length : Int)
  rotate_left
  · rw [if_neg c7] at H
    exact absurd H (by simp)
  rw [if_pos c7] at H; have c7b0 := eq_true c7; have c7b1 : decide (t410 ≤ (l0_0.length : Int)) = true := decide_eq_true c7
  clear c7; obtain ⟨y411, hy411⟩ : ∃ y_ : List (S62), y_ = ((l0_0.take (t410 : Int).toNat).drop (a1 : Int).toNat) := ⟨_, rfl⟩; replace H : (span_Gaps.l0 k 0 y411 (y411.length : Int) 0) = some r := by first | (rw [hy411]; with_reducible exact H) | (have H2_ := (Option.bind_some _ _).symm.trans H; rw [hy411]; with_reducible exact H2_) | (have H2_ := (Option.bind_some _ _).symm.trans H; with_reducible exact H2_) | with_reducible exact H | (rw [hy411]; exact H) | exact H
  have Ny411 := zA.mk hy411; clear hy411; have H' := zA.mk H
  clear H; go_enter Try.func33, Try.ntmps33
  try go_wp2_with (first | ((with_reducible refine gate_dst (N := 3) rfl ?_); refine box_event ?hg (N := 3) ?hd (cs := #[.slice A0_0 l0_0.length c0_0, .slice A0_1 l0_1.length c0_1]) (t := 31) ?hr ?_; (case hd => rfl); (case hg => rfl); (case hr => first | (go_simp; done) | (go_simp; rfl)); intro gb409 hg w8 hbox hb; have n0_ := zA.mk (zM (by repeat (first | (with_reducible first | exact HB.out | apply zI | apply zF | apply zH) | exact HB.out)) hb); have n1_ := zA.mk (hbox); have n2_ := zA.mk ((by rw [hg]; exact (zL (by repeat (first | (with_reducible first | exact HB.out | apply zI | apply zF | apply zH) | exact HB.out))) : w.heap.size ≤ gb409)); have n3_ := zA.mk ((by rw [hg]; exact (zL (by repeat (first | (with_reducible first | exact HB.out | apply zI | apply zF | apply zH) | exact HB.out))) : w.heap.size ≤ gb409)); clear HB; have HB := n0_; have BK409 := n1_; have GW409 := n2_; have GE409 := n3_; clear n0_ n1_ n2_ n3_; clear hb hbox hg))
  have n0_ := zA.mk (zD BK409.out); have n1_ := zA.mk (zH HB.out); clear BK409; clear HB; have BK409 := n0_; have HB := n1_; clear n0_ n1_; refine start_ (n := 10) (S := fun w' => w'.cell? ⟨gb409, 0, none⟩ = some (.slice A0_0 l0_0.length c0_0) ∧ w'.cell? ⟨gb409, 1, none⟩ = some (.slice A0_1 l0_1.length c0_1)) (ds := []) #[false, false, false, false, false, false, false, false, false, false] (by kernel_rfl) rfl rfl ⟨(zG BK409.out 0).trans rfl, (zG BK409.out 1).trans rfl⟩ (fun hHeld => ?_); refine with_tabW span_Gaps.tab2 span_Gaps.bits2 (fun HT_ HW_ => ?_)
  generalize w8.drew = w9 at BK409 HB hHeld ⊢
  refine pure_ (i := 0) (N := some 10) (v := ?_) (a' := ?_) (tf_ 1 10) rfl rfl (any_of HT_.out (by kernel_rfl)) (fun _ _ _ h => h) (Or.inl ⟨by rfl, ?_⟩) ?_ ?_
  rotate_left
  · intro w'
    go_simp
    with_reducible rfl
  rotate_left
  · simp only [Act.put, sA_, sB_, sC_, i64_w, i32_w]
    rfl
  refine pure_ (i := 2) (N := some 12) (v := ?_) (a' := ?_) #[true, false, true, false, false, false, false, false, false, false] rfl rfl (any_of HT_.out (by kernel_rfl)) (fun _ _ _ h => h) (Or.inl ⟨by rfl, ?_⟩) ?_ ?_
  rotate_left
  · intro w'
    go_simp
    with_reducible rfl
  rotate_left
  · simp only [Act.put, sA_, sB_, sC_, i64_w, i32_w]
    rfl
  refine pure_ (i := 4) (N := some 14) (v := ?_) (a' := ?_) #[true, false, true, false, true, false, false, false, false, false] rfl rfl (any_of HT_.out (by kernel_rfl)) (fun _ _ _ h => h) (Or.inl ⟨by rfl, ?_⟩) ?_ ?_
  rotate_left
  · intro w'
    go_simp
    with_reducible rfl
  rotate_left
  · simp only [Act.put, sA_, sB_, sC_, i64_w, i32_w]
    rfl
  refine pure_ (i := 5) (N := some 15) (v := ?_) (a' := ?_) #[true, false, true, false, true, true, false, false, false, false] rfl rfl (any_of HT_.out (by kernel_rfl)) (fun _ _ _ h => h) (Or.inl ⟨by rfl, ?_⟩) ?_ ?_
  rotate_left
  · intro w'
    go_simp
    with_reducible rfl
  rotate_left
  · simp only [Act.put, sA_, sB_, sC_, i64_w, i32_w]
    rfl
  refine pure_ (i := 9) (N := some 19) (v := ?_) (a' := ?_) #[true, false, true, false, true, true, false, false, false, true] rfl rfl (any_of HT_.out (by kernel_rfl)) (fun _ _ _ h => h) (Or.inl ⟨by rfl, ?_⟩) ?_ ?_
  rotate_left
  · intro w'
    go_simp
    with_reducible rfl
  rotate_left
  · simp only [Act.put, sA_, sB_, sC_, i64_w, i32_w]
    rfl
  refine take_ (i := 1) (N := some 11) (v := ?_) (a' := ?_) #[true, true, true, false, true, true, false, false, false, true] rfl rfl (take_ofW HT_.out HW_.out (by kernel_rfl)) (fun _ _ _ h => h) (Or.inl ⟨by rfl, ?_⟩) hHeld ?_ ?_
  rotate_left
  · rintro w' ⟨s0, s1⟩
    go_simp
    with_reducible rfl
  rotate_left
  · simp only [Act.put, sA_, sB_, sC_, i64_w, i32_w]
    rfl
  refine take_ (i := 3) (N := some 13) (v := ?_) (a' := ?_) #[true, true, true, true, true, true, false, false, false, true] rfl rfl (take_ofW HT_.out HW_.out (by kernel_rfl)) (fun _ _ _ h => h) (Or.inl ⟨by rfl, ?_⟩) hHeld ?_ ?_
  rotate_left
  · rintro w' ⟨s0, s1⟩
    go_simp
    with_reducible rfl
  rotate_left
  · simp only [Act.put, sA_, sB_, sC_, i64_w, i32_w]
    rfl
  refine one_ (i := 6) (N := some 16) #[true, true, true, true, true, true, true, false, false, true] rfl rfl (one_of HT_.out (by kernel_rfl)) (by decide) (fun K hK => ?_)
  refine goes_ Try.func38 (by kernel_rfl) rfl #[.agg #[.slice A0_0 l0_0.length c0_0, .slice A0_1 l0_1.length c0_1], .int .i64 a1, .int .i64 a2] (by rfl) rfl rfl (by (try simp only [List.map_toArray, List.map_cons, List.map_nil]); first | done | rfl | (simp only [List.length_drop, List.length_take]; rfl)) ?_
  with_reducible refine (span_Trim.calls k _ _ l0_0 _ _ l0_1 a1 a2 t410 _ ?side1 ?side2 ?side3 ?side4 A4.out).mono ?_
  (case side1 => repeat (first | exact (Kd.C_below HR0_0.out HB.out) | (with_reducible refine Kd.C_alloc ?_ _) | (with_reducible refine Kd.C_drewN ?_ _) | (with_reducible refine Kd.C_drew ?_)))
  (case side2 => exact HC0_0.out)
  (case side3 => repeat (first | exact (Kd.C_below HR0_1.out HB.out) | (with_reducible refine Kd.C_alloc ?_ _) | (with_reducible refine Kd.C_drewN ?_ _) | (with_reducible refine Kd.C_drew ?_)))
  (case side4 => exact HC0_1.out)
  rintro e w10 ⟨rfl, hb⟩
  refine ⟨_, rfl, ?_⟩
  have n0_ := zA.mk (zK (g := gb409) (o := .cells #[.slice A0_0 l0_0.length c0_0, .slice A0_1 l0_1.length c0_1] 31 (0, 0)) (by (with_reducible repeat (first | refine zC ?_ _ | refine zD ?_ | refine zB ?_ _)); exact BK409.out) hb)
  have n1_ := zA.mk (zM (by repeat (first | (with_reducible first | exact HB.out | apply zI | apply zF | apply zH | refine zE ?_ GE409.out) | exact HB.out)) hb)
  clear BK409 HB; have BK409 := n0_; have HB := n1_; clear n0_ n1_; (try clear hb)
  (try clear hb2)
  (try clear hk)
  (try clear hi)
  have q11 : (t410 : Int) ≤ ((l0_0.length : Int) : Int) := of_decide_eq_true (by first | (with_reducible assumption) | assumption)
  obtain ⟨i011, hi011, _, hsz11, _⟩ := info_parts info62; have hroom11 : l0_0.length ≤ c0_0 := HC0_0.out
  have hC11 : Kd.C k62 _ A0_0 l0_0.length l0_0 := HR0_0.out
  have ql11 : (a1 : Int) ≤ (t410 : Int) := of_decide_eq_true (by first | (with_reducible assumption) | assumption)
  have q011 : (0 : Int) ≤ (a1 : Int) := of_decide_eq_true (by first | (with_reducible assumption) | assumption)
  have hcut11 := cut_mid (P := Try.prog) 28 62 .i64 .i64 Try.underlying28 hi011 4 hsz11 A0_0 l0_0.length c0_0 a1 t410 q011 ql11 q11 hroom11; have hr11 := Kd.C_mid (lo := (a1 : Int).toNat) (hi := (t410 : Int).toNat) (c := c0_0) hC11 (by omega) (by omega) hroom11
  obtain ⟨A11, hA11⟩ : ∃ A1, A1 = (if c0_0 = (a1 : Int).toNat then A0_0 else (A0_0 : Option Addr).map (·.add ((a1 : Int).toNat * 4))) := ⟨_, rfl⟩
  obtain ⟨c11, hc11⟩ : ∃ c1, c1 = c0_0 - (a1 : Int).toNat := ⟨_, rfl⟩; have hy11 : y411.length = (t410 : Int).toNat - (a1 : Int).toNat := (by rw [Ny411.out, List.length_drop, List.length_take] <;> omega)
  rw [show ((l0_0).take (t410 : Int).toNat).drop (a1 : Int).toNat = y411 from Ny411.out.symm] at hr11; replace hr11 : Kd.C k62 _ A11 y411.length y411 := (by rw [hA11]; exact hr11)
  rw [← hy11, ← hA11, ← hc11] at hcut11; have HR414 := zA.mk hr11; have HC414 := zA.mk (show y411.length ≤ c11 from by rw [hy11, hc11]; exact Nat.sub_le_sub_right (Nat.le_trans (by omega) hroom11) _)
  clear hr11 hC11 hroom11 hi011 hsz11 hc11; have KY11 := zA.mk hy11; have KA11 := zA.mk hA11; clear hy11 hA11; replace q11 := eq_true q11; refine hK.out _ _ ⟨(zG BK409.out 0).trans rfl, (zG BK409.out 1).trans rfl⟩ (fun hHeld => ?_)
  clear hK K; refine norm_ (a' := ?_) ?_ ?_
  rotate_left
  · show Act.put _ (some 16) _ = _
    simp only [Act.put, sA_, sB_, sC_, i64_w, i32_w]; rfl
  refine pure_ (i := 7) (N := some 17) (v := ?_) (a' := ?_) #[true, true, true, true, true, true, true, true, false, true] rfl rfl (any_of HT_.out (by kernel_rfl)) (fun _ _ _ h => h) (Or.inl ⟨by rfl, ?_⟩) ?_ ?_
  rotate_left
  · intro w'
    go_simp
    with_reducible rfl
  rotate_left
  · simp only [Act.put, sA_, sB_, sC_, i64_w, i32_w]
    rfl
  refine pure_ (i := 8) (N := some 18) (v := ?_) (a' := ?_) #[true, true, true, true, true, true, true, true, true, true] rfl rfl (any_of HT_.out (by kernel_rfl)) (fun _ _ _ h => h) (Or.inl ⟨by rfl, ?_⟩) ?_ ?_
  rotate_left
  · intro w'
    go_simp
    with_reducible rfl
  rotate_left
  · simp only [Act.put, sA_, sB_, sC_, i64_w, i32_w]
    rfl
  refine done_ (done_of HT_.out (by kernel_rfl)) ?_
  try go_wp2
  go_loopg [7, 19] k (fun kq v7 v19 w' => ∃ (x7_1 : Int) (x19_1 : Int), v7 = .int .i64 x7_1 ∧ v19 = .int .i64 x19_1 ∧ zA (span_Gaps.l0 kq x7_1 y411 (y411.length : Int) x19_1 = some r) ∧ zA (kq ≤ k) ∧ zA (w'.heap[gb409]? = some (.cells #[(.slice A0_0 l0_0.length c0_0), (.slice A0_1 l0_1.length c0_1)] 31 (0, 0))) ∧ zA (Below w.heap.size w w'))
  case atStart => exact ⟨(0), (0), (by first | rfl | (simp; done) | (simp [*]; done)), (by first | rfl | (simp; done) | (simp [*]; done)), H', ⟨Nat.le_refl _⟩, ⟨by (with_reducible repeat (first | refine zC ?_ _ | refine zD ?_ | refine zB ?_ _)); exact BK409.out⟩, ⟨by repeat (first | (with_reducible first | exact HB.out | apply zI | apply zF | apply zH | refine zE ?_ GE409.out) | exact HB.out)⟩⟩
  clear H'; try clear c1
  try clear q1
  try clear p2
  try clear c3
  try clear c5
  try clear c5b0
  try clear c5b1
  try clear c6
  try clear c6b0
  try clear c6b1
  try clear c7
  try clear c7b0
  try clear c7b1
  try clear c11
  try clear q11
  try clear q011
  try clear q11
  obtain ⟨x7_1, x19_1, rfl, rfl, HA, HK1, BK409, HB⟩ := hrel; cases gk with
  | zero => exact absurd HA.out (by simp [span_Gaps.l0])
  | succ k1 =>
    have H := HA.out; clear HA; simp only [span_Gaps.l0] at H; by_cases c12 : x19_1 < (y411.length : Int)
    rotate_left
    · rw [if_neg c12] at H
      have c12b0 : decide (x19_1 < (y411.length : Int)) = false := decide_eq_false c12
      clear c12; obtain rfl := Option.some.inj H
      go_wp2
      go_ret
      exact ⟨by first | rfl | (simp [errW_none, errW_some] <;> rfl) | (simp [*, errW_none, errW_some] <;> rfl), by repeat (first | (with_reducible first | exact HB.out | apply zI | apply zF | apply zH | refine zE ?_ GE409.out) | exact HB.out)⟩
    rw [if_pos c12] at H; have c12b0 : decide (x19_1 < (y411.length : Int)) = true := decide_eq_true c12
    clear c12; by_cases c13 : 0 ≤ x19_1
    rotate_left
    · rw [if_neg c13] at H
      exact absurd H (by simp)
    rw [if_pos c13] at H; have c13b0 : decide (0 ≤ x19_1) = true := decide_eq_true c13
    clear c13; by_cases c14 : x19_1 < (y411.length : Int)
    rotate_left
    · rw [if_neg c14] at H
      exact absurd H (by simp)
    rw [if_pos c14] at H; have c14b0 : decide (x19_1 < (y411.length : Int)) = true := decide_eq_true c14
    clear c14; by_cases c15 : ((rd_T62 y411 x19_1).f3) = 1
    · rw [if_pos c15] at H
      have c15b0 : (((rd_T62 y411 x19_1).f3) == 1) = true := beq_iff_eq.mpr c15
      have c15b1 : (((rd_T62 y411 x19_1).f3) != 1) = false := bne_eq_false_iff_eq.mpr c15
      clear c15; have H' := zA.mk H
      clear H; have p415 : 0 ≤ (x19_1 : Int) := of_decide_eq_true (by first | (with_reducible assumption) | assumption)
      have q415 : x19_1 < (y411.length : Int) := of_decide_eq_true (by first | (with_reducible assumption) | assumption)
      obtain ⟨ad415, e415, hx415_0, hx415_1, hx415_2, hx415_3⟩ := at_T62 HR414.out x19_1 p415 q415; cases e415
      replace hx415_0 := (HB.out.cell (World.block_lt_of_cell? w _ hx415_0)).trans hx415_0; replace hx415_1 := (HB.out.cell (World.block_lt_of_cell? w _ hx415_1)).trans hx415_1; replace hx415_2 := (HB.out.cell (World.block_lt_of_cell? w _ hx415_2)).trans hx415_2; replace hx415_3 := (HB.out.cell (World.block_lt_of_cell? w _ hx415_3)).trans hx415_3; replace p415 := eq_true p415; replace q415 := eq_true q415; go_wp2_with (first | ((with_reducible refine gate_dst (N := 9) rfl ?_); refine box_event ?hg (N := 9) ?hd (cs := #[.int .i64 0, .int .i64 0, .int .i64 0, .int .u8 0]) (t := 62) ?hr ?_; (case hd => rfl); (case hg => rfl); (case hr => first | (go_simp; done) | (go_simp; rfl)); intro gb416 hg w16 hbox hb; have n0_ := zA.mk (zK (g := gb409) (o := .cells #[.slice A0_0 l0_0.length c0_0, .slice A0_1 l0_1.length c0_1] 31 (0, 0)) (by (with_reducible repeat (first | refine zC ?_ _ | refine zD ?_ | refine zB ?_ _)); exact BK409.out) hb); have n1_ := zA.mk (zM (by repeat (first | (with_reducible first | exact HB.out | apply zI | apply zF | apply zH | refine zE ?_ GE409.out) | exact HB.out)) hb); have n2_ := zA.mk (hbox); have n3_ := zA.mk ((by rw [hg]; exact (zL (by repeat (first | (with_reducible first | exact HB.out | apply zI | apply zF | apply zH | refine zE ?_ GE409.out) | exact HB.out))) : w.heap.size ≤ gb416)); have n4_ := zA.mk ((by rw [hg]; exact (zL (by repeat (first | (with_reducible first | exact HB.out | apply zI | apply zF | apply zH | refine zE ?_ GE409.out) | exact HB.out))) : w.heap.size ≤ gb416)); have n5_ := zA.mk ((by rw [hg]; exact Nat.ne_of_lt (blk_lt (g := gb409) (o := .cells #[.slice A0_0 l0_0.length c0_0, .slice A0_1 l0_1.length c0_1] 31 (0, 0)) (by (with_reducible repeat (first | refine zC ?_ _ | refine zD ?_ | refine zB ?_ _)); exact BK409.out)) : gb409 ≠ gb416)); have n6_ := zA.mk ((by rw [hg]; exact Nat.ne_of_gt (blk_lt (g := gb409) (o := .cells #[.slice A0_0 l0_0.length c0_0, .slice A0_1 l0_1.length c0_1] 31 (0, 0)) (by (with_reducible repeat (first | refine zC ?_ _ | refine zD ?_ | refine zB ?_ _)); exact BK409.out)) : gb416 ≠ gb409)); clear BK409; clear HB; have BK409 := n0_; have HB := n1_; have BK416 := n2_; have GW416 := n3_; have GE416 := n4_; have NB409_416 := n5_; have NB416_409 := n6_; clear n0_ n1_ n2_ n3_ n4_ n5_ n6_; clear hb hbox hg; have hnb17 := NB416_409.out; have hnc17 := NB409_416.out; have hcz18_0 : w16.cell? ⟨gb416, 0, none⟩ = some (.int .i64 0) := (zG BK416.out 0).trans rfl; have hcz18_1 : w16.cell? ⟨gb416, 1, none⟩ = some (.int .i64 0) := (zG BK416.out 1).trans rfl; have hcz18_2 : w16.cell? ⟨gb416, 2, none⟩ = some (.int .i64 0) := (zG BK416.out 2).trans rfl; have hcz18_3 : w16.cell? ⟨gb416, 3, none⟩ = some (.int .u8 0) := (zG BK416.out 3).trans rfl; have hfz18_0 := zJ BK416.out 0; have hfz18_1 := zJ BK416.out 1; have hfz18_2 := zJ BK416.out 2; have hfz18_3 := zJ BK416.out 3) | ((with_reducible refine gate_store (t := 62) (p := 9) rfl ?_); refine store_event (t := 62) (p := 9) (v := ?vo_w19) (w1 := ((((w16.setCell ⟨gb416, 0, none⟩ (.int .i64 ((rd_T62 y411 x19_1).f0))).setCell ⟨gb416, 1, none⟩ (.int .i64 ((rd_T62 y411 x19_1).f1))).setCell ⟨gb416, 2, none⟩ (.int .i64 ((rd_T62 y411 x19_1).f2))).setCell ⟨gb416, 3, none⟩ (.int .u8 ((rd_T62 y411 x19_1).f3)))) ?hg ?ho ?hn ?hr ?_; (case ho => rfl); (case hg => rfl); (case hn => rfl); (case hr => first | (go_simp; done) | (go_simp; rfl)); intro w19 hw; have n0_ : zA (w19.heap[gb409]? = some (.cells #[.slice A0_0 l0_0.length c0_0, .slice A0_1 l0_1.length c0_1] 31 (0, 0))) := ⟨(by rw [hw]; exact (by (with_reducible repeat (first | refine zC ?_ _ | refine zD ?_ | refine zB ?_ _)); refine blk_far ?_ NB409_416.out _; (with_reducible repeat (first | refine zC ?_ _ | refine zD ?_ | refine zB ?_ _)); refine blk_far ?_ NB409_416.out _; (with_reducible repeat (first | refine zC ?_ _ | refine zD ?_ | refine zB ?_ _)); refine blk_far ?_ NB409_416.out _; (with_reducible repeat (first | refine zC ?_ _ | refine zD ?_ | refine zB ?_ _)); refine blk_far ?_ NB409_416.out _; (with_reducible repeat (first | refine zC ?_ _ | refine zD ?_ | refine zB ?_ _)); exact BK409.out))⟩; have n1_ : zA (w19.heap[gb416]? = some (.cells #[.int .i64 ((rd_T62 y411 x19_1).f0), .int .i64 ((rd_T62 y411 x19_1).f1), .int .i64 ((rd_T62 y411 x19_1).f2), .int .u8 ((rd_T62 y411 x19_1).f3)] 62 (0, 0))) := ⟨(by rw [hw]; exact (by (with_reducible repeat (first | refine zC ?_ _ | refine zD ?_ | refine zB ?_ _)); refine blk_put (cs := #[.int .i64 ((rd_T62 y411 x19_1).f0), .int .i64 ((rd_T62 y411 x19_1).f1), .int .i64 ((rd_T62 y411 x19_1).f2), .int .u8 0]) ?_ 3 _ rfl; (with_reducible repeat (first | refine zC ?_ _ | refine zD ?_ | refine zB ?_ _)); refine blk_put (cs := #[.int .i64 ((rd_T62 y411 x19_1).f0), .int .i64 ((rd_T62 y411 x19_1).f1), .int .i64 0, .int .u8 0]) ?_ 2 _ rfl; (with_reducible repeat (first | refine zC ?_ _ | refine zD ?_ | refine zB ?_ _)); refine blk_put (cs := #[.int .i64 ((rd_T62 y411 x19_1).f0), .int .i64 0, .int .i64 0, .int .u8 0]) ?_ 1 _ rfl; (with_reducible repeat (first | refine zC ?_ _ | refine zD ?_ | refine zB ?_ _)); refine blk_put (cs := #[.int .i64 0, .int .i64 0, .int .i64 0, .int .u8 0]) ?_ 0 _ rfl; (with_reducible repeat (first | refine zC ?_ _ | refine zD ?_ | refine zB ?_ _)); exact BK416.out))⟩; have n2_ : zA (Below w.heap.size w w19) := ⟨(by rw [hw]; exact (by repeat (first | (with_reducible first | exact HB.out | apply zI | apply zF | apply zH | refine zE ?_ GE409.out | refine zE ?_ GE416.out) | exact HB.out)))⟩; clear hw; clear BK409; clear BK416; clear HB; have BK409 := n0_; have BK416 := n1_; have HB := n2_; clear n0_ n1_ n2_; have hcz20_0 : w19.cell? ⟨gb416, 0, none⟩ = some (.int .i64 ((rd_T62 y411 x19_1).f0)) := (zG BK416.out 0).trans rfl; have hcz20_1 : w19.cell? ⟨gb416, 1, none⟩ = some (.int .i64 ((rd_T62 y411 x19_1).f1)) := (zG BK416.out 1).trans rfl; have hcz20_2 : w19.cell? ⟨gb416, 2, none⟩ = some (.int .i64 ((rd_T62 y411 x19_1).f2)) := (zG BK416.out 2).trans rfl; have hcz20_3 : w19.cell? ⟨gb416, 3, none⟩ = some (.int .u8 ((rd_T62 y411 x19_1).f3)) := (zG BK416.out 3).trans rfl; have hfz20_0 := zJ BK416.out 0; have hfz20_1 := zJ BK416.out 1; have hfz20_2 := zJ BK416.out 2; have hfz20_3 := zJ BK416.out 3))
      go_roundg k1
      case measure => have := HK1.out; omega
      case rel => exact ⟨(wrap64 (x7_1 + 1)), (wrap64 (x19_1 + 1)), (by first | rfl | (simp; done) | (simp [*]; done)), (by first | rfl | (simp; done) | (simp [*]; done)), H', ⟨by have := HK1.out; omega⟩, ⟨by (with_reducible repeat (first | refine zC ?_ _ | refine zD ?_ | refine zB ?_ _)); exact BK409.out⟩, ⟨by repeat (first | (with_reducible first | exact HB.out | apply zI | apply zF | apply zH | refine zE ?_ GE409.out | refine zE ?_ GE416.out) | exact HB.out)⟩⟩
    rw [if_neg c15] at H; have c15b0 : (((rd_T62 y411 x19_1).f3) == 1) = false := beq_eq_false_iff_ne.mpr c15
    have c15b1 : (((rd_T62 y411 x19_1).f3) != 1) = true := bne_iff_ne.mpr c15
    have H' := zA.mk H
    clear H; have p415 : 0 ≤ (x19_1 : Int) := of_decide_eq_true (by first | (with_reducible assumption) | assumption)
    have q415 : x19_1 < (y411.length : Int) := of_decide_eq_true (by first | (with_reducible assumption) | assumption)
    obtain ⟨ad415, e415, hx415_0, hx415_1, hx415_2, hx415_3⟩ := at_T62 HR414.out x19_1 p415 q415; cases e415
    replace hx415_0 := (HB.out.cell (World.block_lt_of_cell? w _ hx415_0)).trans hx415_0; replace hx415_1 := (HB.out.cell (World.block_lt_of_cell? w _ hx415_1)).trans hx415_1; replace hx415_2 := (HB.out.cell (World.block_lt_of_cell? w _ hx415_2)).trans hx415_2; replace hx415_3 := (HB.out.cell (World.block_lt_of_cell? w _ hx415_3)).trans hx415_3; replace p415 := eq_true p415; replace q415 := eq_true q415; go_wp2_with (first | ((with_reducible refine gate_dst (N := 9) rfl ?_); refine box_event ?hg (N := 9) ?hd (cs := #[.int .i64 0, .int .i64 0, .int .i64 0, .int .u8 0]) (t := 62) ?hr ?_; (case hd => rfl); (case hg => rfl); (case hr => first | (go_simp; done) | (go_simp; rfl)); intro gb416 hg w21 hbox hb; have n0_ := zA.mk (zK (g := gb409) (o := .cells #[.slice A0_0 l0_0.length c0_0, .slice A0_1 l0_1.length c0_1] 31 (0, 0)) (by (with_reducible repeat (first | refine zC ?_ _ | refine zD ?_ | refine zB ?_ _)); exact BK409.out) hb); have n1_ := zA.mk (zM (by repeat (first | (with_reducible first | exact HB.out | apply zI | apply zF | apply zH | refine zE ?_ GE409.out) | exact HB.out)) hb); have n2_ := zA.mk (hbox); have n3_ := zA.mk ((by rw [hg]; exact (zL (by repeat (first | (with_reducible first | exact HB.out | apply zI | apply zF | apply zH | refine zE ?_ GE409.out) | exact HB.out))) : w.heap.size ≤ gb416)); have n4_ := zA.mk ((by rw [hg]; exact (zL (by repeat (first | (with_reducible first | exact HB.out | apply zI | apply zF | apply zH | refine zE ?_ GE409.out) | exact HB.out))) : w.heap.size ≤ gb416)); have n5_ := zA.mk ((by rw [hg]; exact Nat.ne_of_lt (blk_lt (g := gb409) (o := .cells #[.slice A0_0 l0_0.length c0_0, .slice A0_1 l0_1.length c0_1] 31 (0, 0)) (by (with_reducible repeat (first | refine zC ?_ _ | refine zD ?_ | refine zB ?_ _)); exact BK409.out)) : gb409 ≠ gb416)); have n6_ := zA.mk ((by rw [hg]; exact Nat.ne_of_gt (blk_lt (g := gb409) (o := .cells #[.slice A0_0 l0_0.length c0_0, .slice A0_1 l0_1.length c0_1] 31 (0, 0)) (by (with_reducible repeat (first | refine zC ?_ _ | refine zD ?_ | refine zB ?_ _)); exact BK409.out)) : gb416 ≠ gb409)); clear BK409; clear HB; have BK409 := n0_; have HB := n1_; have BK416 := n2_; have GW416 := n3_; have GE416 := n4_; have NB409_416 := n5_; have NB416_409 := n6_; clear n0_ n1_ n2_ n3_ n4_ n5_ n6_; clear hb hbox hg; have hnb22 := NB416_409.out; have hnc22 := NB409_416.out; have hcz23_0 : w21.cell? ⟨gb416, 0, none⟩ = some (.int .i64 0) := (zG BK416.out 0).trans rfl; have hcz23_1 : w21.cell? ⟨gb416, 1, none⟩ = some (.int .i64 0) := (zG BK416.out 1).trans rfl; have hcz23_2 : w21.cell? ⟨gb416, 2, none⟩ = some (.int .i64 0) := (zG BK416.out 2).trans rfl; have hcz23_3 : w21.cell? ⟨gb416, 3, none⟩ = some (.int .u8 0) := (zG BK416.out 3).trans rfl; have hfz23_0 := zJ BK416.out 0; have hfz23_1 := zJ BK416.out 1; have hfz23_2 := zJ BK416.out 2; have hfz23_3 := zJ BK416.out 3) | ((with_reducible refine gate_store (t := 62) (p := 9) rfl ?_); refine store_event (t := 62) (p := 9) (v := ?vo_w24) (w1 := ((((w21.setCell ⟨gb416, 0, none⟩ (.int .i64 ((rd_T62 y411 x19_1).f0))).setCell ⟨gb416, 1, none⟩ (.int .i64 ((rd_T62 y411 x19_1).f1))).setCell ⟨gb416, 2, none⟩ (.int .i64 ((rd_T62 y411 x19_1).f2))).setCell ⟨gb416, 3, none⟩ (.int .u8 ((rd_T62 y411 x19_1).f3)))) ?hg ?ho ?hn ?hr ?_; (case ho => rfl); (case hg => rfl); (case hn => rfl); (case hr => first | (go_simp; done) | (go_simp; rfl)); intro w24 hw; have n0_ : zA (w24.heap[gb409]? = some (.cells #[.slice A0_0 l0_0.length c0_0, .slice A0_1 l0_1.length c0_1] 31 (0, 0))) := ⟨(by rw [hw]; exact (by (with_reducible repeat (first | refine zC ?_ _ | refine zD ?_ | refine zB ?_ _)); refine blk_far ?_ NB409_416.out _; (with_reducible repeat (first | refine zC ?_ _ | refine zD ?_ | refine zB ?_ _)); refine blk_far ?_ NB409_416.out _; (with_reducible repeat (first | refine zC ?_ _ | refine zD ?_ | refine zB ?_ _)); refine blk_far ?_ NB409_416.out _; (with_reducible repeat (first | refine zC ?_ _ | refine zD ?_ | refine zB ?_ _)); refine blk_far ?_ NB409_416.out _; (with_reducible repeat (first | refine zC ?_ _ | refine zD ?_ | refine zB ?_ _)); exact BK409.out))⟩; have n1_ : zA (w24.heap[gb416]? = some (.cells #[.int .i64 ((rd_T62 y411 x19_1).f0), .int .i64 ((rd_T62 y411 x19_1).f1), .int .i64 ((rd_T62 y411 x19_1).f2), .int .u8 ((rd_T62 y411 x19_1).f3)] 62 (0, 0))) := ⟨(by rw [hw]; exact (by (with_reducible repeat (first | refine zC ?_ _ | refine zD ?_ | refine zB ?_ _)); refine blk_put (cs := #[.int .i64 ((rd_T62 y411 x19_1).f0), .int .i64 ((rd_T62 y411 x19_1).f1), .int .i64 ((rd_T62 y411 x19_1).f2), .int .u8 0]) ?_ 3 _ rfl; (with_reducible repeat (first | refine zC ?_ _ | refine zD ?_ | refine zB ?_ _)); refine blk_put (cs := #[.int .i64 ((rd_T62 y411 x19_1).f0), .int .i64 ((rd_T62 y411 x19_1).f1), .int .i64 0, .int .u8 0]) ?_ 2 _ rfl; (with_reducible repeat (first | refine zC ?_ _ | refine zD ?_ | refine zB ?_ _)); refine blk_put (cs := #[.int .i64 ((rd_T62 y411 x19_1).f0), .int .i64 0, .int .i64 0, .int .u8 0]) ?_ 1 _ rfl; (with_reducible repeat (first | refine zC ?_ _ | refine zD ?_ | refine zB ?_ _)); refine blk_put (cs := #[.int .i64 0, .int .i64 0, .int .i64 0, .int .u8 0]) ?_ 0 _ rfl; (with_reducible repeat (first | refine zC ?_ _ | refine zD ?_ | refine zB ?_ _)); exact BK416.out))⟩; have n2_ : zA (Below w.heap.size w w24) := ⟨(by rw [hw]; exact (by repeat (first | (with_reducible first | exact HB.out | apply zI | apply zF | apply zH | refine zE ?_ GE409.out | refine zE ?_ GE416.out) | exact HB.out)))⟩; clear hw; clear BK409; clear BK416; clear HB; have BK409 := n0_; have BK416 := n1_; have HB := n2_; clear n0_ n1_ n2_; have hcz25_0 : w24.cell? ⟨gb416, 0, none⟩ = some (.int .i64 ((rd_T62 y411 x19_1).f0)) := (zG BK416.out 0).trans rfl; have hcz25_1 : w24.cell? ⟨gb416, 1, none⟩ = some (.int .i64 ((rd_T62 y411 x19_1).f1)) := (zG BK416.out 1).trans rfl; have hcz25_2 : w24.cell? ⟨gb416, 2, none⟩ = some (.int .i64 ((rd_T62 y411 x19_1).f2)) := (zG BK416.out 2).trans rfl; have hcz25_3 : w24.cell? ⟨gb416, 3, none⟩ = some (.int .u8 ((rd_T62 y411 x19_1).f3)) := (zG BK416.out 3).trans rfl; have hfz25_0 := zJ BK416.out 0; have hfz25_1 := zJ BK416.out 1; have hfz25_2 := zJ BK416.out 2; have hfz25_3 := zJ BK416.out 3))
    go_roundg k1
    case measure => have := HK1.out; omega
    case rel => exact ⟨(x7_1), (wrap64 (x19_1 + 1)), (by first | rfl | (simp; done) | (simp [*]; done)), (by first | rfl | (simp; done) | (simp [*]; done)), H', ⟨by have := HK1.out; omega⟩, ⟨by (with_reducible repeat (first | refine zC ?_ _ | refine zD ?_ | refine zB ?_ _)); exact BK409.out⟩, ⟨by repeat (first | (with_reducible first | exact HB.out | apply zI | apply zF | apply zH | refine zE ?_ GE409.out | refine zE ?_ GE416.out) | exact HB.out)⟩⟩
end Go.Proofs.Ytlgclhhkgohanaa.F
end
section
namespace Go.Proofs.Ytlgclhhkgohanaa.F
open Go.RowKit Go.Proofs.YtlgclhhkgohanaaW.PrintWords Go.Proofs.YtlgclhhkgohanaaW.PrintLast Go.Proofs.YtlgclhhkgohanaaW.PrintMore
attribute [local go_sem] max2_int min2_int max_two min_two max_three min_three max_four min_four   -- for this text's walks alone
set_option linter.unusedVariables false
set_option linter.unusedSimpArgs false
def best_Cost.j0 : Nat → Int → Int → Bool → Int → Bool → List (S62) → List Int → Int → Int → Int → Int → Int → Nat → Option (Int × Bool)
  | 0, _, _, _, _, _, _, _, _, _, _, _, _, _ => none
  | k + 1, x1, x2, x3, x12, x26, x418000, x418001, x419000, x419001, x419002, x419003, x419004, x419005 => if x26 = true then (some (0, false)) else ((span_Cells.f k x418000 x418001 x1 x2 x12 x419001).bind fun t421 => ((span_Gaps.f k x418000 x418001 x1 x2).bind fun t422 => ((best_price.f k x418000 x418001 x1 x12 t421 t422 x3 x419000 x419001 x419002 x419003 x419004 x419005).bind fun bt423 => (some (bt423.1, bt423.2)))))
def best_Cost.f (k : Nat) (l0_0 : List (S62)) (l0_1 : List Int) (a1 : Int) (a2 : Int) (a3 : Bool) (a4_0 : Int) (a4_1 : Int) (a4_2 : Int) (a4_3 : Int) (a4_4 : Int) (a4_5 : Nat) : Option (Int × Bool) := (span_Ends.f l0_0 l0_1 a2).bind fun bt419 => (if bt419.2 = true then (best_Cost.j0 k a1 a2 a3 bt419.1 (decide (a2 ≤ a1)) l0_0 l0_1 a4_0 a4_1 a4_2 a4_3 a4_4 a4_5) else (best_Cost.j0 k a1 a2 a3 bt419.1 true l0_0 l0_1 a4_0 a4_1 a4_2 a4_3 a4_4 a4_5))
theorem best_Cost.mono_l : ∀ k, (∀ y0 y1 y2 y3 y4 y5 y6 y7 y8 y9 y10 y11 y12, LeO (best_Cost.j0 k y0 y1 y2 y3 y4 y5 y6 y7 y8 y9 y10 y11 y12) (best_Cost.j0 (k + 1) y0 y1 y2 y3 y4 y5 y6 y7 y8 y9 y10 y11 y12))
  | 0 => fun _ _ _ _ _ _ _ _ _ _ _ _ _ r h => by simp [best_Cost.j0] at h
  | k + 1 => by
    have ih0 := best_Cost.mono_l k
    · intro y0 y1 y2 y3 y4 y5 y6 y7 y8 y9 y10 y11 y12
      unfold best_Cost.j0
      repeat' first
      | (with_reducible exact ih0 _ _ _ _ _ _ _ _ _ _ _ _ _)
      | (with_reducible exact best_price.mono _ _ _ _ _ _ _ _ _ _ _ _ _ _)
      | (with_reducible exact span_Cells.mono _ _ _ _ _ _ _)
      | (with_reducible exact span_Gaps.mono _ _ _ _ _)
      | (with_reducible exact LeO.refl _)
      | (with_reducible exact LeO.none _)
      | (with_reducible refine LeO.ite ?_ ?_)
      | (with_reducible refine LeO.bind ?_ (fun _ => ?_))
      | exact ih0 _ _ _ _ _ _ _ _ _ _ _ _ _
      | exact best_price.mono _ _ _ _ _ _ _ _ _ _ _ _ _ _
      | exact span_Cells.mono _ _ _ _ _ _ _
      | exact span_Gaps.mono _ _ _ _ _
      | exact LeO.none _
      | refine LeO.ite ?_ ?_
      | refine LeO.bind ?_ (fun _ => ?_)
theorem best_Cost.mono : ∀ a0 a1 a2 a3 a4 a5 a6 a7 a8 a9 a10 k, LeO (best_Cost.f k a0 a1 a2 a3 a4 a5 a6 a7 a8 a9 a10) (best_Cost.f (k + 1) a0 a1 a2 a3 a4 a5 a6 a7 a8 a9 a10) := by
  intro a0 a1 a2 a3 a4 a5 a6 a7 a8 a9 a10 k
  have ih0 := best_Cost.mono_l k; unfold best_Cost.f
  repeat' first
      | (with_reducible exact ih0 _ _ _ _ _ _ _ _ _ _ _ _ _)
      | (with_reducible exact best_price.mono _ _ _ _ _ _ _ _ _ _ _ _ _ _)
      | (with_reducible exact span_Cells.mono _ _ _ _ _ _ _)
      | (with_reducible exact span_Gaps.mono _ _ _ _ _)
      | (with_reducible exact LeO.refl _)
      | (with_reducible exact LeO.none _)
      | (with_reducible refine LeO.ite ?_ ?_)
      | (with_reducible refine LeO.bind ?_ (fun _ => ?_))
      | exact ih0 _ _ _ _ _ _ _ _ _ _ _ _ _
      | exact best_price.mono _ _ _ _ _ _ _ _ _ _ _ _ _ _
      | exact span_Cells.mono _ _ _ _ _ _ _
      | exact span_Gaps.mono _ _ _ _ _
      | exact LeO.none _
      | refine LeO.ite ?_ ?_
      | refine LeO.bind ?_ (fun _ => ?_)
def best_Cost.T4 : Bool × List (List Nat × List Nat) := (true, [([], []), ([], []), ([], []), ([], []), ([], []), ([], []), ([], []), ([], []), ([7], [7]), ([3, 4, 5, 6, 8], [3, 4, 5, 6, 8]), ([], []), ([], []), ([], []), ([10, 11, 12, 9], [10, 11, 12]), ([], []), ([], []), ([0, 1, 2, 9, 13, 14, 15, 13], [0, 1, 2, 9, 13, 14, 15]), ([16], [16]), ([16], [16]), ([17, 16, 0, 1, 2, 3, 4, 5, 6, 7, 8, 9, 10, 11, 12, 13, 14, 15, 16, 17, 18], [17]), ([18, 19, 0, 1, 2, 3, 4, 5, 6, 7, 8, 9, 10, 11, 12, 13, 14, 15, 16, 17, 18, 19], [18])])
def best_Cost.B4 : List Nat := [0, 0, 0, 0, 0, 0, 0, 0, 128, 504, 0, 0, 0, 8184, 0, 0, 65535, 131071, 131071, 524287, 1048575]
theorem best_Cost.tab4 : rtab .any (opsOf Try.f19 4) = best_Cost.T4 := by kernel_rfl
theorem best_Cost.bits4 : waitsOk best_Cost.T4.2 best_Cost.B4 = true := by kernel_rfl
set_option maxHeartbeats 8000000 in
set_option maxRecDepth 100000 in
theorem best_Cost.calls (k : Nat) (A0_0 : Option Addr) (c0_0 : Nat) (l0_0 : List (S62)) (A0_1 : Option Addr) (c0_1 : Nat) (l0_1 : List Int) (a1 : Int) (a2 : Int) (a3 : Bool) (a4_0 : Int) (a4_1 : Int) (a4_2 : Int) (a4_3 : Int) (a4_4 : Int) (a4_5 : Nat) (r1 : Int) (r2 : Bool) (w : World) (hr0_0 : Kd.C k62 w A0_0 l0_0.length l0_0) (hc0_0 : l0_0.length ≤ c0_0) (hr0_1 : Kd.C (Kd.int .u8) w A0_1 l0_1.length l0_1) (hc0_1 : l0_1.length ≤ c0_1) (h : best_Cost.f k l0_0 l0_1 a1 a2 a3 a4_0 a4_1 a4_2 a4_3 a4_4 a4_5 = some (r1, r2)) :
    Calls Try.prog 19 #[.agg #[.slice A0_0 l0_0.length c0_0, .slice A0_1 l0_1.length c0_1], .int .i64 a1, .int .i64 a2, .bool a3, .agg #[.int .i64 a4_0, .int .i64 a4_1, .int .u8 a4_2, .int .i64 a4_3, .int .i64 a4_4, .float .f64 a4_5]] w fun e w' => e = .returned (.tuple #[.int .i64 r1, .bool r2]) ∧ Below w.heap.size w w' := by
  have hu31 := Try.underlying31; have hu35 := Try.underlying35; have HR0_0 := zA.mk hr0_0; have HC0_0 := zA.mk hc0_0; clear hr0_0 hc0_0; have HR0_1 := zA.mk hr0_1; have HC0_1 := zA.mk hc0_1; clear hr0_1 hc0_1; have HB := zA.mk (Below.refl w.heap.size w); have H : ((span_Ends.f l0_0 l0_1 a2).bind fun bt419 => (if bt419.2 = true then (best_Cost.j0 k a1 a2 a3 bt419.1 (decide (a2 ≤ a1)) l0_0 l0_1 a4_0 a4_1 a4_2 a4_3 a4_4 a4_5) else (best_Cost.j0 k a1 a2 a3 bt419.1 true l0_0 l0_1 a4_0 a4_1 a4_2 a4_3 a4_4 a4_5))) = some (r1, r2) := h
  clear h; replace H := Option.bind_eq_some_iff.mp H; obtain ⟨⟨t419, t420⟩, A60, H⟩ := H; replace H : (if t420 = true then (best_Cost.j0 k a1 a2 a3 t419 (decide (a2 ≤ a1)) l0_0 l0_1 a4_0 a4_1 a4_2 a4_3 a4_4 a4_5) else (best_Cost.j0 k a1 a2 a3 t419 true l0_0 l0_1 a4_0 a4_1 a4_2 a4_3 a4_4 a4_5)) = some (r1, r2) := H; have A6 := zA.mk A60; clear A60; have HC7 := zA.mk H; clear H; go_enter Try.func19, Try.ntmps19
  go_upto_region 2 with (first | ((with_reducible refine gate_dst (N := 5) rfl ?_); refine box_event ?hg (N := 5) ?hd (cs := #[.slice A0_0 l0_0.length c0_0, .slice A0_1 l0_1.length c0_1]) (t := 31) ?hr ?_; (case hd => rfl); (case hg => rfl); (case hr => first | (go_simp; done) | (go_simp; rfl)); intro gb417 hg w8 hbox hb; have n0_ := zA.mk (zM (by repeat (first | (with_reducible first | exact HB.out | apply zI | apply zF | apply zH) | exact HB.out)) hb); have n1_ := zA.mk (hbox); have n2_ := zA.mk ((by rw [hg]; exact (zL (by repeat (first | (with_reducible first | exact HB.out | apply zI | apply zF | apply zH) | exact HB.out))) : w.heap.size ≤ gb417)); have n3_ := zA.mk ((by rw [hg]; exact (zL (by repeat (first | (with_reducible first | exact HB.out | apply zI | apply zF | apply zH) | exact HB.out))) : w.heap.size ≤ gb417)); clear HB; have HB := n0_; have BK417 := n1_; have GW417 := n2_; have GE417 := n3_; clear n0_ n1_ n2_ n3_; clear hb hbox hg) | ((with_reducible refine gate_dst (N := 9) rfl ?_); refine box_event ?hg (N := 9) ?hd (cs := #[.int .i64 a4_0, .int .i64 a4_1, .int .u8 a4_2, .int .i64 a4_3, .int .i64 a4_4, .float .f64 a4_5]) (t := 35) ?hr ?_; (case hd => rfl); (case hg => rfl); (case hr => first | (go_simp; done) | (go_simp; rfl)); intro gb418 hg w9 hbox hb; have n0_ := zA.mk (zK (g := gb417) (o := .cells #[.slice A0_0 l0_0.length c0_0, .slice A0_1 l0_1.length c0_1] 31 (0, 0)) (by (with_reducible repeat (first | refine zC ?_ _ | refine zD ?_ | refine zB ?_ _)); exact BK417.out) hb); have n1_ := zA.mk (zM (by repeat (first | (with_reducible first | exact HB.out | apply zI | apply zF | apply zH | refine zE ?_ GE417.out) | exact HB.out)) hb); have n2_ := zA.mk (hbox); have n3_ := zA.mk ((by rw [hg]; exact (zL (by repeat (first | (with_reducible first | exact HB.out | apply zI | apply zF | apply zH | refine zE ?_ GE417.out) | exact HB.out))) : w.heap.size ≤ gb418)); have n4_ := zA.mk ((by rw [hg]; exact (zL (by repeat (first | (with_reducible first | exact HB.out | apply zI | apply zF | apply zH | refine zE ?_ GE417.out) | exact HB.out))) : w.heap.size ≤ gb418)); have n5_ := zA.mk ((by rw [hg]; exact Nat.ne_of_lt (blk_lt (g := gb417) (o := .cells #[.slice A0_0 l0_0.length c0_0, .slice A0_1 l0_1.length c0_1] 31 (0, 0)) (by (with_reducible repeat (first | refine zC ?_ _ | refine zD ?_ | refine zB ?_ _)); exact BK417.out)) : gb417 ≠ gb418)); have n6_ := zA.mk ((by rw [hg]; exact Nat.ne_of_gt (blk_lt (g := gb417) (o := .cells #[.slice A0_0 l0_0.length c0_0, .slice A0_1 l0_1.length c0_1] 31 (0, 0)) (by (with_reducible repeat (first | refine zC ?_ _ | refine zD ?_ | refine zB ?_ _)); exact BK417.out)) : gb418 ≠ gb417)); clear BK417; clear HB; have BK417 := n0_; have HB := n1_; have BK418 := n2_; have GW418 := n3_; have GE418 := n4_; have NB417_418 := n5_; have NB418_417 := n6_; clear n0_ n1_ n2_ n3_ n4_ n5_ n6_; clear hb hbox hg; have hnb10 := NB417_418.out; have hnc10 := NB418_417.out; have hcz11_0 : w9.cell? ⟨gb417, 0, none⟩ = some (.slice A0_0 l0_0.length c0_0) := (zG BK417.out 0).trans rfl; have hcz11_1 : w9.cell? ⟨gb417, 1, none⟩ = some (.slice A0_1 l0_1.length c0_1) := (zG BK417.out 1).trans rfl; have hfz11_0 := zJ BK417.out 0; have hfz11_1 := zJ BK417.out 1) | ((with_reducible refine gate_callee (f := 30) rfl ?_); refine goesL_ (some 17) rfl rfl Try.func30 (by kernel_rfl) rfl #[.agg #[.slice A0_0 l0_0.length c0_0, .slice A0_1 l0_1.length c0_1], .int .i64 a2] rfl (by (try simp only [List.map_toArray, List.map_cons, List.map_nil]); first | done | rfl | (simp only [List.length_drop, List.length_take]; rfl)) ?_; (with_reducible refine (span_Ends.calls _ _ l0_0 _ _ l0_1 a2 t419 t420 _ ?side1 ?side2 ?side3 ?side4 A6.out).mono ?_); (case side1 => repeat (first | exact (Kd.C_below HR0_0.out HB.out) | (with_reducible refine Kd.C_alloc ?_ _) | (with_reducible refine Kd.C_drewN ?_ _) | (with_reducible refine Kd.C_drew ?_))); (case side2 => exact HC0_0.out); (case side3 => repeat (first | exact (Kd.C_below HR0_1.out HB.out) | (with_reducible refine Kd.C_alloc ?_ _) | (with_reducible refine Kd.C_drewN ?_ _) | (with_reducible refine Kd.C_drew ?_))); (case side4 => exact HC0_1.out); rintro e w12 ⟨rfl, hb⟩; refine ⟨_, rfl, ?_⟩; have n0_ := zA.mk (zK (g := gb417) (o := .cells #[.slice A0_0 l0_0.length c0_0, .slice A0_1 l0_1.length c0_1] 31 (0, 0)) (by (with_reducible repeat (first | refine zC ?_ _ | refine zD ?_ | refine zB ?_ _)); exact BK417.out) hb); have n1_ := zA.mk (zK (g := gb418) (o := .cells #[.int .i64 a4_0, .int .i64 a4_1, .int .u8 a4_2, .int .i64 a4_3, .int .i64 a4_4, .float .f64 a4_5] 35 (0, 0)) (by (with_reducible repeat (first | refine zC ?_ _ | refine zD ?_ | refine zB ?_ _)); exact BK418.out) hb); have n2_ := zA.mk (zM (by repeat (first | (with_reducible first | exact HB.out | apply zI | apply zF | apply zH | refine zE ?_ GE417.out | refine zE ?_ GE418.out) | exact HB.out)) hb); clear BK417; clear BK418; clear HB; have BK417 := n0_; have BK418 := n1_; have HB := n2_; clear n0_ n1_ n2_; (try clear hb); (try clear hb2); (try clear hk); (try clear hi)))
  (try simp only [Act.put, sA_, sB_, sC_])
  go_cut [26] (fun v26 wc => ∃ (kq : Nat) (x26_6 : Bool), v26 = .bool x26_6 ∧ zA (best_Cost.j0 kq a1 a2 a3 t419 x26_6 l0_0 l0_1 a4_0 a4_1 a4_2 a4_3 a4_4 a4_5 = some (r1, r2)) ∧ zA (kq ≤ k) ∧ zA (wc.heap[gb417]? = some (.cells #[(.slice A0_0 l0_0.length c0_0), (.slice A0_1 l0_1.length c0_1)] 31 (0, 0))) ∧ zA (wc.heap[gb418]? = some (.cells #[.int .i64 a4_0, .int .i64 a4_1, .int .u8 a4_2, .int .i64 a4_3, .int .i64 a4_4, .float .f64 a4_5] 35 (0, 0))) ∧ zA (Below w.heap.size w wc))
  case first =>
    have H := HC7.out; clear HC7; by_cases c13 : t420 = true
    · subst c13
      have H1 : (best_Cost.j0 k a1 a2 a3 t419 (decide (a2 ≤ a1)) l0_0 l0_1 a4_0 a4_1 a4_2 a4_3 a4_4 a4_5) = some (r1, r2) := by rw [if_pos rfl] at H; exact H
      clear H; have H := H1; clear H1; have H' := zA.mk H
      clear H; go_wp2
      go_meet
      case rel => exact ⟨_, (decide (a2 ≤ a1)), (by first | rfl | (simp; done) | (simp [*]; done)), H', ⟨by first | omega | exact Nat.le_refl _⟩, ⟨by (with_reducible repeat (first | refine zC ?_ _ | refine zD ?_ | refine zB ?_ _)); exact BK417.out⟩, ⟨by (with_reducible repeat (first | refine zC ?_ _ | refine zD ?_ | refine zB ?_ _)); exact BK418.out⟩, ⟨by repeat (first | (with_reducible first | exact HB.out | apply zI | apply zF | apply zH | refine zE ?_ GE417.out | refine zE ?_ GE418.out) | exact HB.out)⟩⟩
    replace c13 := Bool.eq_false_iff.mpr c13; subst c13; have H1 : (best_Cost.j0 k a1 a2 a3 t419 true l0_0 l0_1 a4_0 a4_1 a4_2 a4_3 a4_4 a4_5) = some (r1, r2) := by rw [if_neg (show ¬ (false = true) by decide)] at H; exact H
    clear H; have H := H1; clear H1; have H' := zA.mk H
    clear H; go_wp2
    go_meet
    case rel => exact ⟨_, (true), (by first | rfl | (simp; done) | (simp [*]; done)), H', ⟨by first | omega | exact Nat.le_refl _⟩, ⟨by (with_reducible repeat (first | refine zC ?_ _ | refine zD ?_ | refine zB ?_ _)); exact BK417.out⟩, ⟨by (with_reducible repeat (first | refine zC ?_ _ | refine zD ?_ | refine zB ?_ _)); exact BK418.out⟩, ⟨by repeat (first | (with_reducible first | exact HB.out | apply zI | apply zF | apply zH | refine zE ?_ GE417.out | refine zE ?_ GE418.out) | exact HB.out)⟩⟩
  clear HC7; try clear c1
  try clear p2
  try clear c3
  try clear c10
  try clear c13
  try clear hcz11_0
  try clear hcz11_1
  try clear hfz11_0
  try clear hfz11_1
  obtain ⟨kq, x26_6, rfl, HA, HJ6, BK417, BK418, HB⟩ := hcut; cases kq with
  | zero => exact absurd HA.out (by simp [best_Cost.j0])
  | succ kj6 =>
    have H := HA.out; clear HA; simp only [best_Cost.j0] at H; by_cases c14 : x26_6 = true
    · subst c14
      have H1 : (some (0, false)) = some (r1, r2) := by rw [if_pos rfl] at H; exact H
      clear H; have H := H1; clear H1; simp only [Option.some.injEq, Prod.mk.injEq] at H; obtain ⟨rfl, rfl⟩ := H; go_wp2
      go_ret2
      exact ⟨by first | rfl | (simp [errW_none, errW_some] <;> rfl) | (simp [*, errW_none, errW_some] <;> rfl), by repeat (first | (with_reducible first | exact HB.out | apply zI | apply zF | apply zH | refine zE ?_ GE417.out | refine zE ?_ GE418.out) | exact HB.out)⟩
    replace c14 := Bool.eq_false_iff.mpr c14; subst c14; have H1 : ((span_Cells.f kj6 l0_0 l0_1 a1 a2 t419 a4_1).bind fun t421 => ((span_Gaps.f kj6 l0_0 l0_1 a1 a2).bind fun t422 => ((best_price.f kj6 l0_0 l0_1 a1 t419 t421 t422 a3 a4_0 a4_1 a4_2 a4_3 a4_4 a4_5).bind fun bt423 => (some (bt423.1, bt423.2))))) = some (r1, r2) := by rw [if_neg (show ¬ (false = true) by decide)] at H; exact H
    clear H; have H := H1; clear H1; replace H := Option.bind_eq_some_iff.mp H; obtain ⟨t421, A150, H⟩ := H; replace H : ((span_Gaps.f kj6 l0_0 l0_1 a1 a2).bind fun t422 => ((best_price.f kj6 l0_0 l0_1 a1 t419 t421 t422 a3 a4_0 a4_1 a4_2 a4_3 a4_4 a4_5).bind fun bt423 => (some (bt423.1, bt423.2)))) = some (r1, r2) := H
    have A15 := zA.mk A150; clear A150; replace H := Option.bind_eq_some_iff.mp H; obtain ⟨t422, A160, H⟩ := H; replace H : ((best_price.f kj6 l0_0 l0_1 a1 t419 t421 t422 a3 a4_0 a4_1 a4_2 a4_3 a4_4 a4_5).bind fun bt423 => (some (bt423.1, bt423.2))) = some (r1, r2) := H
    have A16 := zA.mk A160; clear A160; replace H := Option.bind_eq_some_iff.mp H; obtain ⟨⟨t423, t424⟩, A170, H⟩ := H; replace H : (some (t423, t424)) = some (r1, r2) := H; have A17 := zA.mk A170; clear A170; simp only [Option.some.injEq, Prod.mk.injEq] at H; obtain ⟨rfl, rfl⟩ := H; try go_wp2
    have n0_ := zA.mk (zD BK417.out); have n1_ := zA.mk (zD BK418.out); have n2_ := zA.mk (zH HB.out); clear BK417; clear BK418; clear HB; have BK417 := n0_; have BK418 := n1_; have HB := n2_; clear n0_ n1_ n2_; refine start_ (n := 21) (S := fun w' => w'.cell? ⟨gb417, 0, none⟩ = some (.slice A0_0 l0_0.length c0_0) ∧ w'.cell? ⟨gb417, 1, none⟩ = some (.slice A0_1 l0_1.length c0_1) ∧ w'.cell? ⟨gb418, 0, none⟩ = some (.int .i64 a4_0) ∧ w'.cell? ⟨gb418, 1, none⟩ = some (.int .i64 a4_1) ∧ w'.cell? ⟨gb418, 2, none⟩ = some (.int .u8 a4_2) ∧ w'.cell? ⟨gb418, 3, none⟩ = some (.int .i64 a4_3) ∧ w'.cell? ⟨gb418, 4, none⟩ = some (.int .i64 a4_4) ∧ w'.cell? ⟨gb418, 5, none⟩ = some (.float .f64 a4_5)) (ds := []) #[false, false, false, false, false, false, false, false, false, false, false, false, false, false, false, false, false, false, false, false, false] (by kernel_rfl) rfl rfl ⟨(zG BK417.out 0).trans rfl, (zG BK417.out 1).trans rfl, (zG BK418.out 0).trans rfl, (zG BK418.out 1).trans rfl, (zG BK418.out 2).trans rfl, (zG BK418.out 3).trans rfl, (zG BK418.out 4).trans rfl, (zG BK418.out 5).trans rfl⟩ (fun hHeld => ?_); refine with_tabW best_Cost.tab4 best_Cost.bits4 (fun HT_ HW_ => ?_)
    generalize wc.drew = w18 at BK417 BK418 HB hHeld ⊢
    refine pure_ (i := 1) (N := some 28) (v := ?_) (a' := ?_) #[false, true, false, false, false, false, false, false, false, false, false, false, false, false, false, false, false, false, false, false, false] rfl rfl (any_of HT_.out (by kernel_rfl)) (fun _ _ _ h => h) (Or.inl ⟨by rfl, ?_⟩) ?_ ?_
    rotate_left
    · intro w'
      go_simp
      with_reducible rfl
    rotate_left
    · simp only [Act.put, sA_, sB_, sC_, i64_w, i32_w]
      rfl
    refine pure_ (i := 2) (N := some 29) (v := ?_) (a' := ?_) #[false, true, true, false, false, false, false, false, false, false, false, false, false, false, false, false, false, false, false, false, false] rfl rfl (any_of HT_.out (by kernel_rfl)) (fun _ _ _ h => h) (Or.inl ⟨by rfl, ?_⟩) ?_ ?_
    rotate_left
    · intro w'
      go_simp
      with_reducible rfl
    rotate_left
    · simp only [Act.put, sA_, sB_, sC_, i64_w, i32_w]
      rfl
    refine pure_ (i := 4) (N := some 31) (v := ?_) (a' := ?_) #[false, true, true, false, true, false, false, false, false, false, false, false, false, false, false, false, false, false, false, false, false] rfl rfl (any_of HT_.out (by kernel_rfl)) (fun _ _ _ h => h) (Or.inl ⟨by rfl, ?_⟩) ?_ ?_
    rotate_left
    · intro w'
      go_simp
      with_reducible rfl
    rotate_left
    · simp only [Act.put, sA_, sB_, sC_, i64_w, i32_w]
      rfl
    refine pure_ (i := 5) (N := some 32) (v := ?_) (a' := ?_) #[false, true, true, false, true, true, false, false, false, false, false, false, false, false, false, false, false, false, false, false, false] rfl rfl (any_of HT_.out (by kernel_rfl)) (fun _ _ _ h => h) (Or.inl ⟨by rfl, ?_⟩) ?_ ?_
    rotate_left
    · intro w'
      go_simp
      with_reducible rfl
    rotate_left
    · simp only [Act.put, sA_, sB_, sC_, i64_w, i32_w]
      rfl
    refine pure_ (i := 6) (N := some 33) (v := ?_) (a' := ?_) #[false, true, true, false, true, true, true, false, false, false, false, false, false, false, false, false, false, false, false, false, false] rfl rfl (any_of HT_.out (by kernel_rfl)) (fun _ _ _ h => h) (Or.inl ⟨by rfl, ?_⟩) ?_ ?_
    rotate_left
    · intro w'
      go_simp
      with_reducible rfl
    rotate_left
    · simp only [Act.put, sA_, sB_, sC_, i64_w, i32_w]
      rfl
    refine pure_ (i := 7) (N := some 34) (v := ?_) (a' := ?_) #[false, true, true, false, true, true, true, true, false, false, false, false, false, false, false, false, false, false, false, false, false] rfl rfl (any_of HT_.out (by kernel_rfl)) (fun _ _ _ h => h) (Or.inl ⟨by rfl, ?_⟩) ?_ ?_
    rotate_left
    · intro w'
      go_simp
      with_reducible rfl
    rotate_left
    · simp only [Act.put, sA_, sB_, sC_, i64_w, i32_w]
      rfl
    refine pure_ (i := 11) (N := some 38) (v := ?_) (a' := ?_) #[false, true, true, false, true, true, true, true, false, false, false, true, false, false, false, false, false, false, false, false, false] rfl rfl (any_of HT_.out (by kernel_rfl)) (fun _ _ _ h => h) (Or.inl ⟨by rfl, ?_⟩) ?_ ?_
    rotate_left
    · intro w'
      go_simp
      with_reducible rfl
    rotate_left
    · simp only [Act.put, sA_, sB_, sC_, i64_w, i32_w]
      rfl
    refine pure_ (i := 12) (N := some 39) (v := ?_) (a' := ?_) #[false, true, true, false, true, true, true, true, false, false, false, true, true, false, false, false, false, false, false, false, false] rfl rfl (any_of HT_.out (by kernel_rfl)) (fun _ _ _ h => h) (Or.inl ⟨by rfl, ?_⟩) ?_ ?_
    rotate_left
    · intro w'
      go_simp
      with_reducible rfl
    rotate_left
    · simp only [Act.put, sA_, sB_, sC_, i64_w, i32_w]
      rfl
    refine pure_ (i := 14) (N := some 41) (v := ?_) (a' := ?_) #[false, true, true, false, true, true, true, true, false, false, false, true, true, false, true, false, false, false, false, false, false] rfl rfl (any_of HT_.out (by kernel_rfl)) (fun _ _ _ h => h) (Or.inl ⟨by rfl, ?_⟩) ?_ ?_
    rotate_left
    · intro w'
      go_simp
      with_reducible rfl
    rotate_left
    · simp only [Act.put, sA_, sB_, sC_, i64_w, i32_w]
      rfl
    refine take_ (i := 0) (N := some 27) (v := ?_) (a' := ?_) #[true, true, true, false, true, true, true, true, false, false, false, true, true, false, true, false, false, false, false, false, false] rfl rfl (take_ofW HT_.out HW_.out (by kernel_rfl)) (fun _ _ _ h => h) (Or.inl ⟨by rfl, ?_⟩) hHeld ?_ ?_
    rotate_left
    · rintro w' ⟨s0, s1, s2, s3, s4, s5, s6, s7⟩
      go_simp
      with_reducible rfl
    rotate_left
    · simp only [Act.put, sA_, sB_, sC_, i64_w, i32_w]
      rfl
    refine take_ (i := 3) (N := some 30) (v := ?_) (a' := ?_) #[true, true, true, true, true, true, true, true, false, false, false, true, true, false, true, false, false, false, false, false, false] rfl rfl (take_ofW HT_.out HW_.out (by kernel_rfl)) (fun _ _ _ h => h) (Or.inl ⟨by rfl, ?_⟩) hHeld ?_ ?_
    rotate_left
    · rintro w' ⟨s0, s1, s2, s3, s4, s5, s6, s7⟩
      go_simp
      with_reducible rfl
    rotate_left
    · simp only [Act.put, sA_, sB_, sC_, i64_w, i32_w]
      rfl
    refine take_ (i := 8) (N := some 35) (v := ?_) (a' := ?_) #[true, true, true, true, true, true, true, true, true, false, false, true, true, false, true, false, false, false, false, false, false] rfl rfl (take_ofW HT_.out HW_.out (by kernel_rfl)) (fun _ _ _ h => h) (Or.inl ⟨by rfl, ?_⟩) hHeld ?_ ?_
    rotate_left
    · rintro w' ⟨s0, s1, s2, s3, s4, s5, s6, s7⟩
      go_simp
      with_reducible rfl
    rotate_left
    · simp only [Act.put, sA_, sB_, sC_, i64_w, i32_w]
      rfl
    refine take_ (i := 10) (N := some 37) (v := ?_) (a' := ?_) #[true, true, true, true, true, true, true, true, true, false, true, true, true, false, true, false, false, false, false, false, false] rfl rfl (take_ofW HT_.out HW_.out (by kernel_rfl)) (fun _ _ _ h => h) (Or.inl ⟨by rfl, ?_⟩) hHeld ?_ ?_
    rotate_left
    · rintro w' ⟨s0, s1, s2, s3, s4, s5, s6, s7⟩
      go_simp
      with_reducible rfl
    rotate_left
    · simp only [Act.put, sA_, sB_, sC_, i64_w, i32_w]
      rfl
    refine take_ (i := 15) (N := some 42) (v := ?_) (a' := ?_) #[true, true, true, true, true, true, true, true, true, false, true, true, true, false, true, true, false, false, false, false, false] rfl rfl (take_ofW HT_.out HW_.out (by kernel_rfl)) (fun _ _ _ h => h) (Or.inl ⟨by rfl, ?_⟩) hHeld ?_ ?_
    rotate_left
    · rintro w' ⟨s0, s1, s2, s3, s4, s5, s6, s7⟩
      go_simp
      with_reducible rfl
    rotate_left
    · simp only [Act.put, sA_, sB_, sC_, i64_w, i32_w]
      rfl
    refine one_ (i := 9) (N := some 36) #[true, true, true, true, true, true, true, true, true, true, true, true, true, false, true, true, false, false, false, false, false] rfl rfl (one_of HT_.out (by kernel_rfl)) (by decide) (fun K hK => ?_)
    refine goes_ Try.func32 (by kernel_rfl) rfl #[.agg #[.slice A0_0 l0_0.length c0_0, .slice A0_1 l0_1.length c0_1], .int .i64 a1, .int .i64 a2, .int .u8 t419, .int .i64 a4_1] (by rfl) rfl rfl (by (try simp only [List.map_toArray, List.map_cons, List.map_nil]); first | done | rfl | (simp only [List.length_drop, List.length_take]; rfl)) ?_
    with_reducible refine (span_Cells.calls kj6 _ _ l0_0 _ _ l0_1 a1 a2 t419 a4_1 t421 _ ?side1 ?side2 ?side3 ?side4 A15.out).mono ?_
    (case side1 => repeat (first | exact (Kd.C_below HR0_0.out HB.out) | (with_reducible refine Kd.C_alloc ?_ _) | (with_reducible refine Kd.C_drewN ?_ _) | (with_reducible refine Kd.C_drew ?_)))
    (case side2 => exact HC0_0.out)
    (case side3 => repeat (first | exact (Kd.C_below HR0_1.out HB.out) | (with_reducible refine Kd.C_alloc ?_ _) | (with_reducible refine Kd.C_drewN ?_ _) | (with_reducible refine Kd.C_drew ?_)))
    (case side4 => exact HC0_1.out)
    rintro e w19 ⟨rfl, hb⟩
    refine ⟨_, rfl, ?_⟩
    have n0_ := zA.mk (zK (g := gb417) (o := .cells #[.slice A0_0 l0_0.length c0_0, .slice A0_1 l0_1.length c0_1] 31 (0, 0)) (by (with_reducible repeat (first | refine zC ?_ _ | refine zD ?_ | refine zB ?_ _)); exact BK417.out) hb)
    have n1_ := zA.mk (zK (g := gb418) (o := .cells #[.int .i64 a4_0, .int .i64 a4_1, .int .u8 a4_2, .int .i64 a4_3, .int .i64 a4_4, .float .f64 a4_5] 35 (0, 0)) (by (with_reducible repeat (first | refine zC ?_ _ | refine zD ?_ | refine zB ?_ _)); exact BK418.out) hb)
    have n2_ := zA.mk (zM (by repeat (first | (with_reducible first | exact HB.out | apply zI | apply zF | apply zH | refine zE ?_ GE417.out | refine zE ?_ GE418.out) | exact HB.out)) hb)
    clear BK417 BK418 HB; have BK417 := n0_; have BK418 := n1_; have HB := n2_; clear n0_ n1_ n2_; (try clear hb)
    (try clear hb2)
    (try clear hk)
    (try clear hi)
    refine hK.out _ _ ⟨(zG BK417.out 0).trans rfl, (zG BK417.out 1).trans rfl, (zG BK418.out 0).trans rfl, (zG BK418.out 1).trans rfl, (zG BK418.out 2).trans rfl, (zG BK418.out 3).trans rfl, (zG BK418.out 4).trans rfl, (zG BK418.out 5).trans rfl⟩ (fun hHeld => ?_)
    clear hK K; refine norm_ (a' := ?_) ?_ ?_
    rotate_left
    · show Act.put _ (some 36) _ = _
      simp only [Act.put, sA_, sB_, sC_, i64_w, i32_w]; rfl
    refine one_ (i := 13) (N := some 40) #[true, true, true, true, true, true, true, true, true, true, true, true, true, true, true, true, false, false, false, false, false] rfl rfl (one_of HT_.out (by kernel_rfl)) (by decide) (fun K hK => ?_)
    refine goes_ Try.func33 (by kernel_rfl) rfl #[.agg #[.slice A0_0 l0_0.length c0_0, .slice A0_1 l0_1.length c0_1], .int .i64 a1, .int .i64 a2] (by rfl) rfl rfl (by (try simp only [List.map_toArray, List.map_cons, List.map_nil]); first | done | rfl | (simp only [List.length_drop, List.length_take]; rfl)) ?_
    with_reducible refine (span_Gaps.calls kj6 _ _ l0_0 _ _ l0_1 a1 a2 t422 _ ?side1 ?side2 ?side3 ?side4 A16.out).mono ?_
    (case side1 => repeat (first | exact (Kd.C_below HR0_0.out HB.out) | (with_reducible refine Kd.C_alloc ?_ _) | (with_reducible refine Kd.C_drewN ?_ _) | (with_reducible refine Kd.C_drew ?_)))
    (case side2 => exact HC0_0.out)
    (case side3 => repeat (first | exact (Kd.C_below HR0_1.out HB.out) | (with_reducible refine Kd.C_alloc ?_ _) | (with_reducible refine Kd.C_drewN ?_ _) | (with_reducible refine Kd.C_drew ?_)))
    (case side4 => exact HC0_1.out)
    rintro e w20 ⟨rfl, hb⟩
    refine ⟨_, rfl, ?_⟩
    have n0_ := zA.mk (zK (g := gb417) (o := .cells #[.slice A0_0 l0_0.length c0_0, .slice A0_1 l0_1.length c0_1] 31 (0, 0)) (by (with_reducible repeat (first | refine zC ?_ _ | refine zD ?_ | refine zB ?_ _)); exact BK417.out) hb)
    have n1_ := zA.mk (zK (g := gb418) (o := .cells #[.int .i64 a4_0, .int .i64 a4_1, .int .u8 a4_2, .int .i64 a4_3, .int .i64 a4_4, .float .f64 a4_5] 35 (0, 0)) (by (with_reducible repeat (first | refine zC ?_ _ | refine zD ?_ | refine zB ?_ _)); exact BK418.out) hb)
    have n2_ := zA.mk (zM (by repeat (first | (with_reducible first | exact HB.out | apply zI | apply zF | apply zH | refine zE ?_ GE417.out | refine zE ?_ GE418.out) | exact HB.out)) hb)
    clear BK417 BK418 HB; have BK417 := n0_; have BK418 := n1_; have HB := n2_; clear n0_ n1_ n2_; (try clear hb)
    (try clear hb2)
    (try clear hk)
    (try clear hi)
    refine hK.out _ _ ⟨(zG BK417.out 0).trans rfl, (zG BK417.out 1).trans rfl, (zG BK418.out 0).trans rfl, (zG BK418.out 1).trans rfl, (zG BK418.out 2).trans rfl, (zG BK418.out 3).trans rfl, (zG BK418.out 4).trans rfl, (zG BK418.out 5).trans rfl⟩ (fun hHeld => ?_)
    clear hK K; refine norm_ (a' := ?_) ?_ ?_
    rotate_left
    · show Act.put _ (some 40) _ = _
      simp only [Act.put, sA_, sB_, sC_, i64_w, i32_w]; rfl
    refine one_ (i := 16) (N := some 43) #[true, true, true, true, true, true, true, true, true, true, true, true, true, true, true, true, true, false, false, false, false] rfl rfl (one_of HT_.out (by kernel_rfl)) (by decide) (fun K hK => ?_)
    refine goes_ Try.func31 (by kernel_rfl) rfl #[.agg #[.slice A0_0 l0_0.length c0_0, .slice A0_1 l0_1.length c0_1], .int .i64 a1, .int .u8 t419, .int .i64 t421, .int .i64 t422, .bool a3, .agg #[.int .i64 a4_0, .int .i64 a4_1, .int .u8 a4_2, .int .i64 a4_3, .int .i64 a4_4, .float .f64 a4_5]] (by rfl) rfl rfl (by (try simp only [List.map_toArray, List.map_cons, List.map_nil]); first | done | rfl | (simp only [List.length_drop, List.length_take]; rfl)) ?_
    with_reducible refine (best_price.calls kj6 _ _ l0_0 _ _ l0_1 a1 t419 t421 t422 a3 a4_0 a4_1 a4_2 a4_3 a4_4 a4_5 t423 t424 _ ?side1 ?side2 ?side3 ?side4 A17.out).mono ?_
    (case side1 => repeat (first | exact (Kd.C_below HR0_0.out HB.out) | (with_reducible refine Kd.C_alloc ?_ _) | (with_reducible refine Kd.C_drewN ?_ _) | (with_reducible refine Kd.C_drew ?_)))
    (case side2 => exact HC0_0.out)
    (case side3 => repeat (first | exact (Kd.C_below HR0_1.out HB.out) | (with_reducible refine Kd.C_alloc ?_ _) | (with_reducible refine Kd.C_drewN ?_ _) | (with_reducible refine Kd.C_drew ?_)))
    (case side4 => exact HC0_1.out)
    rintro e w21 ⟨rfl, hb⟩
    refine ⟨_, rfl, ?_⟩
    have n0_ := zA.mk (zK (g := gb417) (o := .cells #[.slice A0_0 l0_0.length c0_0, .slice A0_1 l0_1.length c0_1] 31 (0, 0)) (by (with_reducible repeat (first | refine zC ?_ _ | refine zD ?_ | refine zB ?_ _)); exact BK417.out) hb)
    have n1_ := zA.mk (zK (g := gb418) (o := .cells #[.int .i64 a4_0, .int .i64 a4_1, .int .u8 a4_2, .int .i64 a4_3, .int .i64 a4_4, .float .f64 a4_5] 35 (0, 0)) (by (with_reducible repeat (first | refine zC ?_ _ | refine zD ?_ | refine zB ?_ _)); exact BK418.out) hb)
    have n2_ := zA.mk (zM (by repeat (first | (with_reducible first | exact HB.out | apply zI | apply zF | apply zH | refine zE ?_ GE417.out | refine zE ?_ GE418.out) | exact HB.out)) hb)
    clear BK417 BK418 HB; have BK417 := n0_; have BK418 := n1_; have HB := n2_; clear n0_ n1_ n2_; (try clear hb)
    (try clear hb2)
    (try clear hk)
    (try clear hi)
    refine hK.out _ _ ⟨(zG BK417.out 0).trans rfl, (zG BK417.out 1).trans rfl, (zG BK418.out 0).trans rfl, (zG BK418.out 1).trans rfl, (zG BK418.out 2).trans rfl, (zG BK418.out 3).trans rfl, (zG BK418.out 4).trans rfl, (zG BK418.out 5).trans rfl⟩ (fun hHeld => ?_)
    clear hK K; refine norm_ (a' := ?_) ?_ ?_
    rotate_left
    · show Act.put _ (some 43) _ = _
      simp only [Act.put, sA_, sB_, sC_, i64_w, i32_w]; rfl
    refine pure_ (i := 17) (N := some 44) (v := ?_) (a' := ?_) (tf_ 18 21) rfl rfl (any_of HT_.out (by kernel_rfl)) (fun _ _ _ h => h) (Or.inl ⟨by rfl, ?_⟩) ?_ ?_
    rotate_left
    · intro w'
      go_simp
      with_reducible rfl
    rotate_left
    · simp only [Act.put, sA_, sB_, sC_, i64_w, i32_w]
      rfl
    refine pure_ (i := 18) (N := some 45) (v := ?_) (a' := ?_) (tf_ 19 21) rfl rfl (any_of HT_.out (by kernel_rfl)) (fun _ _ _ h => h) (Or.inl ⟨by rfl, ?_⟩) ?_ ?_
    rotate_left
    · intro w'
      go_simp
      with_reducible rfl
    rotate_left
    · simp only [Act.put, sA_, sB_, sC_, i64_w, i32_w]
      rfl
    refine pure_ (i := 19) (N := some 10) (v := ?_) (a' := ?_) (tf_ 20 21) rfl rfl (any_of HT_.out (by kernel_rfl)) (fun _ _ _ h => h) (Or.inl ⟨by rfl, ?_⟩) ?_ ?_
    rotate_left
    · intro w'
      go_simp
      with_reducible rfl
    rotate_left
    · simp only [Act.put, sA_, sB_, sC_, i64_w, i32_w]
      rfl
    refine pure_ (i := 20) (N := some 11) (v := ?_) (a' := ?_) #[true, true, true, true, true, true, true, true, true, true, true, true, true, true, true, true, true, true, true, true, true] rfl rfl (any_of HT_.out (by kernel_rfl)) (fun _ _ _ h => h) (Or.inl ⟨by rfl, ?_⟩) ?_ ?_
    rotate_left
    · intro w'
      go_simp
      with_reducible rfl
    rotate_left
    · simp only [Act.put, sA_, sB_, sC_, i64_w, i32_w]
      rfl
    refine done_ (done_of HT_.out (by kernel_rfl)) ?_
    try go_wp2
    go_ret2
    exact ⟨by first | rfl | (simp [errW_none, errW_some] <;> rfl) | (simp [*, errW_none, errW_some] <;> rfl), by repeat (first | (with_reducible first | exact HB.out | apply zI | apply zF | apply zH | refine zE ?_ GE417.out | refine zE ?_ GE418.out) | exact HB.out)⟩
end Go.Proofs.Ytlgclhhkgohanaa.F
end
section
namespace Go.Proofs.Ytlgclhhkgohanaa.F
open Go.RowKit Go.Proofs.YtlgclhhkgohanaaW.PrintWords Go.Proofs.YtlgclhhkgohanaaW.PrintLast Go.Proofs.YtlgclhhkgohanaaW.PrintMore
attribute [local go_sem] max2_int min2_int max_two min_two max_three min_three max_four min_four   -- for this text's walks alone
set_option linter.unusedVariables false
set_option linter.unusedSimpArgs false
def stanzalaw15_BestCosts.f (k : Nat) (l0 : List (S45)) (a1_0 : Int) (a1_1 : Int) (a1_2 : Int) (a1_3 : Int) (a1_4 : Int) (a1_5 : Nat) (a2 : Int) (a3 : Int) (a4 : Bool) : Option (Bool) := (stanzalaw15_Awake.f k).bind fun t426 => (if t426 = true then (if (l0.length : Int) > 500 then (some true) else ((stanzahand03_Para.f k l0).bind fun bt427 => ((stanzahand03_Config.f a1_0 a1_1 a1_2 a1_3 a1_4 a1_5).bind fun bt433 => (if (IntKind.u64.wrap (wrap64 ((bt427.1.length : Int) + 1))) = 0 then (none) else ((best_Cost.f k bt427.1 bt427.2 (wrap64 (Int.tmod (IntKind.u64.wrap (a2)) (IntKind.u64.wrap (wrap64 ((bt427.1.length : Int) + 1))))) (wrap64 (Int.tmod (IntKind.u64.wrap (a3)) (IntKind.u64.wrap (wrap64 ((bt427.1.length : Int) + 1))))) a4 bt433.1 bt433.2.1 bt433.2.2.1 bt433.2.2.2.1 bt433.2.2.2.2.1 bt433.2.2.2.2.2).bind fun bt441 => ((stanzaref13_Cost.f k bt427.1 bt427.2 (wrap64 (Int.tmod (IntKind.u64.wrap (a2)) (IntKind.u64.wrap (wrap64 ((bt427.1.length : Int) + 1))))) (wrap64 (Int.tmod (IntKind.u64.wrap (a3)) (IntKind.u64.wrap (wrap64 ((bt427.1.length : Int) + 1))))) a4 bt433.1 bt433.2.1 bt433.2.2.1 bt433.2.2.2.1 bt433.2.2.2.2.1 bt433.2.2.2.2.2).bind fun bt443 => (if bt441.1 = bt443.1 then (some (bt441.2 == bt443.2)) else (some false)))))))) else (some false))
theorem stanzalaw15_BestCosts.mono : ∀ a0 a1 a2 a3 a4 a5 a6 a7 a8 a9 k, LeO (stanzalaw15_BestCosts.f k a0 a1 a2 a3 a4 a5 a6 a7 a8 a9) (stanzalaw15_BestCosts.f (k + 1) a0 a1 a2 a3 a4 a5 a6 a7 a8 a9) := by
  intro a0 a1 a2 a3 a4 a5 a6 a7 a8 a9 k
  unfold stanzalaw15_BestCosts.f
  repeat' first
      | (with_reducible exact best_Cost.mono _ _ _ _ _ _ _ _ _ _ _ _)
      | (with_reducible exact stanzahand03_Para.mono _ _)
      | (with_reducible exact stanzalaw15_Awake.mono _)
      | (with_reducible exact stanzaref13_Cost.mono _ _ _ _ _ _ _ _ _ _ _ _)
      | (with_reducible exact LeO.refl _)
      | (with_reducible exact LeO.none _)
      | (with_reducible refine LeO.ite ?_ ?_)
      | (with_reducible refine LeO.bind ?_ (fun _ => ?_))
      | exact best_Cost.mono _ _ _ _ _ _ _ _ _ _ _ _
      | exact stanzahand03_Para.mono _ _
      | exact stanzalaw15_Awake.mono _
      | exact stanzaref13_Cost.mono _ _ _ _ _ _ _ _ _ _ _ _
      | exact LeO.none _
      | refine LeO.ite ?_ ?_
      | refine LeO.bind ?_ (fun _ => ?_)
def stanzalaw15_BestCosts.T5 : Bool × List (List Nat × List Nat) := (true, [([], []), ([0], [0]), ([], []), ([2, 1], [2]), ([], []), ([], []), ([4, 1, 3, 0, 1, 4, 5], [1, 4]), ([5, 3, 6, 0, 1, 2, 3, 4, 5, 6], [3, 5])])
def stanzalaw15_BestCosts.B5 : List Nat := [0, 1, 0, 7, 0, 0, 63, 127]
theorem stanzalaw15_BestCosts.tab5 : rtab .any (opsOf Try.f7 5) = stanzalaw15_BestCosts.T5 := by kernel_rfl
theorem stanzalaw15_BestCosts.bits5 : waitsOk stanzalaw15_BestCosts.T5.2 stanzalaw15_BestCosts.B5 = true := by kernel_rfl
def stanzalaw15_BestCosts.T7 : Bool × List (List Nat × List Nat) := (true, [([], []), ([0], [0]), ([], []), ([2], [2]), ([1, 3], [1, 3]), ([4], [4]), ([], []), ([6], [6]), ([], []), ([8], [8]), ([7, 9], [7, 9]), ([10], [10]), ([5, 0, 1, 2, 3, 4, 5], [5]), ([11, 12, 0, 1, 2, 3, 4, 5, 6, 7, 8, 9, 10, 11, 12], [11])])
def stanzalaw15_BestCosts.B7 : List Nat := [0, 1, 0, 4, 15, 31, 0, 64, 0, 256, 960, 1984, 63, 8191]
theorem stanzalaw15_BestCosts.tab7 : rtab .any (opsOf Try.f7 7) = stanzalaw15_BestCosts.T7 := by kernel_rfl
theorem stanzalaw15_BestCosts.bits7 : waitsOk stanzalaw15_BestCosts.T7.2 stanzalaw15_BestCosts.B7 = true := by kernel_rfl
set_option maxHeartbeats 8000000 in
set_option maxRecDepth 100000 in
theorem stanzalaw15_BestCosts.calls (k : Nat) (A0 : Option Addr) (c0 : Nat) (l0 : List (S45)) (a1_0 : Int) (a1_1 : Int) (a1_2 : Int) (a1_3 : Int) (a1_4 : Int) (a1_5 : Nat) (a2 : Int) (a3 : Int) (a4 : Bool) (r : Bool) (w : World) (hr0 : Kd.C k45 w A0 l0.length l0) (hc0 : l0.length ≤ c0) (h : stanzalaw15_BestCosts.f k l0 a1_0 a1_1 a1_2 a1_3 a1_4 a1_5 a2 a3 a4 = some r) (hrt_ : zA (r = true)) :
    Calls Try.prog 7 #[.slice A0 l0.length c0, .agg #[.int .u8 a1_0, .int .u8 a1_1, .int .u8 a1_2, .int .u16 a1_3, .int .u16 a1_4, .float .f64 a1_5], .int .i64 a2, .int .i64 a3, .bool a4] w fun e w' => e = .returned (.bool r) ∧ Below w.heap.size w w' := by
  have hu26 := Try.underlying26; have hu31 := Try.underlying31; have hu35 := Try.underlying35; have HR0 := zA.mk hr0; have HC0 := zA.mk hc0; clear hr0 hc0; have HB := zA.mk (Below.refl w.heap.size w); have H : ((stanzalaw15_Awake.f k).bind fun t426 => (if t426 = true then (if (l0.length : Int) > 500 then (some true) else ((stanzahand03_Para.f k l0).bind fun bt427 => ((stanzahand03_Config.f a1_0 a1_1 a1_2 a1_3 a1_4 a1_5).bind fun bt433 => (if (IntKind.u64.wrap (wrap64 ((bt427.1.length : Int) + 1))) = 0 then (none) else ((best_Cost.f k bt427.1 bt427.2 (wrap64 (Int.tmod (IntKind.u64.wrap (a2)) (IntKind.u64.wrap (wrap64 ((bt427.1.length : Int) + 1))))) (wrap64 (Int.tmod (IntKind.u64.wrap (a3)) (IntKind.u64.wrap (wrap64 ((bt427.1.length : Int) + 1))))) a4 bt433.1 bt433.2.1 bt433.2.2.1 bt433.2.2.2.1 bt433.2.2.2.2.1 bt433.2.2.2.2.2).bind fun bt441 => ((stanzaref13_Cost.f k bt427.1 bt427.2 (wrap64 (Int.tmod (IntKind.u64.wrap (a2)) (IntKind.u64.wrap (wrap64 ((bt427.1.length : Int) + 1))))) (wrap64 (Int.tmod (IntKind.u64.wrap (a3)) (IntKind.u64.wrap (wrap64 ((bt427.1.length : Int) + 1))))) a4 bt433.1 bt433.2.1 bt433.2.2.1 bt433.2.2.2.1 bt433.2.2.2.2.1 bt433.2.2.2.2.2).bind fun bt443 => (if bt441.1 = bt443.1 then (some (bt441.2 == bt443.2)) else (some false)))))))) else (some false))) = some r := h
  clear h; replace H := Option.bind_eq_some_iff.mp H; obtain ⟨t426, A60, H⟩ := H; replace H : (if t426 = true then (if (l0.length : Int) > 500 then (some true) else ((stanzahand03_Para.f k l0).bind fun bt427 => ((stanzahand03_Config.f a1_0 a1_1 a1_2 a1_3 a1_4 a1_5).bind fun bt433 => (if (IntKind.u64.wrap (wrap64 ((bt427.1.length : Int) + 1))) = 0 then (none) else ((best_Cost.f k bt427.1 bt427.2 (wrap64 (Int.tmod (IntKind.u64.wrap (a2)) (IntKind.u64.wrap (wrap64 ((bt427.1.length : Int) + 1))))) (wrap64 (Int.tmod (IntKind.u64.wrap (a3)) (IntKind.u64.wrap (wrap64 ((bt427.1.length : Int) + 1))))) a4 bt433.1 bt433.2.1 bt433.2.2.1 bt433.2.2.2.1 bt433.2.2.2.2.1 bt433.2.2.2.2.2).bind fun bt441 => ((stanzaref13_Cost.f k bt427.1 bt427.2 (wrap64 (Int.tmod (IntKind.u64.wrap (a2)) (IntKind.u64.wrap (wrap64 ((bt427.1.length : Int) + 1))))) (wrap64 (Int.tmod (IntKind.u64.wrap (a3)) (IntKind.u64.wrap (wrap64 ((bt427.1.length : Int) + 1))))) a4 bt433.1 bt433.2.1 bt433.2.2.1 bt433.2.2.2.1 bt433.2.2.2.2.1 bt433.2.2.2.2.2).bind fun bt443 => (if bt441.1 = bt443.1 then (some (bt441.2 == bt443.2)) else (some false)))))))) else (some false)) = some r := H
  have A6 := zA.mk A60; clear A60; by_cases c7 : t426 = true
  rotate_left
  · replace c7 := Bool.eq_false_iff.mpr c7
    subst c7; have H1 : (some false) = some r := by rw [if_neg (show ¬ (false = true) by decide)] at H; exact H
    clear H; have H := H1; clear H1; exact absurd ((Option.some.inj H).trans hrt_.out) (by decide)
  subst c7; have H1 : (if (l0.length : Int) > 500 then (some true) else ((stanzahand03_Para.f k l0).bind fun bt427 => ((stanzahand03_Config.f a1_0 a1_1 a1_2 a1_3 a1_4 a1_5).bind fun bt433 => (if (IntKind.u64.wrap (wrap64 ((bt427.1.length : Int) + 1))) = 0 then (none) else ((best_Cost.f k bt427.1 bt427.2 (wrap64 (Int.tmod (IntKind.u64.wrap (a2)) (IntKind.u64.wrap (wrap64 ((bt427.1.length : Int) + 1))))) (wrap64 (Int.tmod (IntKind.u64.wrap (a3)) (IntKind.u64.wrap (wrap64 ((bt427.1.length : Int) + 1))))) a4 bt433.1 bt433.2.1 bt433.2.2.1 bt433.2.2.2.1 bt433.2.2.2.2.1 bt433.2.2.2.2.2).bind fun bt441 => ((stanzaref13_Cost.f k bt427.1 bt427.2 (wrap64 (Int.tmod (IntKind.u64.wrap (a2)) (IntKind.u64.wrap (wrap64 ((bt427.1.length : Int) + 1))))) (wrap64 (Int.tmod (IntKind.u64.wrap (a3)) (IntKind.u64.wrap (wrap64 ((bt427.1.length : Int) + 1))))) a4 bt433.1 bt433.2.1 bt433.2.2.1 bt433.2.2.2.1 bt433.2.2.2.2.1 bt433.2.2.2.2.2).bind fun bt443 => (if bt441.1 = bt443.1 then (some (bt441.2 == bt443.2)) else (some false)))))))) = some r := by rw [if_pos rfl] at H; exact H
  clear H; have H := H1; clear H1; by_cases c8 : (l0.length : Int) > 500
  · rw [if_pos c8] at H
    have c8b0 : decide (500 < (l0.length : Int)) = true := decide_eq_true c8
    have c8b1 : decide (500 < l0.length) = true := decide_eq_true (by omega)
    clear c8; obtain rfl := Option.some.inj H
    go_enter Try.func7, Try.ntmps7
    go_wp2_with (first | ((with_reducible refine gate_dst (N := 6) rfl ?_); refine box_event ?hg (N := 6) ?hd (cs := #[.int .u8 a1_0, .int .u8 a1_1, .int .u8 a1_2, .int .u16 a1_3, .int .u16 a1_4, .float .f64 a1_5]) (t := 26) ?hr ?_; (case hd => rfl); (case hg => rfl); (case hr => first | (go_simp; done) | (go_simp; rfl)); intro gb425 hg w9 hbox hb; have n0_ := zA.mk (zM (by repeat (first | (with_reducible first | exact HB.out | apply zI | apply zF | apply zH) | exact HB.out)) hb); have n1_ := zA.mk (hbox); have n2_ := zA.mk ((by rw [hg]; exact (zL (by repeat (first | (with_reducible first | exact HB.out | apply zI | apply zF | apply zH) | exact HB.out))) : w.heap.size ≤ gb425)); have n3_ := zA.mk ((by rw [hg]; exact (zL (by repeat (first | (with_reducible first | exact HB.out | apply zI | apply zF | apply zH) | exact HB.out))) : w.heap.size ≤ gb425)); clear HB; have HB := n0_; have BK425 := n1_; have GW425 := n2_; have GE425 := n3_; clear n0_ n1_ n2_ n3_; clear hb hbox hg) | ((with_reducible refine gate_callee (f := 10) rfl ?_); refine goesL_ (some 20) rfl rfl Try.func10 (by kernel_rfl) rfl #[] rfl (by (try simp only [List.map_toArray, List.map_cons, List.map_nil]); first | done | rfl | (simp only [List.length_drop, List.length_take]; rfl)) ?_; (with_reducible refine (stanzalaw15_Awake.calls k  true _ A6.out (by first | exact ⟨rfl⟩ | exact hrt_)).mono ?_); rintro e w10 ⟨rfl, hb⟩; refine ⟨_, rfl, ?_⟩; have n0_ := zA.mk (zK (g := gb425) (o := .cells #[.int .u8 a1_0, .int .u8 a1_1, .int .u8 a1_2, .int .u16 a1_3, .int .u16 a1_4, .float .f64 a1_5] 26 (0, 0)) (by (with_reducible repeat (first | refine zC ?_ _ | refine zD ?_ | refine zB ?_ _)); exact BK425.out) hb); have n1_ := zA.mk (zM (by repeat (first | (with_reducible first | exact HB.out | apply zI | apply zF | apply zH | refine zE ?_ GE425.out) | exact HB.out)) hb); clear BK425; clear HB; have BK425 := n0_; have HB := n1_; clear n0_ n1_; (try clear hb); (try clear hb2); (try clear hk); (try clear hi)))
    go_ret
    exact ⟨by first | rfl | (simp [errW_none, errW_some] <;> rfl) | (simp [*, errW_none, errW_some] <;> rfl), by repeat (first | (with_reducible first | exact HB.out | apply zI | apply zF | apply zH | refine zE ?_ GE425.out) | exact HB.out)⟩
  rw [if_neg c8] at H; have c8b0 : decide (500 < (l0.length : Int)) = false := decide_eq_false c8
  have c8b1 : decide (500 < l0.length) = false := decide_eq_false (by omega)
  clear c8; replace H := Option.bind_eq_some_iff.mp H; obtain ⟨⟨t427, t430⟩, A110, H⟩ := H; replace H : ((stanzahand03_Config.f a1_0 a1_1 a1_2 a1_3 a1_4 a1_5).bind fun bt433 => (if (IntKind.u64.wrap (wrap64 ((t427.length : Int) + 1))) = 0 then (none) else ((best_Cost.f k t427 t430 (wrap64 (Int.tmod (IntKind.u64.wrap (a2)) (IntKind.u64.wrap (wrap64 ((t427.length : Int) + 1))))) (wrap64 (Int.tmod (IntKind.u64.wrap (a3)) (IntKind.u64.wrap (wrap64 ((t427.length : Int) + 1))))) a4 bt433.1 bt433.2.1 bt433.2.2.1 bt433.2.2.2.1 bt433.2.2.2.2.1 bt433.2.2.2.2.2).bind fun bt441 => ((stanzaref13_Cost.f k t427 t430 (wrap64 (Int.tmod (IntKind.u64.wrap (a2)) (IntKind.u64.wrap (wrap64 ((t427.length : Int) + 1))))) (wrap64 (Int.tmod (IntKind.u64.wrap (a3)) (IntKind.u64.wrap (wrap64 ((t427.length : Int) + 1))))) a4 bt433.1 bt433.2.1 bt433.2.2.1 bt433.2.2.2.1 bt433.2.2.2.2.1 bt433.2.2.2.2.2).bind fun bt443 => (if bt441.1 = bt443.1 then (some (bt441.2 == bt443.2)) else (some false)))))) = some r := H
  have A11 := zA.mk A110; clear A110; replace H := Option.bind_eq_some_iff.mp H; obtain ⟨⟨t433, t434, t435, t436, t437, t438⟩, A120, H⟩ := H; replace H : (if (IntKind.u64.wrap (wrap64 ((t427.length : Int) + 1))) = 0 then (none) else ((best_Cost.f k t427 t430 (wrap64 (Int.tmod (IntKind.u64.wrap (a2)) (IntKind.u64.wrap (wrap64 ((t427.length : Int) + 1))))) (wrap64 (Int.tmod (IntKind.u64.wrap (a3)) (IntKind.u64.wrap (wrap64 ((t427.length : Int) + 1))))) a4 t433 t434 t435 t436 t437 t438).bind fun bt441 => ((stanzaref13_Cost.f k t427 t430 (wrap64 (Int.tmod (IntKind.u64.wrap (a2)) (IntKind.u64.wrap (wrap64 ((t427.length : Int) + 1))))) (wrap64 (Int.tmod (IntKind.u64.wrap (a3)) (IntKind.u64.wrap (wrap64 ((t427.length : Int) + 1))))) a4 t433 t434 t435 t436 t437 t438).bind fun bt443 => (if bt441.1 = bt443.1 then (some (bt441.2 == bt443.2)) else (some false))))) = some r := H
  have A12 := zA.mk A120; clear A120; by_cases c13 : (IntKind.u64.wrap (wrap64 ((t427.length : Int) + 1))) = 0
  · rw [if_pos c13] at H
    exact absurd H (by simp)
  rw [if_neg c13] at H; have c13b0 : ((IntKind.u64.wrap (wrap64 ((t427.length : Int) + 1))) == 0) = false := beq_eq_false_iff_ne.mpr c13
  have c13b1 : ((IntKind.u64.wrap (wrap64 ((t427.length : Int) + 1))) != 0) = true := bne_iff_ne.mpr c13
  replace H := Option.bind_eq_some_iff.mp H; obtain ⟨⟨t441, t442⟩, A140, H⟩ := H; replace H : ((stanzaref13_Cost.f k t427 t430 (wrap64 (Int.tmod (IntKind.u64.wrap (a2)) (IntKind.u64.wrap (wrap64 ((t427.length : Int) + 1))))) (wrap64 (Int.tmod (IntKind.u64.wrap (a3)) (IntKind.u64.wrap (wrap64 ((t427.length : Int) + 1))))) a4 t433 t434 t435 t436 t437 t438).bind fun bt443 => (if t441 = bt443.1 then (some (t442 == bt443.2)) else (some false))) = some r := H
  have A14 := zA.mk A140; clear A140; replace H := Option.bind_eq_some_iff.mp H; obtain ⟨⟨t443, t444⟩, A150, H⟩ := H; replace H : (if t441 = t443 then (some (t442 == t444)) else (some false)) = some r := H; have A15 := zA.mk A150; clear A150; by_cases c16 : t441 = t443
  rotate_left
  · rw [if_neg c16] at H
    have c16b0 : (t441 == t443) = false := beq_eq_false_iff_ne.mpr c16
    have c16b1 : (t441 != t443) = true := bne_iff_ne.mpr c16
    exact absurd ((Option.some.inj H).trans hrt_.out) (by decide)
  rw [if_pos c16] at H; have c16b0 : (t441 == t443) = true := beq_iff_eq.mpr c16
  have c16b1 : (t441 != t443) = false := bne_eq_false_iff_eq.mpr c16
  clear c16; obtain rfl := Option.some.inj H
  go_enter Try.func7, Try.ntmps7
  try go_wp2_with (first | ((with_reducible refine gate_dst (N := 6) rfl ?_); refine box_event ?hg (N := 6) ?hd (cs := #[.int .u8 a1_0, .int .u8 a1_1, .int .u8 a1_2, .int .u16 a1_3, .int .u16 a1_4, .float .f64 a1_5]) (t := 26) ?hr ?_; (case hd => rfl); (case hg => rfl); (case hr => first | (go_simp; done) | (go_simp; rfl)); intro gb425 hg w17 hbox hb; have n0_ := zA.mk (zM (by repeat (first | (with_reducible first | exact HB.out | apply zI | apply zF | apply zH) | exact HB.out)) hb); have n1_ := zA.mk (hbox); have n2_ := zA.mk ((by rw [hg]; exact (zL (by repeat (first | (with_reducible first | exact HB.out | apply zI | apply zF | apply zH) | exact HB.out))) : w.heap.size ≤ gb425)); have n3_ := zA.mk ((by rw [hg]; exact (zL (by repeat (first | (with_reducible first | exact HB.out | apply zI | apply zF | apply zH) | exact HB.out))) : w.heap.size ≤ gb425)); clear HB; have HB := n0_; have BK425 := n1_; have GW425 := n2_; have GE425 := n3_; clear n0_ n1_ n2_ n3_; clear hb hbox hg) | ((with_reducible refine gate_callee (f := 10) rfl ?_); refine goesL_ (some 20) rfl rfl Try.func10 (by kernel_rfl) rfl #[] rfl (by (try simp only [List.map_toArray, List.map_cons, List.map_nil]); first | done | rfl | (simp only [List.length_drop, List.length_take]; rfl)) ?_; (with_reducible refine (stanzalaw15_Awake.calls k  true _ A6.out (by first | exact ⟨rfl⟩ | exact hrt_)).mono ?_); rintro e w18 ⟨rfl, hb⟩; refine ⟨_, rfl, ?_⟩; have n0_ := zA.mk (zK (g := gb425) (o := .cells #[.int .u8 a1_0, .int .u8 a1_1, .int .u8 a1_2, .int .u16 a1_3, .int .u16 a1_4, .float .f64 a1_5] 26 (0, 0)) (by (with_reducible repeat (first | refine zC ?_ _ | refine zD ?_ | refine zB ?_ _)); exact BK425.out) hb); have n1_ := zA.mk (zM (by repeat (first | (with_reducible first | exact HB.out | apply zI | apply zF | apply zH | refine zE ?_ GE425.out) | exact HB.out)) hb); clear BK425; clear HB; have BK425 := n0_; have HB := n1_; clear n0_ n1_; (try clear hb); (try clear hb2); (try clear hk); (try clear hi)))
  have n0_ := zA.mk (zD BK425.out); have n1_ := zA.mk (zH HB.out); clear BK425; clear HB; have BK425 := n0_; have HB := n1_; clear n0_ n1_; refine start_ (n := 8) (S := fun w' => w'.cell? ⟨gb425, 0, none⟩ = some (.int .u8 a1_0) ∧ w'.cell? ⟨gb425, 1, none⟩ = some (.int .u8 a1_1) ∧ w'.cell? ⟨gb425, 2, none⟩ = some (.int .u8 a1_2) ∧ w'.cell? ⟨gb425, 3, none⟩ = some (.int .u16 a1_3) ∧ w'.cell? ⟨gb425, 4, none⟩ = some (.int .u16 a1_4) ∧ w'.cell? ⟨gb425, 5, none⟩ = some (.float .f64 a1_5)) (ds := []) #[false, false, false, false, false, false, false, false] (by kernel_rfl) rfl rfl ⟨(zG BK425.out 0).trans rfl, (zG BK425.out 1).trans rfl, (zG BK425.out 2).trans rfl, (zG BK425.out 3).trans rfl, (zG BK425.out 4).trans rfl, (zG BK425.out 5).trans rfl⟩ (fun hHeld => ?_); refine with_tabW stanzalaw15_BestCosts.tab5 stanzalaw15_BestCosts.bits5 (fun HT_ HW_ => ?_)
  generalize w18.drew = w19 at BK425 HB hHeld ⊢
  refine pure_ (i := 0) (N := some 25) (v := ?_) (a' := ?_) (tf_ 1 8) rfl rfl (any_of HT_.out (by kernel_rfl)) (fun _ _ _ h => h) (Or.inl ⟨by rfl, ?_⟩) ?_ ?_
  rotate_left
  · intro w'
    go_simp
    with_reducible rfl
  rotate_left
  · simp only [Act.put, sA_, sB_, sC_, i64_w, i32_w]
    rfl
  refine take_ (i := 2) (N := some 27) (v := ?_) (a' := ?_) #[true, false, true, false, false, false, false, false] rfl rfl (take_ofW HT_.out HW_.out (by kernel_rfl)) (fun _ _ _ h => h) (Or.inl ⟨by rfl, ?_⟩) hHeld ?_ ?_
  rotate_left
  · rintro w' ⟨s0, s1, s2, s3, s4, s5⟩
    go_simp
    with_reducible rfl
  rotate_left
  · simp only [Act.put, sA_, sB_, sC_, i64_w, i32_w]
    rfl
  refine join_ (σ := Value × Value × Nat × Nat) 2 #[true, true, true, true, true, true, false, false] (fun s_ => [(26, .agg #[s_.1, s_.2.1]), (28, .agg #[.int .i64 t433, .int .i64 t434, .int .u8 t435, .int .i64 t436, .int .i64 t437, .float .f64 t438]), (11, .pointer (some ⟨s_.2.2.1, 0, none⟩)), (12, .pointer (some ⟨s_.2.2.2, 0, none⟩))]) (fun s_ w' => (w'.cell? ⟨gb425, 0, none⟩ = some (.int .u8 a1_0) ∧ w'.cell? ⟨gb425, 1, none⟩ = some (.int .u8 a1_1) ∧ w'.cell? ⟨gb425, 2, none⟩ = some (.int .u8 a1_2) ∧ w'.cell? ⟨gb425, 3, none⟩ = some (.int .u16 a1_3) ∧ w'.cell? ⟨gb425, 4, none⟩ = some (.int .u16 a1_4) ∧ w'.cell? ⟨gb425, 5, none⟩ = some (.float .f64 a1_5)) ∧ (Kd.R k62 62 w' w.heap.size (fun _ => True) s_.1 t427) ∧ (Kd.R (Kd.int .u8) 46 w' w.heap.size (fun _ => True) s_.2.1 t430) ∧ (w'.heap[gb425]? = some (.cells #[.int .u8 a1_0, .int .u8 a1_1, .int .u8 a1_2, .int .u16 a1_3, .int .u16 a1_4, .float .f64 a1_5] 26 (0, 0))) ∧ (w'.heap[s_.2.2.1]? = some (.cells #[.slice none 0 0, .slice none 0 0] 31 (0, 0))) ∧ (w'.heap[s_.2.2.2]? = some (.cells #[.int .i64 0, .int .i64 0, .int .u8 0, .int .i64 0, .int .i64 0, .float .f64 0] 35 (0, 0))) ∧ (w.heap.size ≤ s_.2.2.1) ∧ (w.heap.size ≤ s_.2.2.1) ∧ (gb425 ≠ s_.2.2.1) ∧ (s_.2.2.1 ≠ gb425) ∧ (s_.2.2.2 ≠ s_.2.2.1) ∧ (s_.2.2.1 ≠ s_.2.2.2) ∧ (w.heap.size ≤ s_.2.2.2) ∧ (w.heap.size ≤ s_.2.2.2) ∧ (gb425 ≠ s_.2.2.2) ∧ (s_.2.2.2 ≠ gb425) ∧ (Below w.heap.size w w')) ?_ ?_
  rotate_left
  · intro hJ1_3_4_5
    refine par4_ (fuel := 2) (l' := #[true, true, true, true, true, true, false, false]) (i1 := 1) (i3 := 3) (i4 := 4) (i5 := 5) (σ := Value × Value) (cs4 := #[.slice none 0 0, .slice none 0 0]) (t4 := 31) (cs5 := #[.int .i64 0, .int .i64 0, .int .u8 0, .int .i64 0, .int .i64 0, .float .f64 0]) (t5 := 35) (fun s_ => .agg #[s_.1, s_.2]) (.agg #[.int .i64 t433, .int .i64 t434, .int .u8 t435, .int .i64 t436, .int .i64 t437, .float .f64 t438]) (par4_of HT_.out (by kernel_rfl)) rfl rfl rfl rfl rfl rfl rfl rfl rfl rfl (by decide) rfl (fun w_ => (w_.cell? ⟨gb425, 0, none⟩ = some (.int .u8 a1_0) ∧ w_.cell? ⟨gb425, 1, none⟩ = some (.int .u8 a1_1) ∧ w_.cell? ⟨gb425, 2, none⟩ = some (.int .u8 a1_2) ∧ w_.cell? ⟨gb425, 3, none⟩ = some (.int .u16 a1_3) ∧ w_.cell? ⟨gb425, 4, none⟩ = some (.int .u16 a1_4) ∧ w_.cell? ⟨gb425, 5, none⟩ = some (.float .f64 a1_5)) ∧ (w_.heap[gb425]? = some (.cells #[.int .u8 a1_0, .int .u8 a1_1, .int .u8 a1_2, .int .u16 a1_3, .int .u16 a1_4, .float .f64 a1_5] 26 (0, 0))) ∧ (Below w.heap.size w w_)) ?pgrow (fun _ hP_ => hP_.1) (fun s_ w_ => (Kd.R k62 62 w_ w.heap.size (fun _ => True) s_.1 t427) ∧ (Kd.R (Kd.int .u8) 46 w_ w.heap.size (fun _ => True) s_.2 t430)) ?pF (fun g_ => (w.heap.size ≤ g_) ∧ (gb425 ≠ g_) ∧ (g_ ≠ gb425)) ?pNew ?pc1 ?pc3 ?pc4 ?pc5 ?pPhi ?pcont
    case pgrow =>
      intro w0_ w1_ hP_ hb_; obtain ⟨hS_, k0_, k1_⟩ := hP_; have BK425 := zA.mk (by first | exact Kd.R_below k0_ hb_ | exact zK k0_ hb_ | exact zM k0_ hb_); have HB := zA.mk (by first | exact Kd.R_below k1_ hb_ | exact zK k1_ hb_ | exact zM k1_ hb_)
      exact ⟨⟨(zG BK425.out 0).trans rfl, (zG BK425.out 1).trans rfl, (zG BK425.out 2).trans rfl, (zG BK425.out 3).trans rfl, (zG BK425.out 4).trans rfl, (zG BK425.out 5).trans rfl⟩, BK425.out, HB.out⟩
    case pF => intro s_ w0_ w1_ hP_ hb_; obtain ⟨f0_, f1_⟩ := hP_; exact ⟨(by first | exact Kd.R_below f0_ hb_ | exact zK f0_ hb_ | exact zM f0_ hb_), (by first | exact Kd.R_below f1_ hb_ | exact zK f1_ hb_ | exact zM f1_ hb_)⟩
    case pNew => intro w0_ hP_; obtain ⟨hS_, k0_, k1_⟩ := hP_; (try have l0_ := blk_lt k0_); (try have m0_ := zL k0_); (try have l1_ := blk_lt k1_); (try have m1_ := zL k1_); refine ⟨?_, ?_, ?_⟩ <;> omega
    case pc1 =>
      intro a_ W_ K_ hev_ hP_ h_; obtain ⟨hS_, k0_, k1_⟩ := hP_; have BK425 := zA.mk k0_; have HB := zA.mk k1_
      refine goes_ Try.func11 (by kernel_rfl) rfl #[.slice A0 l0.length c0] (by rfl) rfl rfl (by simp only [List.map_toArray, List.map_cons, List.map_nil]; first | rfl | (simp (disch := decide) only [hev_]; rfl) | (rw [hev_ _ (by decide) (by decide) (by decide) (by decide)]; rfl)) ?_
      with_reducible refine (stanzahand03_Para.calls k _ _ l0 t427 t430 _ ?side1 ?side2 A11.out).mono ?_
      (case side1 => repeat (first | exact (Kd.C_below HR0.out HB.out) | (with_reducible refine Kd.C_alloc ?_ _) | (with_reducible refine Kd.C_drewN ?_ _) | (with_reducible refine Kd.C_drew ?_)))
      (case side2 => exact HC0.out)
      rintro e w20 ⟨v428, v431, rfl, ho0, ho1, hb⟩
      refine ⟨_, rfl, ?_⟩
      exact h_ (v428, v431) _ hb ⟨(Kd.R_lower ho0 (zL (by repeat (first | (with_reducible first | exact HB.out | apply zI | apply zF | apply zH | refine zE ?_ GE425.out) | exact HB.out)))), (Kd.R_lower ho1 (zL (by repeat (first | (with_reducible first | exact HB.out | apply zI | apply zF | apply zH | refine zE ?_ GE425.out) | exact HB.out))))⟩
    case pc3 =>
      intro a_ W_ K_ hev_ hP_ h_; obtain ⟨hS_, k0_, k1_⟩ := hP_; have BK425 := zA.mk k0_; have HB := zA.mk k1_
      refine goes_ Try.func12 (by kernel_rfl) rfl #[.agg #[.int .u8 a1_0, .int .u8 a1_1, .int .u8 a1_2, .int .u16 a1_3, .int .u16 a1_4, .float .f64 a1_5]] (by rfl) rfl rfl (by simp only [List.map_toArray, List.map_cons, List.map_nil]; first | rfl | (simp (disch := decide) only [hev_]; rfl) | (rw [hev_ _ (by decide) (by decide) (by decide) (by decide)]; rfl)) ?_
      with_reducible refine (stanzahand03_Config.calls a1_0 a1_1 a1_2 a1_3 a1_4 a1_5 t433 t434 t435 t436 t437 t438 _ A12.out).mono ?_
      rintro e w22 ⟨rfl, hb⟩
      refine ⟨_, rfl, ?_⟩
      exact h_ _ hb
    case pc4 => intro a_ W_; first | (go_simp; done) | (go_simp; rfl)
    case pc5 => intro a_ W_; first | (go_simp; done) | (go_simp; rfl)
    case pPhi => exact ⟨hHeld, BK425.out, HB.out⟩
    case pcont => intro s_ gb439 gb440 w24 hP_ hF_ y4_ y5_ x4_ x5_ he_; obtain ⟨hS_, k0_, k1_⟩ := hP_; obtain ⟨v428, v431⟩ := s_; obtain ⟨f0_, f1_⟩ := hF_; exact hJ1_3_4_5 (v428, v431, gb439, gb440) _ ⟨hS_, f0_, f1_, k0_, y4_, y5_, x4_.1, x4_.1, x4_.2.1, x4_.2.2, (Ne.symm he_), he_, x5_.1, x5_.1, x5_.2.1, x5_.2.2, k1_⟩
  rintro ⟨v428, v431, gb439, gb440⟩ w24 ⟨hS_, h0_, h1_, h2_, h3_, h4_, h5_, h6_, h7_, h8_, h9_, h10_, h11_, h12_, h13_, h14_, h15_⟩
  have n0_ : zA (Kd.R k62 62 w24 w.heap.size (fun _ => True) v428 t427) := ⟨h0_⟩
  have n1_ : zA (Kd.R (Kd.int .u8) 46 w24 w.heap.size (fun _ => True) v431 t430) := ⟨h1_⟩
  have n2_ : zA (w24.heap[gb425]? = some (.cells #[.int .u8 a1_0, .int .u8 a1_1, .int .u8 a1_2, .int .u16 a1_3, .int .u16 a1_4, .float .f64 a1_5] 26 (0, 0))) := ⟨h2_⟩
  have n3_ : zA (w24.heap[gb439]? = some (.cells #[.slice none 0 0, .slice none 0 0] 31 (0, 0))) := ⟨h3_⟩
  have n4_ : zA (w24.heap[gb440]? = some (.cells #[.int .i64 0, .int .i64 0, .int .u8 0, .int .i64 0, .int .i64 0, .float .f64 0] 35 (0, 0))) := ⟨h4_⟩
  have n5_ : zA (w.heap.size ≤ gb439) := ⟨h5_⟩
  have n6_ : zA (w.heap.size ≤ gb439) := ⟨h6_⟩
  have n7_ : zA (gb425 ≠ gb439) := ⟨h7_⟩
  have n8_ : zA (gb439 ≠ gb425) := ⟨h8_⟩
  have n9_ : zA (gb440 ≠ gb439) := ⟨h9_⟩
  have n10_ : zA (gb439 ≠ gb440) := ⟨h10_⟩
  have n11_ : zA (w.heap.size ≤ gb440) := ⟨h11_⟩
  have n12_ : zA (w.heap.size ≤ gb440) := ⟨h12_⟩
  have n13_ : zA (gb425 ≠ gb440) := ⟨h13_⟩
  have n14_ : zA (gb440 ≠ gb425) := ⟨h14_⟩
  have n15_ : zA (Below w.heap.size w w24) := ⟨h15_⟩
  clear BK425 HB h0_ h1_ h2_ h3_ h4_ h5_ h6_ h7_ h8_ h9_ h10_ h11_ h12_ h13_ h14_ h15_; have HO429 := n0_; have HO432 := n1_; have BK425 := n2_; have BK439 := n3_; have BK440 := n4_; have GW439 := n5_; have GE439 := n6_; have NB425_439 := n7_; have NB439_425 := n8_; have NB440_439 := n9_; have NB439_440 := n10_; have GW440 := n11_; have GE440 := n12_; have NB425_440 := n13_; have NB440_425 := n14_; have HB := n15_; clear n0_ n1_ n2_ n3_ n4_ n5_ n6_ n7_ n8_ n9_ n10_ n11_ n12_ n13_ n14_ n15_; have hHeld : w24.cell? ⟨gb425, 0, none⟩ = some (.int .u8 a1_0) ∧ w24.cell? ⟨gb425, 1, none⟩ = some (.int .u8 a1_1) ∧ w24.cell? ⟨gb425, 2, none⟩ = some (.int .u8 a1_2) ∧ w24.cell? ⟨gb425, 3, none⟩ = some (.int .u16 a1_3) ∧ w24.cell? ⟨gb425, 4, none⟩ = some (.int .u16 a1_4) ∧ w24.cell? ⟨gb425, 5, none⟩ = some (.float .f64 a1_5) := hS_
  obtain ⟨Ao25, co25, eo25⟩ := Kd.R_slice HO429.out; (first | subst eo25 | (injection eo25 with f1_ f2_ f3_; have f4_ := f1_.symm; have f5_ := f3_.symm; clear f1_ f2_ f3_; subst f4_; subst f5_))
  obtain ⟨Ao27, co27, eo27⟩ := Kd.R_slice HO432.out; (first | subst eo27 | (injection eo27 with f1_ f2_ f3_; have f4_ := f1_.symm; have f5_ := f3_.symm; clear f1_ f2_ f3_; subst f4_; subst f5_))
  refine norm_ (a' := ?_) ?_ ?_
  rotate_left
  · simp only [putAll, Act.put, sA_, sB_, sC_]
    rfl
  refine one_ (i := 6) (N := none) #[true, true, true, true, true, true, true, false] rfl rfl (one_of HT_.out (by kernel_rfl)) (by decide) (fun K hK => ?_)
  have hs26 : w24.cell? ⟨gb439, 0, none⟩ = some (.slice none 0 0) := (zG BK439.out 0).trans rfl
  have hfs26 := zJ BK439.out 0; have hns26_0 := NB425_439.out; have hns26_2 := NB440_439.out; have hms26_0 := NB439_425.out; have hms26_2 := NB439_440.out; have hs28 : w24.cell? ⟨gb439, 1, none⟩ = some (.slice none 0 0) := (zG BK439.out 1).trans rfl
  have hfs28 := zJ BK439.out 1; have hns28_0 := NB425_439.out; have hns28_2 := NB440_439.out; have hms28_0 := NB439_425.out; have hms28_2 := NB439_440.out; refine skip_ (w1 := ?_) (by rfl) rfl ?_ ?_
  rotate_left
  · go_simp
    rfl
  refine hK.out _ _ ⟨((cell_far (p := ⟨gb439, _, none⟩) NB425_439.out _).trans (((cell_far (p := ⟨gb439, _, none⟩) NB425_439.out _).trans (hHeld.1)))), ((cell_far (p := ⟨gb439, _, none⟩) NB425_439.out _).trans (((cell_far (p := ⟨gb439, _, none⟩) NB425_439.out _).trans (hHeld.2.1)))), ((cell_far (p := ⟨gb439, _, none⟩) NB425_439.out _).trans (((cell_far (p := ⟨gb439, _, none⟩) NB425_439.out _).trans (hHeld.2.2.1)))), ((cell_far (p := ⟨gb439, _, none⟩) NB425_439.out _).trans (((cell_far (p := ⟨gb439, _, none⟩) NB425_439.out _).trans (hHeld.2.2.2.1)))), ((cell_far (p := ⟨gb439, _, none⟩) NB425_439.out _).trans (((cell_far (p := ⟨gb439, _, none⟩) NB425_439.out _).trans (hHeld.2.2.2.2.1)))), ((cell_far (p := ⟨gb439, _, none⟩) NB425_439.out _).trans (((cell_far (p := ⟨gb439, _, none⟩) NB425_439.out _).trans (hHeld.2.2.2.2.2))))⟩ (fun hHeld => ?_)
  clear hK K; refine one_ (i := 7) (N := none) #[true, true, true, true, true, true, true, true] rfl rfl (one_of HT_.out (by kernel_rfl)) (by decide) (fun K hK => ?_)
  have hs29 : w24.cell? ⟨gb440, 0, none⟩ = some (.int .i64 0) := (zG BK440.out 0).trans rfl
  have hfs29 := zJ BK440.out 0; have hns29_0 := NB425_440.out; have hns29_1 := NB439_440.out; have hms29_0 := NB440_425.out; have hms29_1 := NB440_439.out; have hs30 : w24.cell? ⟨gb440, 1, none⟩ = some (.int .i64 0) := (zG BK440.out 1).trans rfl
  have hfs30 := zJ BK440.out 1; have hns30_0 := NB425_440.out; have hns30_1 := NB439_440.out; have hms30_0 := NB440_425.out; have hms30_1 := NB440_439.out; have hs31 : w24.cell? ⟨gb440, 2, none⟩ = some (.int .u8 0) := (zG BK440.out 2).trans rfl
  have hfs31 := zJ BK440.out 2; have hns31_0 := NB425_440.out; have hns31_1 := NB439_440.out; have hms31_0 := NB440_425.out; have hms31_1 := NB440_439.out; have hs32 : w24.cell? ⟨gb440, 3, none⟩ = some (.int .i64 0) := (zG BK440.out 3).trans rfl
  have hfs32 := zJ BK440.out 3; have hns32_0 := NB425_440.out; have hns32_1 := NB439_440.out; have hms32_0 := NB440_425.out; have hms32_1 := NB440_439.out; have hs33 : w24.cell? ⟨gb440, 4, none⟩ = some (.int .i64 0) := (zG BK440.out 4).trans rfl
  have hfs33 := zJ BK440.out 4; have hns33_0 := NB425_440.out; have hns33_1 := NB439_440.out; have hms33_0 := NB440_425.out; have hms33_1 := NB440_439.out; have hs34 : w24.cell? ⟨gb440, 5, none⟩ = some (.float .f64 0) := (zG BK440.out 5).trans rfl
  have hfs34 := zJ BK440.out 5; have hns34_0 := NB425_440.out; have hns34_1 := NB439_440.out; have hms34_0 := NB440_425.out; have hms34_1 := NB440_439.out; refine skip_ (w1 := ?_) (by rfl) rfl ?_ ?_
  rotate_left
  · go_simp
    rfl
  refine hK.out _ _ ⟨((cell_far (p := ⟨gb440, _, none⟩) NB425_440.out _).trans (((cell_far (p := ⟨gb440, _, none⟩) NB425_440.out _).trans (((cell_far (p := ⟨gb440, _, none⟩) NB425_440.out _).trans (((cell_far (p := ⟨gb440, _, none⟩) NB425_440.out _).trans (((cell_far (p := ⟨gb440, _, none⟩) NB425_440.out _).trans (((cell_far (p := ⟨gb440, _, none⟩) NB425_440.out _).trans (hHeld.1)))))))))))), ((cell_far (p := ⟨gb440, _, none⟩) NB425_440.out _).trans (((cell_far (p := ⟨gb440, _, none⟩) NB425_440.out _).trans (((cell_far (p := ⟨gb440, _, none⟩) NB425_440.out _).trans (((cell_far (p := ⟨gb440, _, none⟩) NB425_440.out _).trans (((cell_far (p := ⟨gb440, _, none⟩) NB425_440.out _).trans (((cell_far (p := ⟨gb440, _, none⟩) NB425_440.out _).trans (hHeld.2.1)))))))))))), ((cell_far (p := ⟨gb440, _, none⟩) NB425_440.out _).trans (((cell_far (p := ⟨gb440, _, none⟩) NB425_440.out _).trans (((cell_far (p := ⟨gb440, _, none⟩) NB425_440.out _).trans (((cell_far (p := ⟨gb440, _, none⟩) NB425_440.out _).trans (((cell_far (p := ⟨gb440, _, none⟩) NB425_440.out _).trans (((cell_far (p := ⟨gb440, _, none⟩) NB425_440.out _).trans (hHeld.2.2.1)))))))))))), ((cell_far (p := ⟨gb440, _, none⟩) NB425_440.out _).trans (((cell_far (p := ⟨gb440, _, none⟩) NB425_440.out _).trans (((cell_far (p := ⟨gb440, _, none⟩) NB425_440.out _).trans (((cell_far (p := ⟨gb440, _, none⟩) NB425_440.out _).trans (((cell_far (p := ⟨gb440, _, none⟩) NB425_440.out _).trans (((cell_far (p := ⟨gb440, _, none⟩) NB425_440.out _).trans (hHeld.2.2.2.1)))))))))))), ((cell_far (p := ⟨gb440, _, none⟩) NB425_440.out _).trans (((cell_far (p := ⟨gb440, _, none⟩) NB425_440.out _).trans (((cell_far (p := ⟨gb440, _, none⟩) NB425_440.out _).trans (((cell_far (p := ⟨gb440, _, none⟩) NB425_440.out _).trans (((cell_far (p := ⟨gb440, _, none⟩) NB425_440.out _).trans (((cell_far (p := ⟨gb440, _, none⟩) NB425_440.out _).trans (hHeld.2.2.2.2.1)))))))))))), ((cell_far (p := ⟨gb440, _, none⟩) NB425_440.out _).trans (((cell_far (p := ⟨gb440, _, none⟩) NB425_440.out _).trans (((cell_far (p := ⟨gb440, _, none⟩) NB425_440.out _).trans (((cell_far (p := ⟨gb440, _, none⟩) NB425_440.out _).trans (((cell_far (p := ⟨gb440, _, none⟩) NB425_440.out _).trans (((cell_far (p := ⟨gb440, _, none⟩) NB425_440.out _).trans (hHeld.2.2.2.2.2))))))))))))⟩ (fun hHeld => ?_)
  clear hK K; refine done_ (done_of HT_.out (by kernel_rfl)) ?_
  have hnb35 := NB439_425.out; have hnc35 := NB425_439.out; have hnb36 := NB439_440.out; have hnc36 := NB440_439.out; have hcz37_0 : w24.cell? ⟨gb439, 0, none⟩ = some (.slice none 0 0) := (zG BK439.out 0).trans rfl
  have hcz37_1 : w24.cell? ⟨gb439, 1, none⟩ = some (.slice none 0 0) := (zG BK439.out 1).trans rfl
  have hfz37_0 := zJ BK439.out 0; have hfz37_1 := zJ BK439.out 1; try go_wp2
  have n0_ : zA (Kd.R k62 62 ((((((((w24.setCell ⟨gb439, 0, none⟩ (.slice Ao25 t427.length co25)).setCell ⟨gb439, 1, none⟩ (.slice Ao27 t430.length co27)).setCell ⟨gb440, 0, none⟩ (.int .i64 t433)).setCell ⟨gb440, 1, none⟩ (.int .i64 t434)).setCell ⟨gb440, 2, none⟩ (.int .u8 t435)).setCell ⟨gb440, 3, none⟩ (.int .i64 t436)).setCell ⟨gb440, 4, none⟩ (.int .i64 t437)).setCell ⟨gb440, 5, none⟩ (.float .f64 t438)) w.heap.size (fun _ => True) (.slice Ao25 t427.length co25) t427) := ⟨by (with_reducible repeat (first | apply Kd.R_alloc | apply Kd.R_drewN | apply Kd.R_drew)); exact Kd.R_mono (Kd.R_far (p := ⟨gb440, 5, none⟩) (Kd.R_far (p := ⟨gb440, 4, none⟩) (Kd.R_far (p := ⟨gb440, 3, none⟩) (Kd.R_far (p := ⟨gb440, 2, none⟩) (Kd.R_far (p := ⟨gb440, 1, none⟩) (Kd.R_far (p := ⟨gb440, 0, none⟩) (Kd.R_far (p := ⟨gb439, 1, none⟩) (Kd.R_far (p := ⟨gb439, 0, none⟩) (Kd.R_types (Kd.R_types HO429.out BK439.out (by decide)) BK440.out (by decide)) (fun _ hk => hk.1.2) (.slice Ao25 t427.length co25)) (fun _ hk => hk.1.2) (.slice Ao27 t430.length co27)) (fun _ hk => hk.2) (.int .i64 t433)) (fun _ hk => hk.2) (.int .i64 t434)) (fun _ hk => hk.2) (.int .u8 t435)) (fun _ hk => hk.2) (.int .i64 t436)) (fun _ hk => hk.2) (.int .i64 t437)) (fun _ hk => hk.2) (.float .f64 t438)) (fun _ hk => trivial)⟩
  have n1_ : zA (Kd.R (Kd.int .u8) 46 ((((((((w24.setCell ⟨gb439, 0, none⟩ (.slice Ao25 t427.length co25)).setCell ⟨gb439, 1, none⟩ (.slice Ao27 t430.length co27)).setCell ⟨gb440, 0, none⟩ (.int .i64 t433)).setCell ⟨gb440, 1, none⟩ (.int .i64 t434)).setCell ⟨gb440, 2, none⟩ (.int .u8 t435)).setCell ⟨gb440, 3, none⟩ (.int .i64 t436)).setCell ⟨gb440, 4, none⟩ (.int .i64 t437)).setCell ⟨gb440, 5, none⟩ (.float .f64 t438)) w.heap.size (fun _ => True) (.slice Ao27 t430.length co27) t430) := ⟨by (with_reducible repeat (first | apply Kd.R_alloc | apply Kd.R_drewN | apply Kd.R_drew)); exact Kd.R_mono (Kd.R_far (p := ⟨gb440, 5, none⟩) (Kd.R_far (p := ⟨gb440, 4, none⟩) (Kd.R_far (p := ⟨gb440, 3, none⟩) (Kd.R_far (p := ⟨gb440, 2, none⟩) (Kd.R_far (p := ⟨gb440, 1, none⟩) (Kd.R_far (p := ⟨gb440, 0, none⟩) (Kd.R_far (p := ⟨gb439, 1, none⟩) (Kd.R_far (p := ⟨gb439, 0, none⟩) (Kd.R_types (Kd.R_types HO432.out BK439.out (by decide)) BK440.out (by decide)) (fun _ hk => hk.1.2) (.slice Ao25 t427.length co25)) (fun _ hk => hk.1.2) (.slice Ao27 t430.length co27)) (fun _ hk => hk.2) (.int .i64 t433)) (fun _ hk => hk.2) (.int .i64 t434)) (fun _ hk => hk.2) (.int .u8 t435)) (fun _ hk => hk.2) (.int .i64 t436)) (fun _ hk => hk.2) (.int .i64 t437)) (fun _ hk => hk.2) (.float .f64 t438)) (fun _ hk => trivial)⟩
  have n2_ : zA (((((((((w24.setCell ⟨gb439, 0, none⟩ (.slice Ao25 t427.length co25)).setCell ⟨gb439, 1, none⟩ (.slice Ao27 t430.length co27)).setCell ⟨gb440, 0, none⟩ (.int .i64 t433)).setCell ⟨gb440, 1, none⟩ (.int .i64 t434)).setCell ⟨gb440, 2, none⟩ (.int .u8 t435)).setCell ⟨gb440, 3, none⟩ (.int .i64 t436)).setCell ⟨gb440, 4, none⟩ (.int .i64 t437)).setCell ⟨gb440, 5, none⟩ (.float .f64 t438)).heap[gb425]? = some (.cells #[.int .u8 a1_0, .int .u8 a1_1, .int .u8 a1_2, .int .u16 a1_3, .int .u16 a1_4, .float .f64 a1_5] 26 (0, 0))) := ⟨by (with_reducible repeat (first | refine zC ?_ _ | refine zD ?_ | refine zB ?_ _)); refine blk_far ?_ NB425_440.out _; (with_reducible repeat (first | refine zC ?_ _ | refine zD ?_ | refine zB ?_ _)); refine blk_far ?_ NB425_440.out _; (with_reducible repeat (first | refine zC ?_ _ | refine zD ?_ | refine zB ?_ _)); refine blk_far ?_ NB425_440.out _; (with_reducible repeat (first | refine zC ?_ _ | refine zD ?_ | refine zB ?_ _)); refine blk_far ?_ NB425_440.out _; (with_reducible repeat (first | refine zC ?_ _ | refine zD ?_ | refine zB ?_ _)); refine blk_far ?_ NB425_440.out _; (with_reducible repeat (first | refine zC ?_ _ | refine zD ?_ | refine zB ?_ _)); refine blk_far ?_ NB425_440.out _; (with_reducible repeat (first | refine zC ?_ _ | refine zD ?_ | refine zB ?_ _)); refine blk_far ?_ NB425_439.out _; (with_reducible repeat (first | refine zC ?_ _ | refine zD ?_ | refine zB ?_ _)); refine blk_far ?_ NB425_439.out _; (with_reducible repeat (first | refine zC ?_ _ | refine zD ?_ | refine zB ?_ _)); exact BK425.out⟩
  have n3_ : zA (((((((((w24.setCell ⟨gb439, 0, none⟩ (.slice Ao25 t427.length co25)).setCell ⟨gb439, 1, none⟩ (.slice Ao27 t430.length co27)).setCell ⟨gb440, 0, none⟩ (.int .i64 t433)).setCell ⟨gb440, 1, none⟩ (.int .i64 t434)).setCell ⟨gb440, 2, none⟩ (.int .u8 t435)).setCell ⟨gb440, 3, none⟩ (.int .i64 t436)).setCell ⟨gb440, 4, none⟩ (.int .i64 t437)).setCell ⟨gb440, 5, none⟩ (.float .f64 t438)).heap[gb439]? = some (.cells #[.slice Ao25 t427.length co25, .slice Ao27 t430.length co27] 31 (0, 0))) := ⟨by (with_reducible repeat (first | refine zC ?_ _ | refine zD ?_ | refine zB ?_ _)); refine blk_far ?_ NB439_440.out _; (with_reducible repeat (first | refine zC ?_ _ | refine zD ?_ | refine zB ?_ _)); refine blk_far ?_ NB439_440.out _; (with_reducible repeat (first | refine zC ?_ _ | refine zD ?_ | refine zB ?_ _)); refine blk_far ?_ NB439_440.out _; (with_reducible repeat (first | refine zC ?_ _ | refine zD ?_ | refine zB ?_ _)); refine blk_far ?_ NB439_440.out _; (with_reducible repeat (first | refine zC ?_ _ | refine zD ?_ | refine zB ?_ _)); refine blk_far ?_ NB439_440.out _; (with_reducible repeat (first | refine zC ?_ _ | refine zD ?_ | refine zB ?_ _)); refine blk_far ?_ NB439_440.out _; (with_reducible repeat (first | refine zC ?_ _ | refine zD ?_ | refine zB ?_ _)); refine blk_put (cs := #[.slice Ao25 t427.length co25, .slice none 0 0]) ?_ 1 _ rfl; (with_reducible repeat (first | refine zC ?_ _ | refine zD ?_ | refine zB ?_ _)); refine blk_put (cs := #[.slice none 0 0, .slice none 0 0]) ?_ 0 _ rfl; (with_reducible repeat (first | refine zC ?_ _ | refine zD ?_ | refine zB ?_ _)); exact BK439.out⟩
  have n4_ : zA (((((((((w24.setCell ⟨gb439, 0, none⟩ (.slice Ao25 t427.length co25)).setCell ⟨gb439, 1, none⟩ (.slice Ao27 t430.length co27)).setCell ⟨gb440, 0, none⟩ (.int .i64 t433)).setCell ⟨gb440, 1, none⟩ (.int .i64 t434)).setCell ⟨gb440, 2, none⟩ (.int .u8 t435)).setCell ⟨gb440, 3, none⟩ (.int .i64 t436)).setCell ⟨gb440, 4, none⟩ (.int .i64 t437)).setCell ⟨gb440, 5, none⟩ (.float .f64 t438)).heap[gb440]? = some (.cells #[.int .i64 t433, .int .i64 t434, .int .u8 t435, .int .i64 t436, .int .i64 t437, .float .f64 t438] 35 (0, 0))) := ⟨by (with_reducible repeat (first | refine zC ?_ _ | refine zD ?_ | refine zB ?_ _)); refine blk_put (cs := #[.int .i64 t433, .int .i64 t434, .int .u8 t435, .int .i64 t436, .int .i64 t437, .float .f64 0]) ?_ 5 _ rfl; (with_reducible repeat (first | refine zC ?_ _ | refine zD ?_ | refine zB ?_ _)); refine blk_put (cs := #[.int .i64 t433, .int .i64 t434, .int .u8 t435, .int .i64 t436, .int .i64 0, .float .f64 0]) ?_ 4 _ rfl; (with_reducible repeat (first | refine zC ?_ _ | refine zD ?_ | refine zB ?_ _)); refine blk_put (cs := #[.int .i64 t433, .int .i64 t434, .int .u8 t435, .int .i64 0, .int .i64 0, .float .f64 0]) ?_ 3 _ rfl; (with_reducible repeat (first | refine zC ?_ _ | refine zD ?_ | refine zB ?_ _)); refine blk_put (cs := #[.int .i64 t433, .int .i64 t434, .int .u8 0, .int .i64 0, .int .i64 0, .float .f64 0]) ?_ 2 _ rfl; (with_reducible repeat (first | refine zC ?_ _ | refine zD ?_ | refine zB ?_ _)); refine blk_put (cs := #[.int .i64 t433, .int .i64 0, .int .u8 0, .int .i64 0, .int .i64 0, .float .f64 0]) ?_ 1 _ rfl; (with_reducible repeat (first | refine zC ?_ _ | refine zD ?_ | refine zB ?_ _)); refine blk_put (cs := #[.int .i64 0, .int .i64 0, .int .u8 0, .int .i64 0, .int .i64 0, .float .f64 0]) ?_ 0 _ rfl; (with_reducible repeat (first | refine zC ?_ _ | refine zD ?_ | refine zB ?_ _)); refine blk_far ?_ NB440_439.out _; (with_reducible repeat (first | refine zC ?_ _ | refine zD ?_ | refine zB ?_ _)); refine blk_far ?_ NB440_439.out _; (with_reducible repeat (first | refine zC ?_ _ | refine zD ?_ | refine zB ?_ _)); exact BK440.out⟩
  have n5_ : zA (Below w.heap.size w ((((((((w24.setCell ⟨gb439, 0, none⟩ (.slice Ao25 t427.length co25)).setCell ⟨gb439, 1, none⟩ (.slice Ao27 t430.length co27)).setCell ⟨gb440, 0, none⟩ (.int .i64 t433)).setCell ⟨gb440, 1, none⟩ (.int .i64 t434)).setCell ⟨gb440, 2, none⟩ (.int .u8 t435)).setCell ⟨gb440, 3, none⟩ (.int .i64 t436)).setCell ⟨gb440, 4, none⟩ (.int .i64 t437)).setCell ⟨gb440, 5, none⟩ (.float .f64 t438))) := ⟨by repeat (first | (with_reducible first | exact HB.out | apply zI | apply zF | apply zH | refine zE ?_ GE425.out | refine zE ?_ GE439.out | refine zE ?_ GE440.out) | exact HB.out)⟩
  (try clear HO429)
  (try clear HO432)
  (try clear BK425)
  (try clear BK439)
  (try clear BK440)
  (try clear HB)
  generalize ((((((((w24.setCell ⟨gb439, 0, none⟩ (.slice Ao25 t427.length co25)).setCell ⟨gb439, 1, none⟩ (.slice Ao27 t430.length co27)).setCell ⟨gb440, 0, none⟩ (.int .i64 t433)).setCell ⟨gb440, 1, none⟩ (.int .i64 t434)).setCell ⟨gb440, 2, none⟩ (.int .u8 t435)).setCell ⟨gb440, 3, none⟩ (.int .i64 t436)).setCell ⟨gb440, 4, none⟩ (.int .i64 t437)).setCell ⟨gb440, 5, none⟩ (.float .f64 t438)) = w38 at n0_ n1_ n2_ n3_ n4_ n5_ ⊢
  have HO429 := n0_; have HO432 := n1_; have BK425 := n2_; have BK439 := n3_; have BK440 := n4_; have HB := n5_; clear n0_ n1_ n2_ n3_ n4_ n5_; have n0_ := zA.mk (Kd.R_drew HO429.out); have n1_ := zA.mk (Kd.R_drew HO432.out); have n2_ := zA.mk (zD BK425.out); have n3_ := zA.mk (zD BK439.out); have n4_ := zA.mk (zD BK440.out); have n5_ := zA.mk (zH HB.out); clear HO429; clear HO432; clear BK425; clear BK439; clear BK440; clear HB; have HO429 := n0_; have HO432 := n1_; have BK425 := n2_; have BK439 := n3_; have BK440 := n4_; have HB := n5_; clear n0_ n1_ n2_ n3_ n4_ n5_; refine start_ (n := 14) (S := fun w' => True) (ds := []) #[false, false, false, false, false, false, false, false, false, false, false, false, false, false] (by kernel_rfl) rfl rfl trivial (fun hHeld => ?_); refine with_tabW stanzalaw15_BestCosts.tab7 stanzalaw15_BestCosts.bits7 (fun HT_ HW_ => ?_)
  generalize w38.drew = w39 at HO429 HO432 BK425 BK439 BK440 HB hHeld ⊢
  refine pure_ (i := 0) (N := some 33) (v := ?_) (a' := ?_) (tf_ 1 14) rfl rfl (any_of HT_.out (by kernel_rfl)) (fun _ _ _ h => h) (Or.inl ⟨by rfl, ?_⟩) ?_ ?_
  rotate_left
  · intro w'
    go_simp
    with_reducible rfl
  rotate_left
  · simp only [Act.put, sA_, sB_, sC_, i64_w, i32_w]
    rfl
  refine pure_ (i := 1) (N := some 34) (v := ?_) (a' := ?_) (tf_ 2 14) rfl rfl (any_of HT_.out (by kernel_rfl)) (fun _ _ _ h => h) (Or.inl ⟨by rfl, ?_⟩) ?_ ?_
  rotate_left
  · intro w'
    go_simp
    with_reducible rfl
  rotate_left
  · simp only [Act.put, sA_, sB_, sC_, i64_w, i32_w]
    rfl
  refine pure_ (i := 2) (N := some 35) (v := ?_) (a' := ?_) (tf_ 3 14) rfl rfl (any_of HT_.out (by kernel_rfl)) (fun _ _ _ h => h) (Or.inl ⟨by rfl, ?_⟩) ?_ ?_
  rotate_left
  · intro w'
    go_simp
    with_reducible rfl
  rotate_left
  · simp only [Act.put, sA_, sB_, sC_, i64_w, i32_w]
    rfl
  refine pure_ (i := 3) (N := some 36) (v := ?_) (a' := ?_) (tf_ 4 14) rfl rfl (any_of HT_.out (by kernel_rfl)) (fun _ _ _ h => h) (Or.inl ⟨by rfl, ?_⟩) ?_ ?_
  rotate_left
  · intro w'
    go_simp
    with_reducible rfl
  rotate_left
  · simp only [Act.put, sA_, sB_, sC_, i64_w, i32_w]
    rfl
  refine pure_ (i := 4) (N := some 37) (v := ?_) (a' := ?_) (tf_ 5 14) rfl rfl (any_of HT_.out (by kernel_rfl)) (fun _ _ _ h => h) (Or.inl ⟨by rfl, ?_⟩) ?_ ?_
  rotate_left
  · intro w'
    go_simp
    with_reducible rfl
  rotate_left
  · simp only [Act.put, sA_, sB_, sC_, i64_w, i32_w]
    rfl
  refine pure_ (i := 5) (N := some 38) (v := ?_) (a' := ?_) (tf_ 6 14) rfl rfl (any_of HT_.out (by kernel_rfl)) (fun _ _ _ h => h) (Or.inl ⟨by rfl, ?_⟩) ?_ ?_
  rotate_left
  · intro w'
    go_simp
    with_reducible rfl
  rotate_left
  · simp only [Act.put, sA_, sB_, sC_, i64_w, i32_w]
    rfl
  refine pure_ (i := 6) (N := some 39) (v := ?_) (a' := ?_) (tf_ 7 14) rfl rfl (any_of HT_.out (by kernel_rfl)) (fun _ _ _ h => h) (Or.inl ⟨by rfl, ?_⟩) ?_ ?_
  rotate_left
  · intro w'
    go_simp
    with_reducible rfl
  rotate_left
  · simp only [Act.put, sA_, sB_, sC_, i64_w, i32_w]
    rfl
  refine pure_ (i := 7) (N := some 40) (v := ?_) (a' := ?_) (tf_ 8 14) rfl rfl (any_of HT_.out (by kernel_rfl)) (fun _ _ _ h => h) (Or.inl ⟨by rfl, ?_⟩) ?_ ?_
  rotate_left
  · intro w'
    go_simp
    with_reducible rfl
  rotate_left
  · simp only [Act.put, sA_, sB_, sC_, i64_w, i32_w]
    rfl
  refine pure_ (i := 8) (N := some 41) (v := ?_) (a' := ?_) (tf_ 9 14) rfl rfl (any_of HT_.out (by kernel_rfl)) (fun _ _ _ h => h) (Or.inl ⟨by rfl, ?_⟩) ?_ ?_
  rotate_left
  · intro w'
    go_simp
    with_reducible rfl
  rotate_left
  · simp only [Act.put, sA_, sB_, sC_, i64_w, i32_w]
    rfl
  refine pure_ (i := 9) (N := some 42) (v := ?_) (a' := ?_) (tf_ 10 14) rfl rfl (any_of HT_.out (by kernel_rfl)) (fun _ _ _ h => h) (Or.inl ⟨by rfl, ?_⟩) ?_ ?_
  rotate_left
  · intro w'
    go_simp
    with_reducible rfl
  rotate_left
  · simp only [Act.put, sA_, sB_, sC_, i64_w, i32_w]
    rfl
  refine pure_ (i := 10) (N := some 43) (v := ?_) (a' := ?_) (tf_ 11 14) rfl rfl (any_of HT_.out (by kernel_rfl)) (fun _ _ _ h => h) (Or.inl ⟨by rfl, ?_⟩) ?_ ?_
  rotate_left
  · intro w'
    go_simp
    with_reducible rfl
  rotate_left
  · simp only [Act.put, sA_, sB_, sC_, i64_w, i32_w]
    rfl
  refine pure_ (i := 11) (N := some 44) (v := ?_) (a' := ?_) (tf_ 12 14) rfl rfl (any_of HT_.out (by kernel_rfl)) (fun _ _ _ h => h) (Or.inl ⟨by rfl, ?_⟩) ?_ ?_
  rotate_left
  · intro w'
    go_simp
    with_reducible rfl
  rotate_left
  · simp only [Act.put, sA_, sB_, sC_, i64_w, i32_w]
    rfl
  refine pure_ (i := 12) (N := some 14) (v := ?_) (a' := ?_) (tf_ 13 14) rfl rfl (any_of HT_.out (by kernel_rfl)) (fun _ _ _ h => h) (Or.inl ⟨by rfl, ?_⟩) ?_ ?_
  rotate_left
  · intro w'
    go_simp
    with_reducible rfl
  rotate_left
  · simp only [Act.put, sA_, sB_, sC_, i64_w, i32_w]
    rfl
  refine pure_ (i := 13) (N := some 15) (v := ?_) (a' := ?_) #[true, true, true, true, true, true, true, true, true, true, true, true, true, true] rfl rfl (any_of HT_.out (by kernel_rfl)) (fun _ _ _ h => h) (Or.inl ⟨by rfl, ?_⟩) ?_ ?_
  rotate_left
  · intro w'
    go_simp
    with_reducible rfl
  rotate_left
  · simp only [Act.put, sA_, sB_, sC_, i64_w, i32_w]
    rfl
  refine done_ (done_of HT_.out (by kernel_rfl)) ?_
  have hcz40_0 : w39.cell? ⟨gb439, 0, none⟩ = some (.slice Ao25 t427.length co25) := (zG BK439.out 0).trans rfl
  have hcz40_1 : w39.cell? ⟨gb439, 1, none⟩ = some (.slice Ao27 t430.length co27) := (zG BK439.out 1).trans rfl
  have hfz40_0 := zJ BK439.out 0; have hfz40_1 := zJ BK439.out 1; have hnb41 := NB440_425.out; have hnc41 := NB425_440.out; have hcz42_0 : w39.cell? ⟨gb440, 0, none⟩ = some (.int .i64 t433) := (zG BK440.out 0).trans rfl
  have hcz42_1 : w39.cell? ⟨gb440, 1, none⟩ = some (.int .i64 t434) := (zG BK440.out 1).trans rfl
  have hcz42_2 : w39.cell? ⟨gb440, 2, none⟩ = some (.int .u8 t435) := (zG BK440.out 2).trans rfl
  have hcz42_3 : w39.cell? ⟨gb440, 3, none⟩ = some (.int .i64 t436) := (zG BK440.out 3).trans rfl
  have hcz42_4 : w39.cell? ⟨gb440, 4, none⟩ = some (.int .i64 t437) := (zG BK440.out 4).trans rfl
  have hcz42_5 : w39.cell? ⟨gb440, 5, none⟩ = some (.float .f64 t438) := (zG BK440.out 5).trans rfl
  have hfz42_0 := zJ BK440.out 0; have hfz42_1 := zJ BK440.out 1; have hfz42_2 := zJ BK440.out 2; have hfz42_3 := zJ BK440.out 3; have hfz42_4 := zJ BK440.out 4; have hfz42_5 := zJ BK440.out 5; try go_wp2_with (first | ((with_reducible refine gate_callee (f := 19) rfl ?_); refine goesL_ (some 51) rfl rfl Try.func19 (by kernel_rfl) rfl #[.agg #[.slice Ao25 t427.length co25, .slice Ao27 t430.length co27], .int .i64 (wrap64 (Int.tmod (IntKind.u64.wrap (a2)) (IntKind.u64.wrap (wrap64 ((t427.length : Int) + 1))))), .int .i64 (wrap64 (Int.tmod (IntKind.u64.wrap (a3)) (IntKind.u64.wrap (wrap64 ((t427.length : Int) + 1))))), .bool a4, .agg #[.int .i64 t433, .int .i64 t434, .int .u8 t435, .int .i64 t436, .int .i64 t437, .float .f64 t438]] rfl (by (try simp only [List.map_toArray, List.map_cons, List.map_nil]); first | done | rfl | (simp only [List.length_drop, List.length_take]; rfl)) ?_; (with_reducible refine (best_Cost.calls k _ _ t427 _ _ t430 (wrap64 (Int.tmod (IntKind.u64.wrap (a2)) (IntKind.u64.wrap (wrap64 ((t427.length : Int) + 1))))) (wrap64 (Int.tmod (IntKind.u64.wrap (a3)) (IntKind.u64.wrap (wrap64 ((t427.length : Int) + 1))))) a4 t433 t434 t435 t436 t437 t438 t441 t442 _ ?side1 ?side2 ?side3 ?side4 A14.out).mono ?_); (case side1 => repeat (first | exact (Kd.R_reads' HO429.out).2.2 | (with_reducible refine Kd.C_alloc ?_ _) | (with_reducible refine Kd.C_drewN ?_ _) | (with_reducible refine Kd.C_drew ?_))); (case side2 => exact (Kd.R_reads' HO429.out).2.1); (case side3 => repeat (first | exact (Kd.R_reads' HO432.out).2.2 | (with_reducible refine Kd.C_alloc ?_ _) | (with_reducible refine Kd.C_drewN ?_ _) | (with_reducible refine Kd.C_drew ?_))); (case side4 => exact (Kd.R_reads' HO432.out).2.1); rintro e w43 ⟨rfl, hb⟩; refine ⟨_, rfl, ?_⟩; have n0_ := zA.mk (Kd.R_below (by (with_reducible repeat (first | apply Kd.R_alloc | apply Kd.R_drewN | apply Kd.R_drew)); exact HO429.out) hb); have n1_ := zA.mk (Kd.R_below (by (with_reducible repeat (first | apply Kd.R_alloc | apply Kd.R_drewN | apply Kd.R_drew)); exact HO432.out) hb); have n2_ := zA.mk (zK (g := gb425) (o := .cells #[.int .u8 a1_0, .int .u8 a1_1, .int .u8 a1_2, .int .u16 a1_3, .int .u16 a1_4, .float .f64 a1_5] 26 (0, 0)) (by (with_reducible repeat (first | refine zC ?_ _ | refine zD ?_ | refine zB ?_ _)); exact BK425.out) hb); have n3_ := zA.mk (zK (g := gb439) (o := .cells #[.slice Ao25 t427.length co25, .slice Ao27 t430.length co27] 31 (0, 0)) (by (with_reducible repeat (first | refine zC ?_ _ | refine zD ?_ | refine zB ?_ _)); exact BK439.out) hb); have n4_ := zA.mk (zK (g := gb440) (o := .cells #[.int .i64 t433, .int .i64 t434, .int .u8 t435, .int .i64 t436, .int .i64 t437, .float .f64 t438] 35 (0, 0)) (by (with_reducible repeat (first | refine zC ?_ _ | refine zD ?_ | refine zB ?_ _)); exact BK440.out) hb); have n5_ := zA.mk (zM (by repeat (first | (with_reducible first | exact HB.out | apply zI | apply zF | apply zH | refine zE ?_ GE425.out | refine zE ?_ GE439.out | refine zE ?_ GE440.out) | exact HB.out)) hb); clear HO429; clear HO432; clear BK425; clear BK439; clear BK440; clear HB; have HO429 := n0_; have HO432 := n1_; have BK425 := n2_; have BK439 := n3_; have BK440 := n4_; have HB := n5_; clear n0_ n1_ n2_ n3_ n4_ n5_; (try clear hb); (try clear hb2); (try clear hk); (try clear hi); have hcz44_0 : w43.cell? ⟨gb439, 0, none⟩ = some (.slice Ao25 t427.length co25) := (zG BK439.out 0).trans rfl; have hcz44_1 : w43.cell? ⟨gb439, 1, none⟩ = some (.slice Ao27 t430.length co27) := (zG BK439.out 1).trans rfl; have hfz44_0 := zJ BK439.out 0; have hfz44_1 := zJ BK439.out 1; have hcz45_0 : w43.cell? ⟨gb440, 0, none⟩ = some (.int .i64 t433) := (zG BK440.out 0).trans rfl; have hcz45_1 : w43.cell? ⟨gb440, 1, none⟩ = some (.int .i64 t434) := (zG BK440.out 1).trans rfl; have hcz45_2 : w43.cell? ⟨gb440, 2, none⟩ = some (.int .u8 t435) := (zG BK440.out 2).trans rfl; have hcz45_3 : w43.cell? ⟨gb440, 3, none⟩ = some (.int .i64 t436) := (zG BK440.out 3).trans rfl; have hcz45_4 : w43.cell? ⟨gb440, 4, none⟩ = some (.int .i64 t437) := (zG BK440.out 4).trans rfl; have hcz45_5 : w43.cell? ⟨gb440, 5, none⟩ = some (.float .f64 t438) := (zG BK440.out 5).trans rfl; have hfz45_0 := zJ BK440.out 0; have hfz45_1 := zJ BK440.out 1; have hfz45_2 := zJ BK440.out 2; have hfz45_3 := zJ BK440.out 3; have hfz45_4 := zJ BK440.out 4; have hfz45_5 := zJ BK440.out 5) | ((with_reducible refine gate_callee (f := 20) rfl ?_); refine goesL_ (some 60) rfl rfl Try.func20 (by kernel_rfl) rfl #[.agg #[.slice Ao25 t427.length co25, .slice Ao27 t430.length co27], .int .i64 (wrap64 (Int.tmod (IntKind.u64.wrap (a2)) (IntKind.u64.wrap (wrap64 ((t427.length : Int) + 1))))), .int .i64 (wrap64 (Int.tmod (IntKind.u64.wrap (a3)) (IntKind.u64.wrap (wrap64 ((t427.length : Int) + 1))))), .bool a4, .agg #[.int .i64 t433, .int .i64 t434, .int .u8 t435, .int .i64 t436, .int .i64 t437, .float .f64 t438]] rfl (by (try simp only [List.map_toArray, List.map_cons, List.map_nil]); first | done | rfl | (simp only [List.length_drop, List.length_take]; rfl)) ?_; (with_reducible refine (stanzaref13_Cost.calls k _ _ t427 _ _ t430 (wrap64 (Int.tmod (IntKind.u64.wrap (a2)) (IntKind.u64.wrap (wrap64 ((t427.length : Int) + 1))))) (wrap64 (Int.tmod (IntKind.u64.wrap (a3)) (IntKind.u64.wrap (wrap64 ((t427.length : Int) + 1))))) a4 t433 t434 t435 t436 t437 t438 t443 t444 _ ?side1 ?side2 ?side3 ?side4 A15.out).mono ?_); (case side1 => repeat (first | exact (Kd.R_reads' HO429.out).2.2 | (with_reducible refine Kd.C_alloc ?_ _) | (with_reducible refine Kd.C_drewN ?_ _) | (with_reducible refine Kd.C_drew ?_))); (case side2 => exact (Kd.R_reads' HO429.out).2.1); (case side3 => repeat (first | exact (Kd.R_reads' HO432.out).2.2 | (with_reducible refine Kd.C_alloc ?_ _) | (with_reducible refine Kd.C_drewN ?_ _) | (with_reducible refine Kd.C_drew ?_))); (case side4 => exact (Kd.R_reads' HO432.out).2.1); rintro e w46 ⟨rfl, hb⟩; refine ⟨_, rfl, ?_⟩; have n0_ := zA.mk (Kd.R_below (by (with_reducible repeat (first | apply Kd.R_alloc | apply Kd.R_drewN | apply Kd.R_drew)); exact HO429.out) hb); have n1_ := zA.mk (Kd.R_below (by (with_reducible repeat (first | apply Kd.R_alloc | apply Kd.R_drewN | apply Kd.R_drew)); exact HO432.out) hb); have n2_ := zA.mk (zK (g := gb425) (o := .cells #[.int .u8 a1_0, .int .u8 a1_1, .int .u8 a1_2, .int .u16 a1_3, .int .u16 a1_4, .float .f64 a1_5] 26 (0, 0)) (by (with_reducible repeat (first | refine zC ?_ _ | refine zD ?_ | refine zB ?_ _)); exact BK425.out) hb); have n3_ := zA.mk (zK (g := gb439) (o := .cells #[.slice Ao25 t427.length co25, .slice Ao27 t430.length co27] 31 (0, 0)) (by (with_reducible repeat (first | refine zC ?_ _ | refine zD ?_ | refine zB ?_ _)); exact BK439.out) hb); have n4_ := zA.mk (zK (g := gb440) (o := .cells #[.int .i64 t433, .int .i64 t434, .int .u8 t435, .int .i64 t436, .int .i64 t437, .float .f64 t438] 35 (0, 0)) (by (with_reducible repeat (first | refine zC ?_ _ | refine zD ?_ | refine zB ?_ _)); exact BK440.out) hb); have n5_ := zA.mk (zM (by repeat (first | (with_reducible first | exact HB.out | apply zI | apply zF | apply zH | refine zE ?_ GE425.out | refine zE ?_ GE439.out | refine zE ?_ GE440.out) | exact HB.out)) hb); clear HO429; clear HO432; clear BK425; clear BK439; clear BK440; clear HB; have HO429 := n0_; have HO432 := n1_; have BK425 := n2_; have BK439 := n3_; have BK440 := n4_; have HB := n5_; clear n0_ n1_ n2_ n3_ n4_ n5_; (try clear hb); (try clear hb2); (try clear hk); (try clear hi)))
  go_ret
  exact ⟨by first | rfl | (simp [errW_none, errW_some] <;> rfl) | (simp [*, errW_none, errW_some] <;> rfl), by repeat (first | (with_reducible first | exact HB.out | apply zI | apply zF | apply zH | refine zE ?_ GE425.out | refine zE ?_ GE439.out | refine zE ?_ GE440.out) | exact HB.out)⟩
def stanzalaw15_BestCosts.Pure : Prop := ∀ (l0 : List (S45)) (a1_0 : Int) (a1_1 : Int) (a1_2 : Int) (a1_3 : Int) (a1_4 : Int) (a1_5 : Nat) (a2 : Int) (a3 : Int) (a4 : Bool), (l0.length * 4 ≤ 140737488351232 ∧ ∀ y0 ∈ l0, ((Lit.int .u8 y0.f0).wf = true ∧ ((Lit.int .u8 y0.f1).wf = true ∧ ((Lit.int .u8 y0.f2).wf = true ∧ (Lit.int .u8 y0.f3).wf = true)))) → ((Lit.int .u8 a1_0).wf = true ∧ ((Lit.int .u8 a1_1).wf = true ∧ ((Lit.int .u8 a1_2).wf = true ∧ ((Lit.int .u16 a1_3).wf = true ∧ ((Lit.int .u16 a1_4).wf = true ∧ (Lit.float .f64 a1_5).wf = true))))) → (Lit.int .i64 a2).wf = true → (Lit.int .i64 a3).wf = true → ∃ k, stanzalaw15_BestCosts.f k l0 a1_0 a1_1 a1_2 a1_3 a1_4 a1_5 a2 a3 a4 = some true
end Go.Proofs.Ytlgclhhkgohanaa.F
end
section
namespace Go.Proofs.Ytlgclhhkgohanaa.F
open Go.RowKit Go.Proofs.YtlgclhhkgohanaaW.PrintWords Go.Proofs.YtlgclhhkgohanaaW.PrintLast Go.Proofs.YtlgclhhkgohanaaW.PrintMore
attribute [local go_sem] max2_int min2_int max_two min_two max_three min_three max_four min_four   -- for this text's walks alone
set_option linter.unusedVariables false
set_option linter.unusedSimpArgs false
def stanzaref13_Line.f (k : Nat) (l0_0 : List (S62)) (l0_1 : List Int) (a1 : Int) (a2 : Int) (a3 : Int) (a4 : Int) : Option (Int × Int × Int × Int) := (stanzaref13_Cells.f k l0_0 l0_1 a1 a2 a3 a4).bind fun t271 => (some (a1, a2, t271, a3))
theorem stanzaref13_Line.mono : ∀ a0 a1 a2 a3 a4 a5 k, LeO (stanzaref13_Line.f k a0 a1 a2 a3 a4 a5) (stanzaref13_Line.f (k + 1) a0 a1 a2 a3 a4 a5) := by
  intro a0 a1 a2 a3 a4 a5 k
  unfold stanzaref13_Line.f
  repeat' first
      | (with_reducible exact stanzaref13_Cells.mono _ _ _ _ _ _ _)
      | (with_reducible exact LeO.refl _)
      | (with_reducible exact LeO.none _)
      | (with_reducible refine LeO.ite ?_ ?_)
      | (with_reducible refine LeO.bind ?_ (fun _ => ?_))
      | exact stanzaref13_Cells.mono _ _ _ _ _ _ _
      | exact LeO.none _
      | refine LeO.ite ?_ ?_
      | refine LeO.bind ?_ (fun _ => ?_)
set_option maxHeartbeats 8000000 in
set_option maxRecDepth 100000 in
theorem stanzaref13_Line.calls (k : Nat) (A0_0 : Option Addr) (c0_0 : Nat) (l0_0 : List (S62)) (A0_1 : Option Addr) (c0_1 : Nat) (l0_1 : List Int) (a1 : Int) (a2 : Int) (a3 : Int) (a4 : Int) (r1 : Int) (r2 : Int) (r3 : Int) (r4 : Int) (w : World) (hr0_0 : Kd.C k62 w A0_0 l0_0.length l0_0) (hc0_0 : l0_0.length ≤ c0_0) (hr0_1 : Kd.C (Kd.int .u8) w A0_1 l0_1.length l0_1) (hc0_1 : l0_1.length ≤ c0_1) (h : stanzaref13_Line.f k l0_0 l0_1 a1 a2 a3 a4 = some (r1, r2, r3, r4)) :
    Calls Try.prog 27 #[.agg #[.slice A0_0 l0_0.length c0_0, .slice A0_1 l0_1.length c0_1], .int .i64 a1, .int .i64 a2, .int .u8 a3, .int .i64 a4] w fun e w' => e = .returned (.agg #[.int .i64 r1, .int .i64 r2, .int .i64 r3, .int .u8 r4]) ∧ Below w.heap.size w w' := by
  have hu31 := Try.underlying31; have hu48 := Try.underlying48; have HR0_0 := zA.mk hr0_0; have HC0_0 := zA.mk hc0_0; clear hr0_0 hc0_0; have HR0_1 := zA.mk hr0_1; have HC0_1 := zA.mk hc0_1; clear hr0_1 hc0_1; have HB := zA.mk (Below.refl w.heap.size w); have H : ((stanzaref13_Cells.f k l0_0 l0_1 a1 a2 a3 a4).bind fun t271 => (some (a1, a2, t271, a3))) = some (r1, r2, r3, r4) := h
  clear h; replace H := Option.bind_eq_some_iff.mp H; obtain ⟨t271, A60, H⟩ := H; replace H : (some (a1, a2, t271, a3)) = some (r1, r2, r3, r4) := H; have A6 := zA.mk A60; clear A60; simp only [Option.some.injEq, Prod.mk.injEq] at H; obtain ⟨rfl, rfl, rfl, rfl⟩ := H; go_enter Try.func27, Try.ntmps27
  go_wp2_with (first | ((with_reducible refine gate_dst (N := 5) rfl ?_); refine box_event ?hg (N := 5) ?hd (cs := #[.slice A0_0 l0_0.length c0_0, .slice A0_1 l0_1.length c0_1]) (t := 31) ?hr ?_; (case hd => rfl); (case hg => rfl); (case hr => first | (go_simp; done) | (go_simp; rfl)); intro gb269 hg w7 hbox hb; have n0_ := zA.mk (zM (by repeat (first | (with_reducible first | exact HB.out | apply zI | apply zF | apply zH) | exact HB.out)) hb); have n1_ := zA.mk (hbox); have n2_ := zA.mk ((by rw [hg]; exact (zL (by repeat (first | (with_reducible first | exact HB.out | apply zI | apply zF | apply zH) | exact HB.out))) : w.heap.size ≤ gb269)); have n3_ := zA.mk ((by rw [hg]; exact (zL (by repeat (first | (with_reducible first | exact HB.out | apply zI | apply zF | apply zH) | exact HB.out))) : w.heap.size ≤ gb269)); clear HB; have HB := n0_; have BK269 := n1_; have GW269 := n2_; have GE269 := n3_; clear n0_ n1_ n2_ n3_; clear hb hbox hg) | ((with_reducible refine gate_dst (N := 10) rfl ?_); refine box_event ?hg (N := 10) ?hd (cs := #[.int .i64 0, .int .i64 0, .int .i64 0, .int .u8 0]) (t := 48) ?hr ?_; (case hd => rfl); (case hg => rfl); (case hr => first | (go_simp; done) | (go_simp; rfl)); intro gb270 hg w8 hbox hb; have n0_ := zA.mk (zK (g := gb269) (o := .cells #[.slice A0_0 l0_0.length c0_0, .slice A0_1 l0_1.length c0_1] 31 (0, 0)) (by (with_reducible repeat (first | refine zC ?_ _ | refine zD ?_ | refine zB ?_ _)); exact BK269.out) hb); have n1_ := zA.mk (zM (by repeat (first | (with_reducible first | exact HB.out | apply zI | apply zF | apply zH | refine zE ?_ GE269.out) | exact HB.out)) hb); have n2_ := zA.mk (hbox); have n3_ := zA.mk ((by rw [hg]; exact (zL (by repeat (first | (with_reducible first | exact HB.out | apply zI | apply zF | apply zH | refine zE ?_ GE269.out) | exact HB.out))) : w.heap.size ≤ gb270)); have n4_ := zA.mk ((by rw [hg]; exact (zL (by repeat (first | (with_reducible first | exact HB.out | apply zI | apply zF | apply zH | refine zE ?_ GE269.out) | exact HB.out))) : w.heap.size ≤ gb270)); have n5_ := zA.mk ((by rw [hg]; exact Nat.ne_of_lt (blk_lt (g := gb269) (o := .cells #[.slice A0_0 l0_0.length c0_0, .slice A0_1 l0_1.length c0_1] 31 (0, 0)) (by (with_reducible repeat (first | refine zC ?_ _ | refine zD ?_ | refine zB ?_ _)); exact BK269.out)) : gb269 ≠ gb270)); have n6_ := zA.mk ((by rw [hg]; exact Nat.ne_of_gt (blk_lt (g := gb269) (o := .cells #[.slice A0_0 l0_0.length c0_0, .slice A0_1 l0_1.length c0_1] 31 (0, 0)) (by (with_reducible repeat (first | refine zC ?_ _ | refine zD ?_ | refine zB ?_ _)); exact BK269.out)) : gb270 ≠ gb269)); clear BK269; clear HB; have BK269 := n0_; have HB := n1_; have BK270 := n2_; have GW270 := n3_; have GE270 := n4_; have NB269_270 := n5_; have NB270_269 := n6_; clear n0_ n1_ n2_ n3_ n4_ n5_ n6_; clear hb hbox hg; have hnb9 := NB269_270.out; have hnc9 := NB270_269.out; have hcz10_0 : w8.cell? ⟨gb269, 0, none⟩ = some (.slice A0_0 l0_0.length c0_0) := (zG BK269.out 0).trans rfl; have hcz10_1 : w8.cell? ⟨gb269, 1, none⟩ = some (.slice A0_1 l0_1.length c0_1) := (zG BK269.out 1).trans rfl; have hfz10_0 := zJ BK269.out 0; have hfz10_1 := zJ BK269.out 1) | ((with_reducible refine gate_callee (f := 18) rfl ?_); refine goesL_ (some 18) rfl rfl Try.func18 (by kernel_rfl) rfl #[.agg #[.slice A0_0 l0_0.length c0_0, .slice A0_1 l0_1.length c0_1], .int .i64 a1, .int .i64 a2, .int .u8 a3, .int .i64 a4] rfl (by (try simp only [List.map_toArray, List.map_cons, List.map_nil]); first | done | rfl | (simp only [List.length_drop, List.length_take]; rfl)) ?_; (with_reducible refine (stanzaref13_Cells.calls k _ _ l0_0 _ _ l0_1 a1 a2 a3 a4 t271 _ ?side1 ?side2 ?side3 ?side4 A6.out).mono ?_); (case side1 => repeat (first | exact (Kd.C_below HR0_0.out HB.out) | (with_reducible refine Kd.C_alloc ?_ _) | (with_reducible refine Kd.C_drewN ?_ _) | (with_reducible refine Kd.C_drew ?_))); (case side2 => exact HC0_0.out); (case side3 => repeat (first | exact (Kd.C_below HR0_1.out HB.out) | (with_reducible refine Kd.C_alloc ?_ _) | (with_reducible refine Kd.C_drewN ?_ _) | (with_reducible refine Kd.C_drew ?_))); (case side4 => exact HC0_1.out); rintro e w11 ⟨rfl, hb⟩; refine ⟨_, rfl, ?_⟩; have n0_ := zA.mk (zK (g := gb269) (o := .cells #[.slice A0_0 l0_0.length c0_0, .slice A0_1 l0_1.length c0_1] 31 (0, 0)) (by (with_reducible repeat (first | refine zC ?_ _ | refine zD ?_ | refine zB ?_ _)); exact BK269.out) hb); have n1_ := zA.mk (zK (g := gb270) (o := .cells #[.int .i64 0, .int .i64 0, .int .i64 0, .int .u8 0] 48 (0, 0)) (by (with_reducible repeat (first | refine zC ?_ _ | refine zD ?_ | refine zB ?_ _)); exact BK270.out) hb); have n2_ := zA.mk (zM (by repeat (first | (with_reducible first | exact HB.out | apply zI | apply zF | apply zH | refine zE ?_ GE269.out | refine zE ?_ GE270.out) | exact HB.out)) hb); clear BK269; clear BK270; clear HB; have BK269 := n0_; have BK270 := n1_; have HB := n2_; clear n0_ n1_ n2_; (try clear hb); (try clear hb2); (try clear hk); (try clear hi); have hcz12_0 : w11.cell? ⟨gb270, 0, none⟩ = some (.int .i64 0) := (zG BK270.out 0).trans rfl; have hcz12_1 : w11.cell? ⟨gb270, 1, none⟩ = some (.int .i64 0) := (zG BK270.out 1).trans rfl; have hcz12_2 : w11.cell? ⟨gb270, 2, none⟩ = some (.int .i64 0) := (zG BK270.out 2).trans rfl; have hcz12_3 : w11.cell? ⟨gb270, 3, none⟩ = some (.int .u8 0) := (zG BK270.out 3).trans rfl; have hfz12_0 := zJ BK270.out 0; have hfz12_1 := zJ BK270.out 1; have hfz12_2 := zJ BK270.out 2; have hfz12_3 := zJ BK270.out 3) | ((with_reducible refine gate_store (t := 48) (p := 10) rfl ?_); refine store_event (t := 48) (p := 10) (v := ?vo_w13) (w1 := ((((w11.setCell ⟨gb270, 0, none⟩ (.int .i64 a1)).setCell ⟨gb270, 1, none⟩ (.int .i64 a2)).setCell ⟨gb270, 2, none⟩ (.int .i64 t271)).setCell ⟨gb270, 3, none⟩ (.int .u8 a3))) ?hg ?ho ?hn ?hr ?_; (case ho => rfl); (case hg => rfl); (case hn => rfl); (case hr => first | (go_simp; done) | (go_simp; rfl)); intro w13 hw; have n0_ : zA (w13.heap[gb269]? = some (.cells #[.slice A0_0 l0_0.length c0_0, .slice A0_1 l0_1.length c0_1] 31 (0, 0))) := ⟨(by rw [hw]; exact (by (with_reducible repeat (first | refine zC ?_ _ | refine zD ?_ | refine zB ?_ _)); refine blk_far ?_ NB269_270.out _; (with_reducible repeat (first | refine zC ?_ _ | refine zD ?_ | refine zB ?_ _)); refine blk_far ?_ NB269_270.out _; (with_reducible repeat (first | refine zC ?_ _ | refine zD ?_ | refine zB ?_ _)); refine blk_far ?_ NB269_270.out _; (with_reducible repeat (first | refine zC ?_ _ | refine zD ?_ | refine zB ?_ _)); refine blk_far ?_ NB269_270.out _; (with_reducible repeat (first | refine zC ?_ _ | refine zD ?_ | refine zB ?_ _)); exact BK269.out))⟩; have n1_ : zA (w13.heap[gb270]? = some (.cells #[.int .i64 a1, .int .i64 a2, .int .i64 t271, .int .u8 a3] 48 (0, 0))) := ⟨(by rw [hw]; exact (by (with_reducible repeat (first | refine zC ?_ _ | refine zD ?_ | refine zB ?_ _)); refine blk_put (cs := #[.int .i64 a1, .int .i64 a2, .int .i64 t271, .int .u8 0]) ?_ 3 _ rfl; (with_reducible repeat (first | refine zC ?_ _ | refine zD ?_ | refine zB ?_ _)); refine blk_put (cs := #[.int .i64 a1, .int .i64 a2, .int .i64 0, .int .u8 0]) ?_ 2 _ rfl; (with_reducible repeat (first | refine zC ?_ _ | refine zD ?_ | refine zB ?_ _)); refine blk_put (cs := #[.int .i64 a1, .int .i64 0, .int .i64 0, .int .u8 0]) ?_ 1 _ rfl; (with_reducible repeat (first | refine zC ?_ _ | refine zD ?_ | refine zB ?_ _)); refine blk_put (cs := #[.int .i64 0, .int .i64 0, .int .i64 0, .int .u8 0]) ?_ 0 _ rfl; (with_reducible repeat (first | refine zC ?_ _ | refine zD ?_ | refine zB ?_ _)); exact BK270.out))⟩; have n2_ : zA (Below w.heap.size w w13) := ⟨(by rw [hw]; exact (by repeat (first | (with_reducible first | exact HB.out | apply zI | apply zF | apply zH | refine zE ?_ GE269.out | refine zE ?_ GE270.out) | exact HB.out)))⟩; clear hw; clear BK269; clear BK270; clear HB; have BK269 := n0_; have BK270 := n1_; have HB := n2_; clear n0_ n1_ n2_))
  refine bodyPost_ret (results_cell_row rfl _ _ gb270 48 #[.int .i64 a1, .int .i64 a2, .int .i64 t271, .int .u8 a3] (0, 0) _ rfl (by (with_reducible repeat (first | refine zC ?_ _ | refine zD ?_ | refine zB ?_ _)); exact BK270.out) Try.underlying48 rfl (by kernel_rfl)) rfl ?_
  exact ⟨by first | rfl | (simp [errW_none, errW_some] <;> rfl) | (simp [*, errW_none, errW_some] <;> rfl), by repeat (first | (with_reducible first | exact HB.out | apply zI | apply zF | apply zH | refine zE ?_ GE269.out | refine zE ?_ GE270.out) | exact HB.out)⟩
end Go.Proofs.Ytlgclhhkgohanaa.F
end
