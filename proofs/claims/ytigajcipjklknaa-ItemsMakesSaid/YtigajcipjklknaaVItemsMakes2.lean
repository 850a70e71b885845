/- Printed by a program: Lean functions that answer as the Go functions do, and the proofs of it. -/
import Derived.Test.YtigajcipjklknaaXItemsMakes0
import Derived.Test.YtigajcipjklknaaVItemsMakes0
section
namespace Go.Proofs.Ytigajcipjklknaa.F
open Go.RowKit Go.Proofs.YtigajcipjklknaaW.PrintWords Go.Proofs.YtigajcipjklknaaW.PrintLast Go.Proofs.YtigajcipjklknaaW.PrintMore
attribute [local go_sem] max2_int min2_int max_two min_two max_three min_three max_four min_four   -- for this text's walks alone
set_option linter.unusedVariables false
set_option linter.unusedSimpArgs false
attribute [local go_sem high] eqA48
mutual
def r0_SameParas.j0 : Nat → Bool → List (S48) → List Int → List (S48) → List Int → Option (Bool)
 | 0, _, _, _, _, _ => none
 | k + 1, x22, x417000, x417001, x418000, x418001 => if x22 = true then (some false) else (r0_SameParas.l0 k 0 x417000 x417001 x418000 x418001)
def r0_SameParas.l0 : Nat → Int → List (S48) → List Int → List (S48) → List Int → Option (Bool)
 | 0, _, _, _, _, _ => none
 | k + 1, x5, x417000, x417001, x418000, x418001 => if x5 < (x417000.length : Int) then (if 0 ≤ x5 then (if x5 < (x418000.length : Int) then (if (!(((rd_T48 x417000 x5).f0) == ((rd_T48 x418000 x5).f0)) || (!(((rd_T48 x417000 x5).f1) == ((rd_T48 x418000 x5).f1)) || (!(((rd_T48 x417000 x5).f2) == ((rd_T48 x418000 x5).f2)) || (!(((rd_T48 x417000 x5).f3) == ((rd_T48 x418000 x5).f3)))))) = true then (some false) else (r0_SameParas.l0 k (wrap64 (x5 + 1)) x417000 x417001 x418000 x418001)) else (none)) else (none)) else (r0_SameParas.l1 k 0 x417000 x417001 x418000 x418001)
def r0_SameParas.l1 : Nat → Int → List (S48) → List Int → List (S48) → List Int → Option (Bool)
 | 0, _, _, _, _, _ => none
 | k + 1, x6, x417000, x417001, x418000, x418001 => if x6 < (x417001.length : Int) then (if 0 ≤ x6 then (if x6 < (x418001.length : Int) then (if (rd x417001 x6) = (rd x418001 x6) then (r0_SameParas.l1 k (wrap64 (x6 + 1)) x417000 x417001 x418000 x418001) else (some false)) else (none)) else (none)) else (some true)
end
def r0_SameParas.f (k : Nat) (l0_0 : List (S48)) (l0_1 : List Int) (l1_0 : List (S48)) (l1_1 : List Int) : Option (Bool) := if (l0_0.length : Int) = (l1_0.length : Int) then (r0_SameParas.j0 k ((l0_1.length : Int) != (l1_1.length : Int)) l0_0 l0_1 l1_0 l1_1) else (r0_SameParas.j0 k true l0_0 l0_1 l1_0 l1_1)
theorem r0_SameParas.mono_l : ∀ k, (∀ y0 y1 y2 y3 y4, LeO (r0_SameParas.j0 k y0 y1 y2 y3 y4) (r0_SameParas.j0 (k + 1) y0 y1 y2 y3 y4)) ∧ (∀ y0 y1 y2 y3 y4, LeO (r0_SameParas.l0 k y0 y1 y2 y3 y4) (r0_SameParas.l0 (k + 1) y0 y1 y2 y3 y4)) ∧ (∀ y0 y1 y2 y3 y4, LeO (r0_SameParas.l1 k y0 y1 y2 y3 y4) (r0_SameParas.l1 (k + 1) y0 y1 y2 y3 y4))
 | 0 => ⟨fun _ _ _ _ _ r h => by simp [r0_SameParas.j0] at h, fun _ _ _ _ _ r h => by simp [r0_SameParas.l0] at h, fun _ _ _ _ _ r h => by simp [r0_SameParas.l1] at h⟩
 | k + 1 => by
  obtain ⟨ih0, ih1, ih2⟩ := r0_SameParas.mono_l k; refine ⟨?_, ?_, ?_⟩
  ·intro y0 y1 y2 y3 y4
   unfold r0_SameParas.j0
   repeat' (with_reducible first | exact ih0 _ _ _ _ _ | exact ih1 _ _ _ _ _ | exact ih2 _ _ _ _ _ | exact LeO.refl _ | exact LeO.none _ | refine LeO.ite ?_ ?_ | refine LeO.bind ?_ (fun _ => ?_))
  ·intro y0 y1 y2 y3 y4
   unfold r0_SameParas.l0
   repeat' (with_reducible first | exact ih0 _ _ _ _ _ | exact ih1 _ _ _ _ _ | exact ih2 _ _ _ _ _ | exact LeO.refl _ | exact LeO.none _ | refine LeO.ite ?_ ?_ | refine LeO.bind ?_ (fun _ => ?_))
  ·intro y0 y1 y2 y3 y4
   unfold r0_SameParas.l1
   repeat' (with_reducible first | exact ih0 _ _ _ _ _ | exact ih1 _ _ _ _ _ | exact ih2 _ _ _ _ _ | exact LeO.refl _ | exact LeO.none _ | refine LeO.ite ?_ ?_ | refine LeO.bind ?_ (fun _ => ?_))
theorem r0_SameParas.mono : ∀ a0 a1 a2 a3 k, LeO (r0_SameParas.f k a0 a1 a2 a3) (r0_SameParas.f (k + 1) a0 a1 a2 a3) := by
 intro a0 a1 a2 a3 k
 obtain ⟨ih0, ih1, ih2⟩ := r0_SameParas.mono_l k; unfold r0_SameParas.f
 repeat' (with_reducible first | exact ih0 _ _ _ _ _ | exact ih1 _ _ _ _ _ | exact ih2 _ _ _ _ _ | exact LeO.refl _ | exact LeO.none _ | refine LeO.ite ?_ ?_ | refine LeO.bind ?_ (fun _ => ?_))
set_option maxHeartbeats 8000000 in
set_option maxRecDepth 100000 in
theorem r0_SameParas.calls (k : Nat) (A0_0 : Option Addr) (c0_0 : Nat) (l0_0 : List (S48)) (A0_1 : Option Addr) (c0_1 : Nat) (l0_1 : List Int) (A1_0 : Option Addr) (c1_0 : Nat) (l1_0 : List (S48)) (A1_1 : Option Addr) (c1_1 : Nat) (l1_1 : List Int) (r : Bool) (w : World) (hr0_0 : Kd.C k48 w A0_0 l0_0.length l0_0) (hc0_0 : l0_0.length ≤ c0_0) (hr0_1 : Kd.C (Kd.int .u8) w A0_1 l0_1.length l0_1) (hc0_1 : l0_1.length ≤ c0_1) (hr1_0 : Kd.C k48 w A1_0 l1_0.length l1_0) (hc1_0 : l1_0.length ≤ c1_0) (hr1_1 : Kd.C (Kd.int .u8) w A1_1 l1_1.length l1_1) (hc1_1 : l1_1.length ≤ c1_1) (h : r0_SameParas.f k l0_0 l0_1 l1_0 l1_1 = some r) :
  Calls Try.prog 25 #[.agg #[.slice A0_0 l0_0.length c0_0, .slice A0_1 l0_1.length c0_1], .agg #[.slice A1_0 l1_0.length c1_0, .slice A1_1 l1_1.length c1_1]] w fun e w' => e = .returned (.bool r) ∧ Below w.heap.size w w' := by
 have hu60 := Try.underlying60; have hu48 := Try.underlying48; have HR0_0 := zA.mk hr0_0; have HC0_0 := zA.mk hc0_0; clear hr0_0 hc0_0; have HR0_1 := zA.mk hr0_1; have HC0_1 := zA.mk hc0_1; clear hr0_1 hc0_1; have HR1_0 := zA.mk hr1_0; have HC1_0 := zA.mk hc1_0; clear hr1_0 hc1_0; have HR1_1 := zA.mk hr1_1; have HC1_1 := zA.mk hc1_1; clear hr1_1 hc1_1; have HB := zA.mk (Below.refl w.heap.size w); have H : (if (l0_0.length : Int) = (l1_0.length : Int) then (r0_SameParas.j0 k ((l0_1.length : Int) != (l1_1.length : Int)) l0_0 l0_1 l1_0 l1_1) else (r0_SameParas.j0 k true l0_0 l0_1 l1_0 l1_1)) = some r := h
 clear h; have HC3 := zA.mk H; clear H; go_enter Try.func25, Try.ntmps25
 go_upto_region 1 with (first | ((with_reducible refine gate_dst (N := 2) rfl ?_); (try (refine gate_guard (by rfl) ?_; dsimp only)); refine box_event ?hg (N := 2) ?hd (cs := #[.slice A0_0 l0_0.length c0_0, .slice A0_1 l0_1.length c0_1]) (t := 60) ?hr ?_; (case hd => rfl); (case hg => rfl); (case hr => first | (go_simp; done) | (go_simp; rfl)); intro gb416 hg w4 hbox hb; have BK416 := zA.mk (hbox); have GW416 := zA.mk ((by rw [hg]; exact (zF (aL HB)) : w.heap.size ≤ gb416)); replace HB := zA.mk (below_step (aL HB) hb); have GE416 := GW416; clear hb hbox hg) | ((with_reducible refine gate_dst (N := 3) rfl ?_); (try (refine gate_guard (by rfl) ?_; dsimp only)); refine box_event ?hg (N := 3) ?hd (cs := #[.slice A1_0 l1_0.length c1_0, .slice A1_1 l1_1.length c1_1]) (t := 60) ?hr ?_; (case hd => rfl); (case hg => rfl); (case hr => first | (go_simp; done) | (go_simp; rfl)); intro gb417 hg w5 hbox hb; have BK417 := zA.mk (hbox); have GW417 := zA.mk ((by rw [hg]; exact (zF (aL HB)) : w.heap.size ≤ gb417)); replace HB := zA.mk (below_step (aL HB) hb); have GE417 := GW417; have NB416_417 := zA.mk ((by rw [hg]; exact Nat.ne_of_lt (blk_lt (aB BK416)) : gb416 ≠ gb417)); have NB417_416 := zA.mk ((by rw [hg]; exact Nat.ne_of_gt (blk_lt (g := gb416) (o := .cells #[.slice A0_0 l0_0.length c0_0, .slice A0_1 l0_1.length c0_1] 60 (0, 0)) (aB BK416)) : gb417 ≠ gb416)); replace BK416 := zA.mk (blk_below (aB BK416) hb); clear hb hbox hg))
 repeat (go_quiet (first | ((with_reducible refine gate_dst (N := 2) rfl ?_); (try (refine gate_guard (by rfl) ?_; dsimp only)); refine box_event ?hg (N := 2) ?hd (cs := #[.slice A0_0 l0_0.length c0_0, .slice A0_1 l0_1.length c0_1]) (t := 60) ?hr ?_; (case hd => rfl); (case hg => rfl); (case hr => first | (go_simp; done) | (go_simp; rfl)); intro gb416 hg w4 hbox hb; have BK416 := zA.mk (hbox); have GW416 := zA.mk ((by rw [hg]; exact (zF (aL HB)) : w.heap.size ≤ gb416)); replace HB := zA.mk (below_step (aL HB) hb); have GE416 := GW416; clear hb hbox hg) | ((with_reducible refine gate_dst (N := 3) rfl ?_); (try (refine gate_guard (by rfl) ?_; dsimp only)); refine box_event ?hg (N := 3) ?hd (cs := #[.slice A1_0 l1_0.length c1_0, .slice A1_1 l1_1.length c1_1]) (t := 60) ?hr ?_; (case hd => rfl); (case hg => rfl); (case hr => first | (go_simp; done) | (go_simp; rfl)); intro gb417 hg w5 hbox hb; have BK417 := zA.mk (hbox); have GW417 := zA.mk ((by rw [hg]; exact (zF (aL HB)) : w.heap.size ≤ gb417)); replace HB := zA.mk (below_step (aL HB) hb); have GE417 := GW417; have NB416_417 := zA.mk ((by rw [hg]; exact Nat.ne_of_lt (blk_lt (aB BK416)) : gb416 ≠ gb417)); have NB417_416 := zA.mk ((by rw [hg]; exact Nat.ne_of_gt (blk_lt (g := gb416) (o := .cells #[.slice A0_0 l0_0.length c0_0, .slice A0_1 l0_1.length c0_1] 60 (0, 0)) (aB BK416)) : gb417 ≠ gb416)); replace BK416 := zA.mk (blk_below (aB BK416) hb); clear hb hbox hg)); go_upto_region 1 with (first | ((with_reducible refine gate_dst (N := 2) rfl ?_); (try (refine gate_guard (by rfl) ?_; dsimp only)); refine box_event ?hg (N := 2) ?hd (cs := #[.slice A0_0 l0_0.length c0_0, .slice A0_1 l0_1.length c0_1]) (t := 60) ?hr ?_; (case hd => rfl); (case hg => rfl); (case hr => first | (go_simp; done) | (go_simp; rfl)); intro gb416 hg w4 hbox hb; have BK416 := zA.mk (hbox); have GW416 := zA.mk ((by rw [hg]; exact (zF (aL HB)) : w.heap.size ≤ gb416)); replace HB := zA.mk (below_step (aL HB) hb); have GE416 := GW416; clear hb hbox hg) | ((with_reducible refine gate_dst (N := 3) rfl ?_); (try (refine gate_guard (by rfl) ?_; dsimp only)); refine box_event ?hg (N := 3) ?hd (cs := #[.slice A1_0 l1_0.length c1_0, .slice A1_1 l1_1.length c1_1]) (t := 60) ?hr ?_; (case hd => rfl); (case hg => rfl); (case hr => first | (go_simp; done) | (go_simp; rfl)); intro gb417 hg w5 hbox hb; have BK417 := zA.mk (hbox); have GW417 := zA.mk ((by rw [hg]; exact (zF (aL HB)) : w.heap.size ≤ gb417)); replace HB := zA.mk (below_step (aL HB) hb); have GE417 := GW417; have NB416_417 := zA.mk ((by rw [hg]; exact Nat.ne_of_lt (blk_lt (aB BK416)) : gb416 ≠ gb417)); have NB417_416 := zA.mk ((by rw [hg]; exact Nat.ne_of_gt (blk_lt (g := gb416) (o := .cells #[.slice A0_0 l0_0.length c0_0, .slice A0_1 l0_1.length c0_1] 60 (0, 0)) (aB BK416)) : gb417 ≠ gb416)); replace BK416 := zA.mk (blk_below (aB BK416) hb); clear hb hbox hg)))
 (try simp only [Act.put, sA_, sB_, sC_])
 go_cut [22] (fun v22 wc => ∃ (kq : Nat) (x22_2 : Bool), v22 = .bool x22_2 ∧ zA (r0_SameParas.j0 kq x22_2 l0_0 l0_1 l1_0 l1_1 = some r) ∧ zA (kq ≤ k) ∧ zA (wc.heap[gb416]? = some (.cells #[(.slice A0_0 l0_0.length c0_0), (.slice A0_1 l0_1.length c0_1)] 60 (0, 0))) ∧ zA (wc.heap[gb417]? = some (.cells #[(.slice A1_0 l1_0.length c1_0), (.slice A1_1 l1_1.length c1_1)] 60 (0, 0))) ∧ zA (Below w.heap.size w wc))
 case first =>
  have H := HC3.out; clear HC3; by_cases c6 : (l0_0.length : Int) = (l1_0.length : Int)
  rotate_left
  ·rw [if_neg c6] at H
   have c6b0 : ((l0_0.length : Int) == (l1_0.length : Int)) = false := beq_eq_false_iff_ne.mpr c6
   have c6b1 : ((l0_0.length : Int) != (l1_0.length : Int)) = true := bne_iff_ne.mpr c6
   have c6b2 : (l0_0.length == l1_0.length) = false := by first | simpa using c6 | (simp at c6 ⊢; omega)
   (first | rw [c6b0] | (simp only [i64_w, i32_w]; rw [c6b0]) | skip)
   have H' := zA.mk H
   clear H; have hnb10 := NB416_417.out; have hnc10 := NB417_416.out; obtain ⟨hcz11_0, hcz11_1, hfz11_0, hfz11_1⟩ := aC2 BK416; obtain ⟨hcz12_0, hcz12_1, hfz12_0, hfz12_1⟩ := aC2 BK417; go_wp2
   repeat (go_quiet (fail); try go_wp2)
   go_meet
   case rel => exact ⟨_, (true), aZ, H', ⟨by first | omega | exact Nat.le_refl _⟩, ⟨aB BK416⟩, ⟨aB BK417⟩, ⟨aL HB⟩⟩
  rw [if_pos c6] at H; have c6b0 : ((l0_0.length : Int) == (l1_0.length : Int)) = true := beq_iff_eq.mpr c6
  have c6b1 : ((l0_0.length : Int) != (l1_0.length : Int)) = false := bne_eq_false_iff_eq.mpr c6
  have c6b2 : (l0_0.length == l1_0.length) = true := by first | simpa using c6 | (simp at c6 ⊢; omega)
  clear c6; (first | rw [c6b0] | (simp only [i64_w, i32_w]; rw [c6b0]) | skip)
  have H' := zA.mk H
  clear H; have hnb7 := NB416_417.out; have hnc7 := NB417_416.out; obtain ⟨hcz8_0, hcz8_1, hfz8_0, hfz8_1⟩ := aC2 BK416; obtain ⟨hcz9_0, hcz9_1, hfz9_0, hfz9_1⟩ := aC2 BK417; go_wp2
  repeat (go_quiet (fail); try go_wp2)
  go_meet
  case rel => exact ⟨_, (((l0_1.length : Int) != (l1_1.length : Int))), aZ, H', ⟨by first | omega | exact Nat.le_refl _⟩, ⟨aB BK416⟩, ⟨aB BK417⟩, ⟨aL HB⟩⟩
 clear HC3; obtain ⟨kq, x22_2, rfl, HA, HJ2, BK416, BK417, HB⟩ := hcut; cases kq with
 | zero => exact absurd HA.out (by simp [r0_SameParas.j0])
 | succ kj2 =>
  have H := HA.out; clear HA; simp only [r0_SameParas.j0] at H; by_cases c13 : x22_2 = true
  ·subst c13
   have H1 : (some false) = some r := by rw [if_pos rfl] at H; exact H
   clear H; have H := H1; clear H1; obtain rfl := Option.some.inj H
   go_wp2
   repeat (go_quiet (fail); try go_wp2)
   go_ret
   exact ⟨aX, aL HB⟩
  replace c13 := Bool.eq_false_iff.mpr c13; subst c13; have H1 : (r0_SameParas.l0 kj2 0 l0_0 l0_1 l1_0 l1_1) = some r := by rw [if_neg (show ¬ (false = true) by decide)] at H; exact H
  clear H; have H := H1; clear H1; have H' := zA.mk H
  clear H; go_wp2
  repeat (go_quiet (fail); try go_wp2)
  go_loopg [5] kj2 (fun kq v5 w' => ∃ (x5_2 : Int), v5 = .int .i64 x5_2 ∧ zA (r0_SameParas.l0 kq x5_2 l0_0 l0_1 l1_0 l1_1 = some r) ∧ zA (kq ≤ kj2) ∧ zA (w'.heap[gb416]? = some (.cells #[(.slice A0_0 l0_0.length c0_0), (.slice A0_1 l0_1.length c0_1)] 60 (0, 0))) ∧ zA (w'.heap[gb417]? = some (.cells #[(.slice A1_0 l1_0.length c1_0), (.slice A1_1 l1_1.length c1_1)] 60 (0, 0))) ∧ zA (Below w.heap.size w w'))
  case atStart => exact ⟨(0), aZ, H', ⟨Nat.le_refl _⟩, ⟨aB BK416⟩, ⟨aB BK417⟩, ⟨aL HB⟩⟩
  clear H'; obtain ⟨x5_2, rfl, HA, HK2, BK416, BK417, HB⟩ := hrel; cases gk with
  | zero => exact absurd HA.out (by simp [r0_SameParas.l0])
  | succ k2 =>
   have H := HA.out; clear HA; simp only [r0_SameParas.l0] at H; by_cases c14 : x5_2 < (l0_0.length : Int)
   ·rw [if_pos c14] at H
    have c14b0 : decide (x5_2 < (l0_0.length : Int)) = true := decide_eq_true c14
    clear c14; by_cases c15 : 0 ≤ x5_2
    rotate_left
    ·rw [if_neg c15] at H
     exact absurd H (by simp)
    rw [if_pos c15] at H; have c15b0 : decide (0 ≤ x5_2) = true := decide_eq_true c15
    clear c15; by_cases c16 : x5_2 < (l1_0.length : Int)
    rotate_left
    ·rw [if_neg c16] at H
     exact absurd H (by simp)
    rw [if_pos c16] at H; have c16b0 : decide (x5_2 < (l1_0.length : Int)) = true := decide_eq_true c16
    clear c16; by_cases c17 : (!(((rd_T48 l0_0 x5_2).f0) == ((rd_T48 l1_0 x5_2).f0)) || (!(((rd_T48 l0_0 x5_2).f1) == ((rd_T48 l1_0 x5_2).f1)) || (!(((rd_T48 l0_0 x5_2).f2) == ((rd_T48 l1_0 x5_2).f2)) || (!(((rd_T48 l0_0 x5_2).f3) == ((rd_T48 l1_0 x5_2).f3)))))) = true
    ·rw [if_pos c17] at H
     have c17b0 : (!(((rd_T48 l0_0 x5_2).f0) == ((rd_T48 l1_0 x5_2).f0)) || (!(((rd_T48 l0_0 x5_2).f1) == ((rd_T48 l1_0 x5_2).f1)) || (!(((rd_T48 l0_0 x5_2).f2) == ((rd_T48 l1_0 x5_2).f2)) || (!(((rd_T48 l0_0 x5_2).f3) == ((rd_T48 l1_0 x5_2).f3)))))) = true := c17
     clear c17; obtain rfl := Option.some.inj H
     have hnb18 := NB416_417.out; have hnc18 := NB417_416.out; obtain ⟨hcz19_0, hcz19_1, hfz19_0, hfz19_1⟩ := aC2 BK416; have p418 : 0 ≤ (x5_2 : Int) := aD
     have q418 : x5_2 < (l0_0.length : Int) := aD
     obtain ⟨ad418, e418, hx418_0, hx418_1, hx418_2, hx418_3⟩ := at_T48 HR0_0.out x5_2 p418 q418; cases e418
     replace hx418_0 := (HB.out.cell (World.block_lt_of_cell? w _ hx418_0)).trans hx418_0; replace hx418_1 := (HB.out.cell (World.block_lt_of_cell? w _ hx418_1)).trans hx418_1; replace hx418_2 := (HB.out.cell (World.block_lt_of_cell? w _ hx418_2)).trans hx418_2; replace hx418_3 := (HB.out.cell (World.block_lt_of_cell? w _ hx418_3)).trans hx418_3; replace p418 := eq_true p418; replace q418 := eq_true q418; obtain ⟨hcz20_0, hcz20_1, hfz20_0, hfz20_1⟩ := aC2 BK417; have p419 : 0 ≤ (x5_2 : Int) := aD
     have q419 : x5_2 < (l1_0.length : Int) := aD
     obtain ⟨ad419, e419, hx419_0, hx419_1, hx419_2, hx419_3⟩ := at_T48 HR1_0.out x5_2 p419 q419; cases e419
     replace hx419_0 := (HB.out.cell (World.block_lt_of_cell? w _ hx419_0)).trans hx419_0; replace hx419_1 := (HB.out.cell (World.block_lt_of_cell? w _ hx419_1)).trans hx419_1; replace hx419_2 := (HB.out.cell (World.block_lt_of_cell? w _ hx419_2)).trans hx419_2; replace hx419_3 := (HB.out.cell (World.block_lt_of_cell? w _ hx419_3)).trans hx419_3; replace p419 := eq_true p419; replace q419 := eq_true q419; go_wp2
     repeat (go_quiet (fail); try go_wp2)
     go_ret
     exact ⟨aX, aL HB⟩
    rw [if_neg c17] at H; have c17b0 : (!(((rd_T48 l0_0 x5_2).f0) == ((rd_T48 l1_0 x5_2).f0)) || (!(((rd_T48 l0_0 x5_2).f1) == ((rd_T48 l1_0 x5_2).f1)) || (!(((rd_T48 l0_0 x5_2).f2) == ((rd_T48 l1_0 x5_2).f2)) || (!(((rd_T48 l0_0 x5_2).f3) == ((rd_T48 l1_0 x5_2).f3)))))) = false := by simpa using c17
    clear c17; have H' := zA.mk H
    clear H; have hnb21 := NB416_417.out; have hnc21 := NB417_416.out; obtain ⟨hcz22_0, hcz22_1, hfz22_0, hfz22_1⟩ := aC2 BK416; have p418 : 0 ≤ (x5_2 : Int) := aD
    have q418 : x5_2 < (l0_0.length : Int) := aD
    obtain ⟨ad418, e418, hx418_0, hx418_1, hx418_2, hx418_3⟩ := at_T48 HR0_0.out x5_2 p418 q418; cases e418
    replace hx418_0 := (HB.out.cell (World.block_lt_of_cell? w _ hx418_0)).trans hx418_0; replace hx418_1 := (HB.out.cell (World.block_lt_of_cell? w _ hx418_1)).trans hx418_1; replace hx418_2 := (HB.out.cell (World.block_lt_of_cell? w _ hx418_2)).trans hx418_2; replace hx418_3 := (HB.out.cell (World.block_lt_of_cell? w _ hx418_3)).trans hx418_3; replace p418 := eq_true p418; replace q418 := eq_true q418; obtain ⟨hcz23_0, hcz23_1, hfz23_0, hfz23_1⟩ := aC2 BK417; have p419 : 0 ≤ (x5_2 : Int) := aD
    have q419 : x5_2 < (l1_0.length : Int) := aD
    obtain ⟨ad419, e419, hx419_0, hx419_1, hx419_2, hx419_3⟩ := at_T48 HR1_0.out x5_2 p419 q419; cases e419
    replace hx419_0 := (HB.out.cell (World.block_lt_of_cell? w _ hx419_0)).trans hx419_0; replace hx419_1 := (HB.out.cell (World.block_lt_of_cell? w _ hx419_1)).trans hx419_1; replace hx419_2 := (HB.out.cell (World.block_lt_of_cell? w _ hx419_2)).trans hx419_2; replace hx419_3 := (HB.out.cell (World.block_lt_of_cell? w _ hx419_3)).trans hx419_3; replace p419 := eq_true p419; replace q419 := eq_true q419; go_wp2
    repeat (go_quiet (fail); try go_wp2)
    go_roundg k2
    case measure => have := HJ2.out; have := HK2.out; omega
    case rel => exact ⟨(wrap64 (x5_2 + 1)), aZ, H', ⟨by have := HJ2.out; have := HK2.out; omega⟩, ⟨aB BK416⟩, ⟨aB BK417⟩, ⟨aL HB⟩⟩
   rw [if_neg c14] at H; have c14b0 : decide (x5_2 < (l0_0.length : Int)) = false := decide_eq_false c14
   clear c14; have H' := zA.mk H
   clear H; have hnb24 := NB416_417.out; have hnc24 := NB417_416.out; obtain ⟨hcz25_0, hcz25_1, hfz25_0, hfz25_1⟩ := aC2 BK416; go_wp2
   repeat (go_quiet (fail); try go_wp2)
   go_loopg [6] k2 (fun kq v6 w' => ∃ (x6_3 : Int), v6 = .int .i64 x6_3 ∧ zA (r0_SameParas.l1 kq x6_3 l0_0 l0_1 l1_0 l1_1 = some r) ∧ zA (kq ≤ k2) ∧ zA (w'.heap[gb416]? = some (.cells #[(.slice A0_0 l0_0.length c0_0), (.slice A0_1 l0_1.length c0_1)] 60 (0, 0))) ∧ zA (w'.heap[gb417]? = some (.cells #[(.slice A1_0 l1_0.length c1_0), (.slice A1_1 l1_1.length c1_1)] 60 (0, 0))) ∧ zA (Below w.heap.size w w'))
   case atStart => exact ⟨(0), aZ, H', ⟨Nat.le_refl _⟩, ⟨aB BK416⟩, ⟨aB BK417⟩, ⟨aL HB⟩⟩
   clear H'; obtain ⟨x6_3, rfl, HA, HK3, BK416, BK417, HB⟩ := hrel; cases gk with
   | zero => exact absurd HA.out (by simp [r0_SameParas.l1])
   | succ k3 =>
    have H := HA.out; clear HA; simp only [r0_SameParas.l1] at H; by_cases c26 : x6_3 < (l0_1.length : Int)
    rotate_left
    ·rw [if_neg c26] at H
     have c26b0 : decide (x6_3 < (l0_1.length : Int)) = false := decide_eq_false c26
     clear c26; obtain rfl := Option.some.inj H
     have hnb36 := NB416_417.out; have hnc36 := NB417_416.out; obtain ⟨hcz37_0, hcz37_1, hfz37_0, hfz37_1⟩ := aC2 BK416; go_wp2
     repeat (go_quiet (fail); try go_wp2)
     go_ret
     exact ⟨aX, aL HB⟩
    rw [if_pos c26] at H; have c26b0 : decide (x6_3 < (l0_1.length : Int)) = true := decide_eq_true c26
    clear c26; by_cases c27 : 0 ≤ x6_3
    rotate_left
    ·rw [if_neg c27] at H
     exact absurd H (by simp)
    rw [if_pos c27] at H; have c27b0 : decide (0 ≤ x6_3) = true := decide_eq_true c27
    clear c27; by_cases c28 : x6_3 < (l1_1.length : Int)
    rotate_left
    ·rw [if_neg c28] at H
     exact absurd H (by simp)
    rw [if_pos c28] at H; have c28b0 : decide (x6_3 < (l1_1.length : Int)) = true := decide_eq_true c28
    clear c28; by_cases c29 : (rd l0_1 x6_3) = (rd l1_1 x6_3)
    rotate_left
    ·rw [if_neg c29] at H
     have c29b0 : ((rd l0_1 x6_3) == (rd l1_1 x6_3)) = false := beq_eq_false_iff_ne.mpr c29
     have c29b1 : ((rd l0_1 x6_3) != (rd l1_1 x6_3)) = true := bne_iff_ne.mpr c29
     obtain rfl := Option.some.inj H
     have hnb33 := NB416_417.out; have hnc33 := NB417_416.out; obtain ⟨hcz34_0, hcz34_1, hfz34_0, hfz34_1⟩ := aC2 BK416; have p420 : 0 ≤ (x6_3 : Int) := aD
     have q420 : x6_3 < (l0_1.length : Int) := aD
     obtain ⟨ad420, e420, hx420_0⟩ := Kd.at_int HR0_1.out x6_3 p420 q420; cases e420
     replace hx420_0 := (HB.out.cell (World.block_lt_of_cell? w _ hx420_0)).trans hx420_0; replace p420 := eq_true p420; replace q420 := eq_true q420; obtain ⟨hcz35_0, hcz35_1, hfz35_0, hfz35_1⟩ := aC2 BK417; have p421 : 0 ≤ (x6_3 : Int) := aD
     have q421 : x6_3 < (l1_1.length : Int) := aD
     obtain ⟨ad421, e421, hx421_0⟩ := Kd.at_int HR1_1.out x6_3 p421 q421; cases e421
     replace hx421_0 := (HB.out.cell (World.block_lt_of_cell? w _ hx421_0)).trans hx421_0; replace p421 := eq_true p421; replace q421 := eq_true q421; go_wp2
     repeat (go_quiet (fail); try go_wp2)
     go_ret
     exact ⟨aX, aL HB⟩
    rw [if_pos c29] at H; have c29b0 : ((rd l0_1 x6_3) == (rd l1_1 x6_3)) = true := beq_iff_eq.mpr c29
    have c29b1 : ((rd l0_1 x6_3) != (rd l1_1 x6_3)) = false := bne_eq_false_iff_eq.mpr c29
    clear c29; have H' := zA.mk H
    clear H; have hnb30 := NB416_417.out; have hnc30 := NB417_416.out; obtain ⟨hcz31_0, hcz31_1, hfz31_0, hfz31_1⟩ := aC2 BK416; have p420 : 0 ≤ (x6_3 : Int) := aD
    have q420 : x6_3 < (l0_1.length : Int) := aD
    obtain ⟨ad420, e420, hx420_0⟩ := Kd.at_int HR0_1.out x6_3 p420 q420; cases e420
    replace hx420_0 := (HB.out.cell (World.block_lt_of_cell? w _ hx420_0)).trans hx420_0; replace p420 := eq_true p420; replace q420 := eq_true q420; obtain ⟨hcz32_0, hcz32_1, hfz32_0, hfz32_1⟩ := aC2 BK417; have p421 : 0 ≤ (x6_3 : Int) := aD
    have q421 : x6_3 < (l1_1.length : Int) := aD
    obtain ⟨ad421, e421, hx421_0⟩ := Kd.at_int HR1_1.out x6_3 p421 q421; cases e421
    replace hx421_0 := (HB.out.cell (World.block_lt_of_cell? w _ hx421_0)).trans hx421_0; replace p421 := eq_true p421; replace q421 := eq_true q421; go_wp2
    repeat (go_quiet (fail); try go_wp2)
    go_roundg k3
    case measure => have := HJ2.out; have := HK2.out; have := HK3.out; omega
    case rel => exact ⟨(wrap64 (x6_3 + 1)), aZ, H', ⟨by have := HJ2.out; have := HK2.out; have := HK3.out; omega⟩, ⟨aB BK416⟩, ⟨aB BK417⟩, ⟨aL HB⟩⟩
def stanzaref01_Of.l0 : Nat → List (S45) → Int → Int → Option (Int)
 | 0, _, _, _ => none
 | k + 1, x0, x1, x5 => if x5 < (x0.length : Int) then (if 0 ≤ x5 then (if ((rd_T45 x0 x5).f0) ≤ x1 then (if x1 ≤ ((rd_T45 x0 x5).f1) then (some ((rd_T45 x0 x5).f2)) else (stanzaref01_Of.l0 k x0 x1 (wrap64 (x5 + 1)))) else (stanzaref01_Of.l0 k x0 x1 (wrap64 (x5 + 1)))) else (none)) else (some 0)
def stanzaref01_Of.f (k : Nat) (l0 : List (S45)) (a1 : Int) : Option (Int) := stanzaref01_Of.l0 k l0 a1 0
theorem stanzaref01_Of.mono_l : ∀ k, (∀ y0 y1 y2, LeO (stanzaref01_Of.l0 k y0 y1 y2) (stanzaref01_Of.l0 (k + 1) y0 y1 y2))
 | 0 => fun _ _ _ r h => by simp [stanzaref01_Of.l0] at h
 | k + 1 => by
  have ih0 := stanzaref01_Of.mono_l k
  ·intro y0 y1 y2
   unfold stanzaref01_Of.l0
   repeat' (with_reducible first | exact ih0 _ _ _ | exact LeO.refl _ | exact LeO.none _ | refine LeO.ite ?_ ?_ | refine LeO.bind ?_ (fun _ => ?_))
theorem stanzaref01_Of.mono : ∀ a0 a1 k, LeO (stanzaref01_Of.f k a0 a1) (stanzaref01_Of.f (k + 1) a0 a1) := by
 intro a0 a1 k
 have ih0 := stanzaref01_Of.mono_l k; unfold stanzaref01_Of.f
 repeat' (with_reducible first | exact ih0 _ _ _ | exact LeO.refl _ | exact LeO.none _ | refine LeO.ite ?_ ?_ | refine LeO.bind ?_ (fun _ => ?_))
set_option maxHeartbeats 8000000 in
set_option maxRecDepth 100000 in
theorem stanzaref01_Of.calls (k : Nat) (A0 : Option Addr) (c0 : Nat) (l0 : List (S45)) (a1 : Int) (r : Int) (w : World) (hr0 : Kd.C k45 w A0 l0.length l0) (hc0 : l0.length ≤ c0) (h : stanzaref01_Of.f k l0 a1 = some r) :
  Calls Try.prog 37 #[.slice A0 l0.length c0, .int .i32 a1] w fun e w' => e = .returned (.int .i64 r) ∧ Drawn0 w w' := by
 have HR0 := zA.mk hr0; have HC0 := zA.mk hc0; clear hr0 hc0; have H : (stanzaref01_Of.l0 k l0 a1 0) = some r := h
 clear h; have H' := zA.mk H
 clear H; go_enter Try.func37, Try.ntmps37
 go_wp2
 go_loopg [5] k (fun kq v5 w' => ∃ (x5_1 : Int), v5 = .int .i64 x5_1 ∧ zA (stanzaref01_Of.l0 kq l0 a1 x5_1 = some r) ∧ zA (kq ≤ k) ∧ Drawn0 w w')
 case atStart => exact ⟨(0), aZ, H', ⟨Nat.le_refl _⟩, by repeat (first | exact Drawn0.refl _ | apply Drawn0.step)⟩
 clear H'; obtain ⟨x5_1, rfl, HA, HK1, ⟨m1, rfl⟩⟩ := hrel; cases gk with
 | zero => exact absurd HA.out (by simp [stanzaref01_Of.l0])
 | succ k1 =>
  have H := HA.out; clear HA; simp only [stanzaref01_Of.l0] at H; by_cases c3 : x5_1 < (l0.length : Int)
  rotate_left
  ·rw [if_neg c3] at H
   have c3b0 : decide (x5_1 < (l0.length : Int)) = false := decide_eq_false c3
   clear c3; obtain rfl := Option.some.inj H
   go_wp2
   go_ret
   exact ⟨by first | rfl | (simp; done) | (simp [*]; done), by repeat (first | exact Drawn0.refl _ | apply Drawn0.step)⟩
  rw [if_pos c3] at H; have c3b0 : decide (x5_1 < (l0.length : Int)) = true := decide_eq_true c3
  clear c3; by_cases c4 : 0 ≤ x5_1
  rotate_left
  ·rw [if_neg c4] at H
   exact absurd H (by simp)
  rw [if_pos c4] at H; have c4b0 : decide (0 ≤ x5_1) = true := decide_eq_true c4
  clear c4; by_cases c5 : ((rd_T45 l0 x5_1).f0) ≤ a1
  rotate_left
  ·rw [if_neg c5] at H
   have c5b0 : decide (((rd_T45 l0 x5_1).f0) ≤ a1) = false := decide_eq_false c5
   clear c5; have H' := zA.mk H
   clear H; have p422 : 0 ≤ (x5_1 : Int) := aD
   have q422 : x5_1 < (l0.length : Int) := aD
   obtain ⟨ad422, e422, hx422_0, hx422_1, hx422_2⟩ := at_T45 HR0.out x5_1 p422 q422; cases e422
   replace p422 := eq_true p422; replace q422 := eq_true q422; go_wp2
   go_roundg k1
   case measure => have := HK1.out; omega
   case rel => exact ⟨(wrap64 (x5_1 + 1)), aZ, H', ⟨by have := HK1.out; omega⟩, by repeat (first | exact Drawn0.refl _ | apply Drawn0.step)⟩
  rw [if_pos c5] at H; have c5b0 : decide (((rd_T45 l0 x5_1).f0) ≤ a1) = true := decide_eq_true c5
  clear c5; by_cases c6 : a1 ≤ ((rd_T45 l0 x5_1).f1)
  rotate_left
  ·rw [if_neg c6] at H
   have c6b0 : decide (a1 ≤ ((rd_T45 l0 x5_1).f1)) = false := decide_eq_false c6
   clear c6; have H' := zA.mk H
   clear H; have p422 : 0 ≤ (x5_1 : Int) := aD
   have q422 : x5_1 < (l0.length : Int) := aD
   obtain ⟨ad422, e422, hx422_0, hx422_1, hx422_2⟩ := at_T45 HR0.out x5_1 p422 q422; cases e422
   replace p422 := eq_true p422; replace q422 := eq_true q422; have p423 : 0 ≤ (x5_1 : Int) := aD
   have q423 : x5_1 < (l0.length : Int) := aD
   obtain ⟨ad423, e423, hx423_0, hx423_1, hx423_2⟩ := at_T45 HR0.out x5_1 p423 q423; obtain rfl : ad422 = ad423 := (by injection e423)
   replace p423 := eq_true p423; replace q423 := eq_true q423; go_wp2
   go_roundg k1
   case measure => have := HK1.out; omega
   case rel => exact ⟨(wrap64 (x5_1 + 1)), aZ, H', ⟨by have := HK1.out; omega⟩, by repeat (first | exact Drawn0.refl _ | apply Drawn0.step)⟩
  rw [if_pos c6] at H; have c6b0 : decide (a1 ≤ ((rd_T45 l0 x5_1).f1)) = true := decide_eq_true c6
  clear c6; obtain rfl := Option.some.inj H
  have p422 : 0 ≤ (x5_1 : Int) := aD
  have q422 : x5_1 < (l0.length : Int) := aD
  obtain ⟨ad422, e422, hx422_0, hx422_1, hx422_2⟩ := at_T45 HR0.out x5_1 p422 q422; cases e422
  replace p422 := eq_true p422; replace q422 := eq_true q422; have p423 : 0 ≤ (x5_1 : Int) := aD
  have q423 : x5_1 < (l0.length : Int) := aD
  obtain ⟨ad423, e423, hx423_0, hx423_1, hx423_2⟩ := at_T45 HR0.out x5_1 p423 q423; obtain rfl : ad422 = ad423 := (by injection e423)
  replace p423 := eq_true p423; replace q423 := eq_true q423; have p424 : 0 ≤ (x5_1 : Int) := aD
  have q424 : x5_1 < (l0.length : Int) := aD
  obtain ⟨ad424, e424, hx424_0, hx424_1, hx424_2⟩ := at_T45 HR0.out x5_1 p424 q424; obtain rfl : ad422 = ad424 := (by injection e424)
  replace p424 := eq_true p424; replace q424 := eq_true q424; go_wp2
  go_ret
  exact ⟨by first | rfl | (simp; done) | (simp [*]; done), by repeat (first | exact Drawn0.refl _ | apply Drawn0.step)⟩
mutual
def r0_Clusters.l0 : Nat → List (S50) → List Int → List (S45) → List Int → Int → Option ((List (S48)) × List Int)
 | 0, _, _, _, _, _ => none
 | k + 1, x0, x1, x2, x8, x9 => if x9 < (x0.length : Int) then (if x9 = 0 then (if x8.length < 17592186044416 then (r0_Clusters.l0 k x0 x1 x2 (x8 ++ [x9]) (wrap64 (x9 + 1))) else (none)) else (if x9 < (x1.length : Int) then (if 0 ≤ x9 then (if (rd x1 x9) = 0 then (r0_Clusters.l0 k x0 x1 x2 x8 (wrap64 (x9 + 1))) else (if x8.length < 17592186044416 then (r0_Clusters.l0 k x0 x1 x2 (x8 ++ [x9]) (wrap64 (x9 + 1))) else (none))) else (none)) else (r0_Clusters.l0 k x0 x1 x2 x8 (wrap64 (x9 + 1))))) else (if x8.length < 17592186044416 then (r0_Clusters.l1 k x0 x2 (x8 ++ [(x0.length : Int)]) ([] : List (S48)) 0) else (none))
def r0_Clusters.l1 : Nat → List (S50) → List (S45) → List Int → List (S48) → Int → Option ((List (S48)) × List Int)
 | 0, _, _, _, _, _ => none
 | k + 1, x0, x2, x8, x10, x11 => if (wrap64 (x11 + 1)) < (x8.length : Int) then (if 0 ≤ x11 then (if x11 < (x8.length : Int) then (if 0 ≤ (rd x8 x11) then (if (rd x8 x11) < (x0.length : Int) then (r0_Clusters.l2 k x0 x2 x8 x10 x11 (rd x8 x11) ((rd_T50 x0 (rd x8 x11)).f1) 0 0 0) else (none)) else (none)) else (none)) else (none)) else (some (x10, x8))
def r0_Clusters.l2 : Nat → List (S50) → List (S45) → List Int → List (S48) → Int → Int → Int → Int → Int → Int → Option ((List (S48)) × List Int)
 | 0, _, _, _, _, _, _, _, _, _, _ => none
 | k + 1, x0, x2, x8, x10, x11, x13, x438000, x438001, x438002, x438003 => if 0 ≤ (wrap64 (x11 + 1)) then (if (wrap64 (x11 + 1)) < (x8.length : Int) then (if x13 < (rd x8 (wrap64 (x11 + 1))) then (if 0 ≤ x13 then (if x13 < (x0.length : Int) then ((stanzaref01_Of.f k x2 ((rd_T50 x0 x13).f0)).bind fun t442 => (if t442 > 2 then (if 2 > x438002 then (r0_Clusters.l2 k x0 x2 x8 x10 x11 (wrap64 (x13 + 1)) x438000 (wrap64 (x438001 + ((rd_T50 x0 x13).f2))) 2 x438003) else (r0_Clusters.l2 k x0 x2 x8 x10 x11 (wrap64 (x13 + 1)) x438000 (wrap64 (x438001 + ((rd_T50 x0 x13).f2))) x438002 x438003)) else (if t442 > x438002 then (r0_Clusters.l2 k x0 x2 x8 x10 x11 (wrap64 (x13 + 1)) x438000 (wrap64 (x438001 + ((rd_T50 x0 x13).f2))) t442 x438003) else (r0_Clusters.l2 k x0 x2 x8 x10 x11 (wrap64 (x13 + 1)) x438000 (wrap64 (x438001 + ((rd_T50 x0 x13).f2))) x438002 x438003)))) else (none)) else (none)) else (if 0 ≤ x11 then (if x11 < (x8.length : Int) then (if (rd x8 (wrap64 (x11 + 1))) = (wrap64 ((rd x8 x11) + 1)) then (if 0 ≤ (rd x8 x11) then (if (rd x8 x11) < (x0.length : Int) then (if ((rd_T50 x0 (rd x8 x11)).f0) = 32 then (if ((rd_T50 x0 (rd x8 x11)).f0) = 9 then (if x10.length < 4398046511104 then (r0_Clusters.l1 k x0 x2 x8 (x10 ++ [(⟨x438000, x438001, x438002, 2⟩ : S48)]) (wrap64 (x11 + 1))) else (none)) else (if x10.length < 4398046511104 then (r0_Clusters.l1 k x0 x2 x8 (x10 ++ [(⟨x438000, x438001, x438002, 1⟩ : S48)]) (wrap64 (x11 + 1))) else (none))) else (if ((rd_T50 x0 (rd x8 x11)).f0) = 9 then (if x10.length < 4398046511104 then (r0_Clusters.l1 k x0 x2 x8 (x10 ++ [(⟨x438000, x438001, x438002, 2⟩ : S48)]) (wrap64 (x11 + 1))) else (none)) else (if x10.length < 4398046511104 then (r0_Clusters.l1 k x0 x2 x8 (x10 ++ [(⟨x438000, x438001, x438002, x438003⟩ : S48)]) (wrap64 (x11 + 1))) else (none)))) else (none)) else (none)) else (if x10.length < 4398046511104 then (r0_Clusters.l1 k x0 x2 x8 (x10 ++ [(⟨x438000, x438001, x438002, x438003⟩ : S48)]) (wrap64 (x11 + 1))) else (none))) else (none)) else (none))) else (none)) else (none)
end
def r0_Clusters.f (k : Nat) (l0 : List (S50)) (l1 : List Int) (l2 : List (S45)) : Option ((List (S48)) × List Int) := r0_Clusters.l0 k l0 l1 l2 ([] : List Int) 0
theorem r0_Clusters.mono_l : ∀ k, (∀ y0 y1 y2 y3 y4, LeO (r0_Clusters.l0 k y0 y1 y2 y3 y4) (r0_Clusters.l0 (k + 1) y0 y1 y2 y3 y4)) ∧ (∀ y0 y1 y2 y3 y4, LeO (r0_Clusters.l1 k y0 y1 y2 y3 y4) (r0_Clusters.l1 (k + 1) y0 y1 y2 y3 y4)) ∧ (∀ y0 y1 y2 y3 y4 y5 y6 y7 y8 y9, LeO (r0_Clusters.l2 k y0 y1 y2 y3 y4 y5 y6 y7 y8 y9) (r0_Clusters.l2 (k + 1) y0 y1 y2 y3 y4 y5 y6 y7 y8 y9))
 | 0 => ⟨fun _ _ _ _ _ r h => by simp [r0_Clusters.l0] at h, fun _ _ _ _ _ r h => by simp [r0_Clusters.l1] at h, fun _ _ _ _ _ _ _ _ _ _ r h => by simp [r0_Clusters.l2] at h⟩
 | k + 1 => by
  obtain ⟨ih0, ih1, ih2⟩ := r0_Clusters.mono_l k; refine ⟨?_, ?_, ?_⟩
  ·intro y0 y1 y2 y3 y4
   unfold r0_Clusters.l0
   repeat' (with_reducible first | exact ih0 _ _ _ _ _ | exact ih1 _ _ _ _ _ | exact ih2 _ _ _ _ _ _ _ _ _ _ | exact stanzaref01_Of.mono _ _ _ | exact LeO.refl _ | exact LeO.none _ | refine LeO.ite ?_ ?_ | refine LeO.bind ?_ (fun _ => ?_))
  ·intro y0 y1 y2 y3 y4
   unfold r0_Clusters.l1
   repeat' (with_reducible first | exact ih0 _ _ _ _ _ | exact ih1 _ _ _ _ _ | exact ih2 _ _ _ _ _ _ _ _ _ _ | exact stanzaref01_Of.mono _ _ _ | exact LeO.refl _ | exact LeO.none _ | refine LeO.ite ?_ ?_ | refine LeO.bind ?_ (fun _ => ?_))
  ·intro y0 y1 y2 y3 y4 y5 y6 y7 y8 y9
   unfold r0_Clusters.l2
   repeat' (with_reducible first | exact ih0 _ _ _ _ _ | exact ih1 _ _ _ _ _ | exact ih2 _ _ _ _ _ _ _ _ _ _ | exact stanzaref01_Of.mono _ _ _ | exact LeO.refl _ | exact LeO.none _ | refine LeO.ite ?_ ?_ | refine LeO.bind ?_ (fun _ => ?_))
theorem r0_Clusters.mono : ∀ a0 a1 a2 k, LeO (r0_Clusters.f k a0 a1 a2) (r0_Clusters.f (k + 1) a0 a1 a2) := by
 intro a0 a1 a2 k
 obtain ⟨ih0, ih1, ih2⟩ := r0_Clusters.mono_l k; unfold r0_Clusters.f
 repeat' (with_reducible first | exact ih0 _ _ _ _ _ | exact ih1 _ _ _ _ _ | exact ih2 _ _ _ _ _ _ _ _ _ _ | exact stanzaref01_Of.mono _ _ _ | exact LeO.refl _ | exact LeO.none _ | refine LeO.ite ?_ ?_ | refine LeO.bind ?_ (fun _ => ?_))
def r0_Clusters.T16 : Bool × List (List Nat × List Nat) := (true, [([], []), ([0], [0]), ([], []), ([], []), ([2, 3], [2, 3]), ([4], [4]), ([5], [5]), ([1, 6], [1, 6]), ([0, 1, 2, 3, 4, 5, 6, 7], []), ([8, 7, 0, 1, 2, 3, 4, 5, 6, 7], [7, 8])])
def r0_Clusters.B16 : List Nat := [0, 1, 0, 0, 12, 28, 60, 127, 255, 511]
theorem r0_Clusters.tab16 : rtab .any (opsOf Try.f19 16) = r0_Clusters.T16 := by kernel_rfl
theorem r0_Clusters.bits16 : waitsOk r0_Clusters.T16.2 r0_Clusters.B16 = true := by kernel_rfl
def r0_Clusters.T22 : Bool × List (List Nat × List Nat) := (true, [([], []), ([], []), ([1], [1]), ([0, 2], [0, 2]), ([3], [3]), ([], []), ([], []), ([5, 6], [5, 6]), ([7], [7]), ([8], [8]), ([4, 9], [4, 9])])
def r0_Clusters.B22 : List Nat := [0, 0, 2, 7, 15, 0, 0, 96, 224, 480, 1023]
theorem r0_Clusters.tab22 : rtab .any (opsOf Try.f19 22) = r0_Clusters.T22 := by kernel_rfl
theorem r0_Clusters.bits22 : waitsOk r0_Clusters.T22.2 r0_Clusters.B22 = true := by kernel_rfl
set_option maxHeartbeats 8000000 in
set_option maxRecDepth 100000 in
theorem r0_Clusters.calls (k : Nat) (A0 : Option Addr) (c0 : Nat) (l0 : List (S50)) (A1 : Option Addr) (c1 : Nat) (l1 : List Int) (A2 : Option Addr) (c2 : Nat) (l2 : List (S45)) (r1 : List (S48)) (r2 : List Int) (w : World) (hr0 : Kd.C k50 w A0 l0.length l0) (hc0 : l0.length ≤ c0) (hr1 : Kd.C (Kd.int .u8) w A1 l1.length l1) (hc1 : l1.length ≤ c1) (hr2 : Kd.C k45 w A2 l2.length l2) (hc2 : l2.length ≤ c2) (h : r0_Clusters.f k l0 l1 l2 = some (r1, r2)) :
  Calls Try.prog 19 #[.slice A0 l0.length c0, .slice A1 l1.length c1, .slice A2 l2.length c2] w fun e w' => ∃ v0_ v1_ : Value, e = .returned (.tuple #[v0_, v1_]) ∧ Kd.R k48 48 w' w.heap.size (fun _ => True) v0_ r1 ∧ Kd.R (Kd.int .i64) 3 w' w.heap.size (fun _ => True) v1_ r2 ∧ Below w.heap.size w w' := by
 have hu48 := Try.underlying48; have HR0 := zA.mk hr0; have HC0 := zA.mk hc0; clear hr0 hc0; have HR1 := zA.mk hr1; have HC1 := zA.mk hc1; clear hr1 hc1; have HR2 := zA.mk hr2; have HC2 := zA.mk hc2; clear hr2 hc2; have HB := zA.mk (Below.refl w.heap.size w); have H : (r0_Clusters.l0 k l0 l1 l2 ([] : List Int) 0) = some (r1, r2) := h
 clear h; have H' := zA.mk H
 clear H; go_enter Try.func19, Try.ntmps19
 go_wp2
 go_loopg [8, 9] k (fun kq v8 v9 w' => ∃ (x8_1 : List Int) (x9_1 : Int), v9 = .int .i64 x9_1 ∧ zA (r0_Clusters.l0 kq l0 l1 l2 x8_1 x9_1 = some (r1, r2)) ∧ zA (kq ≤ k) ∧ zA (Kd.R (Kd.int .i64) 3 w' w.heap.size (fun _ => True) v8 x8_1) ∧ zA (Below w.heap.size w w'))
 case atStart => exact ⟨(([] : List Int)), (0), aZ, H', ⟨Nat.le_refl _⟩, ⟨by first | exact Kd.R_nil _ _ _ _ _ | exact Kd.N_nil _ _ _ _ _ | exact Kd.V_nil _ _ _ _ _ | exact Kd.Q_nil _ _ _ _ _ | exact Kd.S_nil _ _ _ _ _⟩, ⟨aL HB⟩⟩
 clear H'; obtain ⟨x8_1, x9_1, rfl, HA, HK1, HO_8, HB⟩ := hrel; cases gk with
 | zero => exact absurd HA.out (by simp [r0_Clusters.l0])
 | succ k1 =>
  have H := HA.out; clear HA; simp only [r0_Clusters.l0] at H; by_cases c4 : x9_1 < (l0.length : Int)
  ·rw [if_pos c4] at H
   have c4b0 : decide (x9_1 < (l0.length : Int)) = true := decide_eq_true c4
   clear c4; by_cases c5 : x9_1 = 0
   ·rw [if_pos c5] at H
    have c5b0 : (x9_1 == 0) = true := beq_iff_eq.mpr c5
    have c5b1 : (x9_1 != 0) = false := bne_eq_false_iff_eq.mpr c5
    clear c5; by_cases c6 : x8_1.length < 17592186044416
    rotate_left
    ·rw [if_neg c6] at H
     exact absurd H (by simp)
    rw [if_pos c6] at H; have LMc6 := zA.mk c6; clear c6; obtain ⟨y425, hy425⟩ : ∃ y_ : List Int, y_ = (x8_1 ++ [x9_1]) := ⟨_, rfl⟩; replace H : (r0_Clusters.l0 k1 l0 l1 l2 y425 (wrap64 (x9_1 + 1))) = some (r1, r2) := by first | (rw [hy425]; with_reducible exact H) | (have H2_ := (Option.bind_some _ _).symm.trans H; rw [hy425]; with_reducible exact H2_) | (have H2_ := (Option.bind_some _ _).symm.trans H; with_reducible exact H2_) | with_reducible exact H | (rw [hy425]; exact H) | exact H
    have Ny425 := zA.mk hy425; clear hy425; have H' := zA.mk H
    clear H; go_wp2_with (first | ((with_reducible refine gate_builtin (b := .append) (xs := #[.tmp 36, .tmp 38]) rfl ?_); (try (refine gate_guard (by rfl) ?_; dsimp only)); at_builtin; refine Kd.R_append (Kd.int .i64) (w0 := w) w.heap.size rfl (.tmp 36) (.tmp 38) 35 3 (.int .i64 0) 8 rfl Try.underlying35 info3 rfl (by decide) (by omega) u8 x8_1 x9_1 [.int .i64 x9_1] (fun _ => True) (fun _ => False) rfl rfl ?aP (fun _ hk => hk.elim) ?aF ?aO ?aB ?aS ?aL ?_; (case aP => exact rfl); (case aB => exact (aL HB)); (case aF => exact (fun _ _ => trivial)); (case aO => exact (aR HO_8)); (case aS => exact (zF (aL HB))); (case aL => have := LMc6.out; omega); intro v426 w7 ho hb hg hat; rw [← Ny425.out] at ho; replace HB := zA.mk (hb); have HO427 := zA.mk (ho); clear HO_8; clear ho hb hg hat))
    go_roundg k1
    case measure => have := HK1.out; omega
    case rel => exact ⟨(y425), (wrap64 (x9_1 + 1)), aZ, H', ⟨by have := HK1.out; omega⟩, ⟨aR HO427⟩, ⟨aL HB⟩⟩
   rw [if_neg c5] at H; have c5b0 : (x9_1 == 0) = false := beq_eq_false_iff_ne.mpr c5
   have c5b1 : (x9_1 != 0) = true := bne_iff_ne.mpr c5
   by_cases c8 : x9_1 < (l1.length : Int)
   rotate_left
   ·rw [if_neg c8] at H
    have c8b0 : decide (x9_1 < (l1.length : Int)) = false := decide_eq_false c8
    clear c8; have H' := zA.mk H
    clear H; go_wp2
    go_roundg k1
    case measure => have := HK1.out; omega
    case rel => exact ⟨(x8_1), (wrap64 (x9_1 + 1)), aZ, H', ⟨by have := HK1.out; omega⟩, ⟨aR HO_8⟩, ⟨aL HB⟩⟩
   rw [if_pos c8] at H; have c8b0 : decide (x9_1 < (l1.length : Int)) = true := decide_eq_true c8
   clear c8; by_cases c9 : 0 ≤ x9_1
   rotate_left
   ·rw [if_neg c9] at H
    exact absurd H (by simp)
   rw [if_pos c9] at H; have c9b0 : decide (0 ≤ x9_1) = true := decide_eq_true c9
   clear c9; by_cases c10 : (rd l1 x9_1) = 0
   ·rw [if_pos c10] at H
    have c10b0 : ((rd l1 x9_1) == 0) = true := beq_iff_eq.mpr c10
    have c10b1 : ((rd l1 x9_1) != 0) = false := bne_eq_false_iff_eq.mpr c10
    clear c10; have H' := zA.mk H
    clear H; have p428 : 0 ≤ (x9_1 : Int) := aD
    have q428 : x9_1 < (l1.length : Int) := aD
    obtain ⟨ad428, e428, hx428_0⟩ := Kd.at_int HR1.out x9_1 p428 q428; cases e428
    replace hx428_0 := (HB.out.cell (World.block_lt_of_cell? w _ hx428_0)).trans hx428_0; replace p428 := eq_true p428; replace q428 := eq_true q428; go_wp2
    go_roundg k1
    case measure => have := HK1.out; omega
    case rel => exact ⟨(x8_1), (wrap64 (x9_1 + 1)), aZ, H', ⟨by have := HK1.out; omega⟩, ⟨aR HO_8⟩, ⟨aL HB⟩⟩
   rw [if_neg c10] at H; have c10b0 : ((rd l1 x9_1) == 0) = false := beq_eq_false_iff_ne.mpr c10
   have c10b1 : ((rd l1 x9_1) != 0) = true := bne_iff_ne.mpr c10
   by_cases c11 : x8_1.length < 17592186044416
   rotate_left
   ·rw [if_neg c11] at H
    exact absurd H (by simp)
   rw [if_pos c11] at H; have LMc11 := zA.mk c11; clear c11; obtain ⟨y429, hy429⟩ : ∃ y_ : List Int, y_ = (x8_1 ++ [x9_1]) := ⟨_, rfl⟩; replace H : (r0_Clusters.l0 k1 l0 l1 l2 y429 (wrap64 (x9_1 + 1))) = some (r1, r2) := by first | (rw [hy429]; with_reducible exact H) | (have H2_ := (Option.bind_some _ _).symm.trans H; rw [hy429]; with_reducible exact H2_) | (have H2_ := (Option.bind_some _ _).symm.trans H; with_reducible exact H2_) | with_reducible exact H | (rw [hy429]; exact H) | exact H
   have Ny429 := zA.mk hy429; clear hy429; have H' := zA.mk H
   clear H; have p428 : 0 ≤ (x9_1 : Int) := aD
   have q428 : x9_1 < (l1.length : Int) := aD
   obtain ⟨ad428, e428, hx428_0⟩ := Kd.at_int HR1.out x9_1 p428 q428; cases e428
   replace hx428_0 := (HB.out.cell (World.block_lt_of_cell? w _ hx428_0)).trans hx428_0; replace p428 := eq_true p428; replace q428 := eq_true q428; go_wp2_with (first | ((with_reducible refine gate_builtin (b := .append) (xs := #[.tmp 36, .tmp 38]) rfl ?_); (try (refine gate_guard (by rfl) ?_; dsimp only)); at_builtin; refine Kd.R_append (Kd.int .i64) (w0 := w) w.heap.size rfl (.tmp 36) (.tmp 38) 35 3 (.int .i64 0) 8 rfl Try.underlying35 info3 rfl (by decide) (by omega) u8 x8_1 x9_1 [.int .i64 x9_1] (fun _ => True) (fun _ => False) rfl rfl ?aP (fun _ hk => hk.elim) ?aF ?aO ?aB ?aS ?aL ?_; (case aP => exact rfl); (case aB => exact (aL HB)); (case aF => exact (fun _ _ => trivial)); (case aO => exact (aR HO_8)); (case aS => exact (zF (aL HB))); (case aL => have := LMc11.out; omega); intro v430 w12 ho hb hg hat; rw [← Ny429.out] at ho; replace HB := zA.mk (hb); have HO431 := zA.mk (ho); clear HO_8; clear ho hb hg hat))
   go_roundg k1
   case measure => have := HK1.out; omega
   case rel => exact ⟨(y429), (wrap64 (x9_1 + 1)), aZ, H', ⟨by have := HK1.out; omega⟩, ⟨aR HO431⟩, ⟨aL HB⟩⟩
  rw [if_neg c4] at H; have c4b0 : decide (x9_1 < (l0.length : Int)) = false := decide_eq_false c4
  clear c4; by_cases c13 : x8_1.length < 17592186044416
  rotate_left
  ·rw [if_neg c13] at H
   exact absurd H (by simp)
  rw [if_pos c13] at H; have LMc13 := zA.mk c13; clear c13; obtain ⟨y432, hy432⟩ : ∃ y_ : List Int, y_ = (x8_1 ++ [(l0.length : Int)]) := ⟨_, rfl⟩; replace H : (r0_Clusters.l1 k1 l0 l2 y432 ([] : List (S48)) 0) = some (r1, r2) := by first | (rw [hy432]; with_reducible exact H) | (have H2_ := (Option.bind_some _ _).symm.trans H; rw [hy432]; with_reducible exact H2_) | (have H2_ := (Option.bind_some _ _).symm.trans H; with_reducible exact H2_) | with_reducible exact H | (rw [hy432]; exact H) | exact H
  have Ny432 := zA.mk hy432; clear hy432; have H' := zA.mk H
  clear H; go_wp2_with (first | ((with_reducible refine gate_builtin (b := .append) (xs := #[.tmp 40, .tmp 43]) rfl ?_); (try (refine gate_guard (by rfl) ?_; dsimp only)); at_builtin; refine Kd.R_append (Kd.int .i64) (w0 := w) w.heap.size rfl (.tmp 40) (.tmp 43) 35 3 (.int .i64 0) 8 rfl Try.underlying35 info3 rfl (by decide) (by omega) u8 x8_1 (l0.length : Int) [.int .i64 (l0.length : Int)] (fun _ => True) (fun _ => False) rfl rfl ?aP (fun _ hk => hk.elim) ?aF ?aO ?aB ?aS ?aL ?_; (case aP => exact rfl); (case aB => exact (aL HB)); (case aF => exact (fun _ _ => trivial)); (case aO => exact (aR HO_8)); (case aS => exact (zF (aL HB))); (case aL => have := LMc13.out; omega); intro v433 w14 ho hb hg hat; rw [← Ny432.out] at ho; replace HB := zA.mk (hb); have HO434 := zA.mk (ho); clear HO_8; clear ho hb hg hat))
  go_loopg [10, 11] k1 (fun kq v10 v11 w' => ∃ (x10_2 : List (S48)) (x11_2 : Int), v11 = .int .i64 x11_2 ∧ zA (r0_Clusters.l1 kq l0 l2 y432 x10_2 x11_2 = some (r1, r2)) ∧ zA (kq ≤ k1) ∧ zA (Kd.R (Kd.int .i64) 3 w' w.heap.size (fun _ => True) v433 y432) ∧ zA (Kd.R k48 48 w' w.heap.size (fun _ => True) v10 x10_2) ∧ zA (Below w.heap.size w w'))
  case atStart => exact ⟨(([] : List (S48))), (0), aZ, H', ⟨Nat.le_refl _⟩, ⟨aR HO434⟩, ⟨by first | exact Kd.R_nil _ _ _ _ _ | exact Kd.N_nil _ _ _ _ _ | exact Kd.V_nil _ _ _ _ _ | exact Kd.Q_nil _ _ _ _ _ | exact Kd.S_nil _ _ _ _ _⟩, ⟨aL HB⟩⟩
  clear H'; obtain ⟨x10_2, x11_2, rfl, HA, HK2, HO_8, HO_10, HB⟩ := hrel; cases gk with
  | zero => exact absurd HA.out (by simp [r0_Clusters.l1])
  | succ k2 =>
   have H := HA.out; clear HA; simp only [r0_Clusters.l1] at H; by_cases c15 : (wrap64 (x11_2 + 1)) < (y432.length : Int)
   rotate_left
   ·rw [if_neg c15] at H
    have c15b0 : decide ((wrap64 (x11_2 + 1)) < (y432.length : Int)) = false := decide_eq_false c15
    clear c15; simp only [Option.some.injEq, Prod.mk.injEq] at H; obtain ⟨rfl, rfl⟩ := H; obtain ⟨Ao88, co88, eo88⟩ := Kd.zQ HO_8.out; subst eo88; go_wp2
    go_ret2
    exact ⟨_, _, aX, aR HO_10, aR HO_8, aL HB⟩
   rw [if_pos c15] at H; have c15b0 : decide ((wrap64 (x11_2 + 1)) < (y432.length : Int)) = true := decide_eq_true c15
   clear c15; by_cases c16 : 0 ≤ x11_2
   rotate_left
   ·rw [if_neg c16] at H
    exact absurd H (by simp)
   rw [if_pos c16] at H; have c16b0 : decide (0 ≤ x11_2) = true := decide_eq_true c16
   clear c16; by_cases c17 : x11_2 < (y432.length : Int)
   rotate_left
   ·rw [if_neg c17] at H
    exact absurd H (by simp)
   rw [if_pos c17] at H; have c17b0 : decide (x11_2 < (y432.length : Int)) = true := decide_eq_true c17
   clear c17; by_cases c18 : 0 ≤ (rd y432 x11_2)
   rotate_left
   ·rw [if_neg c18] at H
    exact absurd H (by simp)
   rw [if_pos c18] at H; have c18b0 : decide (0 ≤ (rd y432 x11_2)) = true := decide_eq_true c18
   clear c18; by_cases c19 : (rd y432 x11_2) < (l0.length : Int)
   rotate_left
   ·rw [if_neg c19] at H
    exact absurd H (by simp)
   rw [if_pos c19] at H; have c19b0 : decide ((rd y432 x11_2) < (l0.length : Int)) = true := decide_eq_true c19
   clear c19; have H' := zA.mk H
   clear H; obtain ⟨Ao20, co20, eo20⟩ := Kd.zQ HO_8.out; subst eo20; have p435 : 0 ≤ (x11_2 : Int) := aD
   have q435 : x11_2 < (y432.length : Int) := aD
   obtain ⟨ad435, e435, hx435_0⟩ := Kd.at_int (Kd.zN HO_8.out).2.2 x11_2 p435 q435; cases e435
   replace p435 := eq_true p435; replace q435 := eq_true q435; have p436 : 0 ≤ ((rd y432 x11_2) : Int) := aD
   have q436 : (rd y432 x11_2) < (l0.length : Int) := aD
   obtain ⟨ad436, e436, hx436_0, hx436_1, hx436_2⟩ := at_T50 HR0.out (rd y432 x11_2) p436 q436; cases e436
   replace hx436_0 := (HB.out.cell (World.block_lt_of_cell? w _ hx436_0)).trans hx436_0; replace hx436_1 := (HB.out.cell (World.block_lt_of_cell? w _ hx436_1)).trans hx436_1; replace hx436_2 := (HB.out.cell (World.block_lt_of_cell? w _ hx436_2)).trans hx436_2; replace p436 := eq_true p436; replace q436 := eq_true q436; go_wp2_with (first | ((with_reducible refine gate_dst (N := 12) rfl ?_); (try (refine gate_guard (by rfl) ?_; dsimp only)); refine box_event ?hg (N := 12) ?hd (cs := #[.int .i64 0, .int .i64 0, .int .i64 0, .int .u8 0]) (t := 48) ?hr ?_; (case hd => rfl); (case hg => rfl); (case hr => first | (go_simp; done) | (go_simp; rfl)); intro gb437 hg w21 hbox hb; replace HO_8 := zA.mk (Kd.zO (aR HO_8) hb); replace HO_10 := zA.mk (Kd.zO (Kd.R_elderB (aR HO_10) gb437 (Nat.le_of_eq hg.symm)) hb); have BK437 := zA.mk (hbox); have GW437 := zA.mk ((by rw [hg]; exact (zF (aL HB)) : w.heap.size ≤ gb437)); replace HB := zA.mk (below_step (aL HB) hb); have GE437 := GW437; clear hb hbox hg; obtain ⟨hcz22_0, hcz22_1, hcz22_2, hcz22_3, hfz22_0, hfz22_1, hfz22_2, hfz22_3⟩ := aC4 BK437) | ((with_reducible refine gate_store (t := 48) (p := 12) rfl ?_); refine store_event (t := 48) (p := 12) (v := ?vo_w23) (w1 := ((((w21.setCell ⟨gb437, 0, none⟩ (.int .i64 ((rd_T50 l0 (rd y432 x11_2)).f1))).setCell ⟨gb437, 1, none⟩ (.int .i64 0)).setCell ⟨gb437, 2, none⟩ (.int .i64 0)).setCell ⟨gb437, 3, none⟩ (.int .u8 0))) ?hg ?ho ?hn ?hr ?_; (case ho => rfl); (case hg => rfl); (case hn => rfl); (case hr => first | (go_simp; done) | (go_simp; rfl)); intro w23 hw; have n0_ : zA (Kd.R (Kd.int .i64) 3 w23 w.heap.size (fun _ => True) (.slice (some ad435) y432.length co20) y432) := ⟨(by rw [hw]; exact (by (with_reducible repeat (first | apply Kd.zG | apply Kd.zH | apply Kd.zI)); exact Kd.zS (Kd.zP (p := ⟨gb437, 3, none⟩) (Kd.zP (p := ⟨gb437, 2, none⟩) (Kd.zP (p := ⟨gb437, 1, none⟩) (Kd.zP (p := ⟨gb437, 0, none⟩) (Kd.zT HO_8.out BK437.out (by decide)) (fun _ hk => hk.2) (.int .i64 ((rd_T50 l0 (rd y432 x11_2)).f1))) (fun _ hk => hk.2) (.int .i64 0)) (fun _ hk => hk.2) (.int .i64 0)) (fun _ hk => hk.2) (.int .u8 0)) (fun _ hk => trivial)))⟩; have n1_ : zA (Kd.R k48 48 w23 w.heap.size (fun k_ => k_ ≠ gb437) u10 x10_2) := ⟨(by rw [hw]; exact (by (with_reducible repeat (first | apply Kd.zG | apply Kd.zH | apply Kd.zI)); exact Kd.zS (Kd.zP (p := ⟨gb437, 3, none⟩) (Kd.zP (p := ⟨gb437, 2, none⟩) (Kd.zP (p := ⟨gb437, 1, none⟩) (Kd.zP (p := ⟨gb437, 0, none⟩) (Kd.zS HO_10.out (fun k_ hk => (⟨hk, hk.2⟩ : _ ∧ k_ ≠ gb437))) (fun _ hk => hk.2) (.int .i64 ((rd_T50 l0 (rd y432 x11_2)).f1))) (fun _ hk => hk.2) (.int .i64 0)) (fun _ hk => hk.2) (.int .i64 0)) (fun _ hk => hk.2) (.int .u8 0)) (fun _ hk => hk.1.2)))⟩; have n2_ : zA (w23.heap[gb437]? = some (.cells #[.int .i64 ((rd_T50 l0 (rd y432 x11_2)).f1), .int .i64 0, .int .i64 0, .int .u8 0] 48 (0, 0))) := ⟨(by rw [hw]; exact (by (with_reducible repeat (first | refine zD ?_ _ | refine zC ?_ | refine zB ?_ _)); refine blk_put (cs := #[.int .i64 ((rd_T50 l0 (rd y432 x11_2)).f1), .int .i64 0, .int .i64 0, .int .u8 0]) ?_ 3 _ rfl; (with_reducible repeat (first | refine zD ?_ _ | refine zC ?_ | refine zB ?_ _)); refine blk_put (cs := #[.int .i64 ((rd_T50 l0 (rd y432 x11_2)).f1), .int .i64 0, .int .i64 0, .int .u8 0]) ?_ 2 _ rfl; (with_reducible repeat (first | refine zD ?_ _ | refine zC ?_ | refine zB ?_ _)); refine blk_put (cs := #[.int .i64 ((rd_T50 l0 (rd y432 x11_2)).f1), .int .i64 0, .int .i64 0, .int .u8 0]) ?_ 1 _ rfl; (with_reducible repeat (first | refine zD ?_ _ | refine zC ?_ | refine zB ?_ _)); refine blk_put (cs := #[.int .i64 0, .int .i64 0, .int .i64 0, .int .u8 0]) ?_ 0 _ rfl; (with_reducible repeat (first | refine zD ?_ _ | refine zC ?_ | refine zB ?_ _)); exact BK437.out))⟩; have n3_ : zA (Below w.heap.size w w23) := ⟨(by rw [hw]; exact (aL HB))⟩; clear hw; clear HO_8; clear HO_10; clear BK437; clear HB; have HO_8 := n0_; have HO_10 := n1_; have BK437 := n2_; have HB := n3_; clear n0_ n1_ n2_ n3_; have p438 : 0 ≤ (x11_2 : Int) := aD; have q438 : x11_2 < (y432.length : Int) := aD; obtain ⟨ad438, e438, hx438_0⟩ := Kd.at_int (Kd.zN HO_8.out).2.2 x11_2 p438 q438; obtain rfl : ad435 = ad438 := (by injection e438); replace p438 := eq_true p438; replace q438 := eq_true q438))
   obtain ⟨ji24, hji24⟩ : ∃ j_ : Int, (wrap64 (x11_2 + 1)) = j_ := ⟨_, rfl⟩; have hji24w : (IntKind.i64.wrap (x11_2 + 1)) = ji24 := (i64_w _).trans hji24
   (try simp only [hji24])
   go_loopg [13] k2 (fun kq v13 w' => ∃ (x13_3 : Int) (x438001_3 : Int) (x438002_3 : Int), v13 = .int .i64 x13_3 ∧ zA (r0_Clusters.l2 kq l0 l2 y432 x10_2 x11_2 x13_3 ((rd_T50 l0 (rd y432 x11_2)).f1) x438001_3 x438002_3 0 = some (r1, r2)) ∧ zA (kq ≤ k2) ∧ zA (Kd.R (Kd.int .i64) 3 w' w.heap.size (fun _ => True) (.slice (some ad435) y432.length co20) y432) ∧ zA (Kd.R k48 48 w' w.heap.size (fun k_ => k_ ≠ gb437) u10 x10_2) ∧ zA (w'.heap[gb437]? = some (.cells #[.int .i64 ((rd_T50 l0 (rd y432 x11_2)).f1), .int .i64 x438001_3, .int .i64 x438002_3, .int .u8 0] 48 (0, 0))) ∧ zA (Below w.heap.size w w'))
   case atStart => exact ⟨(rd y432 x11_2), (0), (0), aZ, H', ⟨Nat.le_refl _⟩, ⟨aR HO_8⟩, ⟨aR HO_10⟩, ⟨aB BK437⟩, ⟨aL HB⟩⟩
   clear H'; obtain ⟨x13_3, x438001_3, x438002_3, rfl, HA, HK3, HO_8, HO_10, BK437, HB⟩ := hrel; cases gk with
   | zero => exact absurd HA.out (by simp [r0_Clusters.l2])
   | succ k3 =>
    have H := HA.out; clear HA; simp only [r0_Clusters.l2] at H; replace H : (if 0 ≤ (ji24) then (if (ji24) < (y432.length : Int) then (if x13_3 < (rd y432 (ji24)) then (if 0 ≤ x13_3 then (if x13_3 < (l0.length : Int) then ((stanzaref01_Of.f k3 l2 ((rd_T50 l0 x13_3).f0)).bind fun t442 => (if t442 > 2 then (if 2 > x438002_3 then (r0_Clusters.l2 k3 l0 l2 y432 x10_2 x11_2 (wrap64 (x13_3 + 1)) ((rd_T50 l0 (rd y432 x11_2)).f1) (wrap64 (x438001_3 + ((rd_T50 l0 x13_3).f2))) 2 0) else (r0_Clusters.l2 k3 l0 l2 y432 x10_2 x11_2 (wrap64 (x13_3 + 1)) ((rd_T50 l0 (rd y432 x11_2)).f1) (wrap64 (x438001_3 + ((rd_T50 l0 x13_3).f2))) x438002_3 0)) else (if t442 > x438002_3 then (r0_Clusters.l2 k3 l0 l2 y432 x10_2 x11_2 (wrap64 (x13_3 + 1)) ((rd_T50 l0 (rd y432 x11_2)).f1) (wrap64 (x438001_3 + ((rd_T50 l0 x13_3).f2))) t442 0) else (r0_Clusters.l2 k3 l0 l2 y432 x10_2 x11_2 (wrap64 (x13_3 + 1)) ((rd_T50 l0 (rd y432 x11_2)).f1) (wrap64 (x438001_3 + ((rd_T50 l0 x13_3).f2))) x438002_3 0)))) else (none)) else (none)) else (if 0 ≤ x11_2 then (if x11_2 < (y432.length : Int) then (if (rd y432 (ji24)) = (wrap64 ((rd y432 x11_2) + 1)) then (if 0 ≤ (rd y432 x11_2) then (if (rd y432 x11_2) < (l0.length : Int) then (if ((rd_T50 l0 (rd y432 x11_2)).f0) = 32 then (if ((rd_T50 l0 (rd y432 x11_2)).f0) = 9 then (if x10_2.length < 4398046511104 then (r0_Clusters.l1 k3 l0 l2 y432 (x10_2 ++ [(⟨((rd_T50 l0 (rd y432 x11_2)).f1), x438001_3, x438002_3, 2⟩ : S48)]) ji24) else (none)) else (if x10_2.length < 4398046511104 then (r0_Clusters.l1 k3 l0 l2 y432 (x10_2 ++ [(⟨((rd_T50 l0 (rd y432 x11_2)).f1), x438001_3, x438002_3, 1⟩ : S48)]) ji24) else (none))) else (if ((rd_T50 l0 (rd y432 x11_2)).f0) = 9 then (if x10_2.length < 4398046511104 then (r0_Clusters.l1 k3 l0 l2 y432 (x10_2 ++ [(⟨((rd_T50 l0 (rd y432 x11_2)).f1), x438001_3, x438002_3, 2⟩ : S48)]) ji24) else (none)) else (if x10_2.length < 4398046511104 then (r0_Clusters.l1 k3 l0 l2 y432 (x10_2 ++ [(⟨((rd_T50 l0 (rd y432 x11_2)).f1), x438001_3, x438002_3, 0⟩ : S48)]) ji24) else (none)))) else (none)) else (none)) else (if x10_2.length < 4398046511104 then (r0_Clusters.l1 k3 l0 l2 y432 (x10_2 ++ [(⟨((rd_T50 l0 (rd y432 x11_2)).f1), x438001_3, x438002_3, 0⟩ : S48)]) ji24) else (none))) else (none)) else (none))) else (none)) else (none)) = some (r1, r2) := by first | (rw [hji24] at H; exact H) | (simp only [hji24] at H ⊢; exact H)
    (try rw [hji24] at c15b0)
    by_cases c25 : 0 ≤ (ji24)
    rotate_left
    ·rw [if_neg c25] at H
     exact absurd H (by simp)
    rw [if_pos c25] at H; have c25b0 : decide (0 ≤ (ji24)) = true := decide_eq_true c25
    clear c25; by_cases c26 : (ji24) < (y432.length : Int)
    rotate_left
    ·rw [if_neg c26] at H
     exact absurd H (by simp)
    rw [if_pos c26] at H; have c26b0 : decide ((ji24) < (y432.length : Int)) = true := decide_eq_true c26
    clear c26; by_cases c27 : x13_3 < (rd y432 (ji24))
    ·rw [if_pos c27] at H
     have c27b0 : decide (x13_3 < (rd y432 (ji24))) = true := decide_eq_true c27
     clear c27; by_cases c28 : 0 ≤ x13_3
     rotate_left
     ·rw [if_neg c28] at H
      exact absurd H (by simp)
     rw [if_pos c28] at H; have c28b0 : decide (0 ≤ x13_3) = true := decide_eq_true c28
     clear c28; by_cases c29 : x13_3 < (l0.length : Int)
     rotate_left
     ·rw [if_neg c29] at H
      exact absurd H (by simp)
     rw [if_pos c29] at H; have c29b0 : decide (x13_3 < (l0.length : Int)) = true := decide_eq_true c29
     clear c29; replace H := Option.bind_eq_some_iff.mp H; obtain ⟨t442, A300, H⟩ := H; replace H : (if t442 > 2 then (if 2 > x438002_3 then (r0_Clusters.l2 k3 l0 l2 y432 x10_2 x11_2 (wrap64 (x13_3 + 1)) ((rd_T50 l0 (rd y432 x11_2)).f1) (wrap64 (x438001_3 + ((rd_T50 l0 x13_3).f2))) 2 0) else (r0_Clusters.l2 k3 l0 l2 y432 x10_2 x11_2 (wrap64 (x13_3 + 1)) ((rd_T50 l0 (rd y432 x11_2)).f1) (wrap64 (x438001_3 + ((rd_T50 l0 x13_3).f2))) x438002_3 0)) else (if t442 > x438002_3 then (r0_Clusters.l2 k3 l0 l2 y432 x10_2 x11_2 (wrap64 (x13_3 + 1)) ((rd_T50 l0 (rd y432 x11_2)).f1) (wrap64 (x438001_3 + ((rd_T50 l0 x13_3).f2))) t442 0) else (r0_Clusters.l2 k3 l0 l2 y432 x10_2 x11_2 (wrap64 (x13_3 + 1)) ((rd_T50 l0 (rd y432 x11_2)).f1) (wrap64 (x438001_3 + ((rd_T50 l0 x13_3).f2))) x438002_3 0))) = some (r1, r2) := H; have A30 := zA.mk A300; clear A300; by_cases c31 : t442 > 2
     ·rw [if_pos c31] at H
      have c31b0 : decide (2 < t442) = true := decide_eq_true c31
      clear c31; by_cases c32 : 2 > x438002_3
      rotate_left
      ·rw [if_neg c32] at H
       have c32b0 : decide (x438002_3 < 2) = false := decide_eq_false c32
       clear c32; have H' := zA.mk H
       clear H; have p439 : 0 ≤ ((ji24) : Int) := aD
       have q439 : (ji24) < (y432.length : Int) := aD
       obtain ⟨ad439, e439, hx439_0⟩ := Kd.at_int (Kd.zN HO_8.out).2.2 (ji24) p439 q439; obtain rfl : ad435 = ad439 := (by injection e439)
       replace p439 := eq_true p439; replace q439 := eq_true q439; try go_wp2
       replace HO_8 := zA.mk (Kd.zI HO_8.out); replace HO_10 := zA.mk (Kd.zI HO_10.out); replace BK437 := zA.mk (zC BK437.out); replace HB := zA.mk (below_drew1 HB.out); have p440 : 0 ≤ (x13_3 : Int) := aD
       have q440 : x13_3 < (l0.length : Int) := aD
       obtain ⟨ad440, e440, hx440_0, hx440_1, hx440_2⟩ := at_T50 HR0.out x13_3 p440 q440; have hw440_2 := hx440_2; have hw440_1 := hx440_1; have hw440_0 := hx440_0; obtain rfl : ad436 = ad440 := (by injection e440)
       replace hx440_0 := (HB.out.cell (World.block_lt_of_cell? w _ hx440_0)).trans hx440_0; replace hx440_1 := (HB.out.cell (World.block_lt_of_cell? w _ hx440_1)).trans hx440_1; replace hx440_2 := (HB.out.cell (World.block_lt_of_cell? w _ hx440_2)).trans hx440_2; replace p440 := eq_true p440; replace q440 := eq_true q440; refine start_ (n := 10) (S := fun w' => w'.cell? ⟨gb437, 0, none⟩ = some (.int .i64 ((rd_T50 l0 (rd y432 x11_2)).f1)) ∧ w'.cell? ⟨gb437, 1, none⟩ = some (.int .i64 x438001_3) ∧ w'.cell? ⟨gb437, 2, none⟩ = some (.int .i64 x438002_3) ∧ w'.cell? ⟨gb437, 3, none⟩ = some (.int .u8 0) ∧ w'.cell? (ad436.add ((x13_3).toNat * 3)) = some (.int .i32 ((rd_T50 l0 x13_3).f0)) ∧ w'.cell? ⟨(ad436.add ((x13_3).toNat * 3)).block, (ad436.add ((x13_3).toNat * 3)).off + 1, none⟩ = some (.int .i64 ((rd_T50 l0 x13_3).f1)) ∧ w'.cell? ⟨(ad436.add ((x13_3).toNat * 3)).block, (ad436.add ((x13_3).toNat * 3)).off + 2, none⟩ = some (.int .i64 ((rd_T50 l0 x13_3).f2))) (ds := [9]) #[false, false, false, false, false, false, false, false, false, false] (by kernel_rfl) rfl rfl ⟨(zE BK437.out 0).trans rfl, (zE BK437.out 1).trans rfl, (zE BK437.out 2).trans rfl, (zE BK437.out 3).trans rfl, ((HB.out.cell (World.block_lt_of_cell? w _ hw440_0)).trans hw440_0), ((HB.out.cell (World.block_lt_of_cell? w _ hw440_1)).trans hw440_1), ((HB.out.cell (World.block_lt_of_cell? w _ hw440_2)).trans hw440_2)⟩ (fun hHeld => ?_); refine with_tabW r0_Clusters.tab16 r0_Clusters.bits16 (fun HT_ HW_ => ?_)
       generalize wr.drew = w38 at HO_8 HO_10 BK437 HB hx440_0 hx440_1 hx440_2 hHeld ⊢
       refine aP 0 (some 74) (tf_ 1 10) HT_ ?_
       refine aP 2 (some 76) (tb_ 5 10) HT_ ?_
       refine aP 3 (some 77) (tb_ 13 10) HT_ ?_
       refine aP 4 (some 78) (tb_ 29 10) HT_ ?_
       refine aP 5 (some 79) (tb_ 61 10) HT_ ?_
       refine take_ (i := 1) (N := some 75) (v := ?_) (a' := ?_) (tf_ 6 10) rfl rfl (take_ofW HT_.out HW_.out (by kernel_rfl)) (fun _ _ _ h => h) (Or.inl ⟨by rfl, ?_⟩) hHeld ?_ ?_
       rotate_left
       ·rintro w' ⟨s0, s1, s2, s3, s4, s5, s6⟩
        go_simp
        with_reducible rfl
       rotate_left
       ·simp only [Act.put, sA_, sB_, sC_, i64_w, i32_w]
        rfl
       refine take_ (i := 6) (N := some 80) (v := ?_) (a' := ?_) (tf_ 7 10) rfl rfl (take_ofW HT_.out HW_.out (by kernel_rfl)) (fun _ _ _ h => h) (Or.inl ⟨by rfl, ?_⟩) hHeld ?_ ?_
       rotate_left
       ·rintro w' ⟨s0, s1, s2, s3, s4, s5, s6⟩
        go_simp
        with_reducible rfl
       rotate_left
       ·simp only [Act.put, sA_, sB_, sC_, i64_w, i32_w]
        rfl
       refine aP 7 (some 81) (tf_ 8 10) HT_ ?_
       refine aP 8 (some 82) (tf_ 9 10) HT_ ?_
       refine last_ (i := 9) (N := none) (tb_ 1023 10) rfl rfl (one_of HT_.out (by kernel_rfl)) (by decide) (fun K hK => ?_)
       have hs39 : w38.cell? ⟨gb437, 1, none⟩ = some (.int .i64 x438001_3) := (zE BK437.out 1).trans rfl
       have hfs39 := blk_frozen BK437.out 1; refine skip_ (w1 := ?_) (by rfl) rfl ?_ ?_
       rotate_left
       ·go_simp
        rfl
       refine hK.out _ _ ?_
       clear hK K; refine done_ (done_of HT_.out (by kernel_rfl)) ?_
       have n0_ : zA (Kd.R (Kd.int .i64) 3 (w38.setCell ⟨gb437, 1, none⟩ (.int .i64 (wrap64 (x438001_3 + ((rd_T50 l0 x13_3).f2))))) w.heap.size (fun _ => True) (.slice (some ad435) y432.length co20) y432) := ⟨by (with_reducible repeat (first | apply Kd.zG | apply Kd.zH | apply Kd.zI)); exact Kd.zS (Kd.zP (p := ⟨gb437, 1, none⟩) (Kd.zT HO_8.out BK437.out (by decide)) (fun _ hk => hk.2) (.int .i64 (wrap64 (x438001_3 + ((rd_T50 l0 x13_3).f2))))) (fun _ hk => trivial)⟩
       have n1_ : zA (Kd.R k48 48 (w38.setCell ⟨gb437, 1, none⟩ (.int .i64 (wrap64 (x438001_3 + ((rd_T50 l0 x13_3).f2))))) w.heap.size (fun k_ => k_ ≠ gb437) u10 x10_2) := ⟨by (with_reducible repeat (first | apply Kd.zG | apply Kd.zH | apply Kd.zI)); exact Kd.zS (Kd.zP (p := ⟨gb437, 1, none⟩) (Kd.zS HO_10.out (fun k_ hk => (⟨hk, hk⟩ : _ ∧ k_ ≠ gb437))) (fun _ hk => hk.2) (.int .i64 (wrap64 (x438001_3 + ((rd_T50 l0 x13_3).f2))))) (fun _ hk => hk.1)⟩
       have n2_ : zA ((w38.setCell ⟨gb437, 1, none⟩ (.int .i64 (wrap64 (x438001_3 + ((rd_T50 l0 x13_3).f2))))).heap[gb437]? = some (.cells #[.int .i64 ((rd_T50 l0 (rd y432 x11_2)).f1), .int .i64 (wrap64 (x438001_3 + ((rd_T50 l0 x13_3).f2))), .int .i64 x438002_3, .int .u8 0] 48 (0, 0))) := ⟨by (with_reducible repeat (first | refine zD ?_ _ | refine zC ?_ | refine zB ?_ _)); refine blk_put (cs := #[.int .i64 ((rd_T50 l0 (rd y432 x11_2)).f1), .int .i64 x438001_3, .int .i64 x438002_3, .int .u8 0]) ?_ 1 _ rfl; (with_reducible repeat (first | refine zD ?_ _ | refine zC ?_ | refine zB ?_ _)); exact BK437.out⟩
       have n3_ : zA (Below w.heap.size w (w38.setCell ⟨gb437, 1, none⟩ (.int .i64 (wrap64 (x438001_3 + ((rd_T50 l0 x13_3).f2)))))) := ⟨aL HB⟩
       (try clear HO_8)
       (try clear HO_10)
       (try clear BK437)
       (try clear HB)
       generalize (w38.setCell ⟨gb437, 1, none⟩ (.int .i64 (wrap64 (x438001_3 + ((rd_T50 l0 x13_3).f2))))) = w40 at n0_ n1_ n2_ n3_ ⊢
       have HO_8 := n0_; have HO_10 := n1_; have BK437 := n2_; have HB := n3_; clear n0_ n1_ n2_ n3_; have p441 : 0 ≤ (x13_3 : Int) := aD
       have q441 : x13_3 < (l0.length : Int) := aD
       obtain ⟨ad441, e441, hx441_0, hx441_1, hx441_2⟩ := at_T50 HR0.out x13_3 p441 q441; obtain rfl : ad436 = ad441 := (by injection e441)
       replace hx441_0 := (HB.out.cell (World.block_lt_of_cell? w _ hx441_0)).trans hx441_0; replace hx441_1 := (HB.out.cell (World.block_lt_of_cell? w _ hx441_1)).trans hx441_1; replace hx441_2 := (HB.out.cell (World.block_lt_of_cell? w _ hx441_2)).trans hx441_2; replace p441 := eq_true p441; replace q441 := eq_true q441; try go_wp2_with (first | ((with_reducible refine gate_callee (f := 37) rfl ?_); refine goesL_ (some 89) rfl rfl Try.func37 (by kernel_rfl) rfl #[.slice A2 l2.length c2, .int .i32 ((rd_T50 l0 x13_3).f0)] rfl aT ?_; (with_reducible refine (stanzaref01_Of.calls k3 _ _ l2 ((rd_T50 l0 x13_3).f0) t442 _ ?side1 ?side2 A30.out).mono ?_); (case side1 => exact aA HR2 HB); (case side2 => exact HC2.out); rintro e w' ⟨rfl, ⟨nd, rfl⟩⟩; refine ⟨_, rfl, ?_⟩; obtain ⟨hcz41_0, hcz41_1, hcz41_2, hcz41_3, hfz41_0, hfz41_1, hfz41_2, hfz41_3⟩ := aC4 BK437))
       go_roundg k3
       case measure => have := HK1.out; have := HK2.out; have := HK3.out; omega
       case rel => exact ⟨(wrap64 (x13_3 + 1)), (wrap64 (x438001_3 + ((rd_T50 l0 x13_3).f2))), (x438002_3), aZ, H', ⟨by have := HK1.out; have := HK2.out; have := HK3.out; omega⟩, ⟨aR HO_8⟩, ⟨aR HO_10⟩, ⟨aB BK437⟩, ⟨aL HB⟩⟩
      rw [if_pos c32] at H; have c32b0 : decide (x438002_3 < 2) = true := decide_eq_true c32
      clear c32; have H' := zA.mk H
      clear H; have p439 : 0 ≤ ((ji24) : Int) := aD
      have q439 : (ji24) < (y432.length : Int) := aD
      obtain ⟨ad439, e439, hx439_0⟩ := Kd.at_int (Kd.zN HO_8.out).2.2 (ji24) p439 q439; obtain rfl : ad435 = ad439 := (by injection e439)
      replace p439 := eq_true p439; replace q439 := eq_true q439; try go_wp2
      replace HO_8 := zA.mk (Kd.zI HO_8.out); replace HO_10 := zA.mk (Kd.zI HO_10.out); replace BK437 := zA.mk (zC BK437.out); replace HB := zA.mk (below_drew1 HB.out); have p440 : 0 ≤ (x13_3 : Int) := aD
      have q440 : x13_3 < (l0.length : Int) := aD
      obtain ⟨ad440, e440, hx440_0, hx440_1, hx440_2⟩ := at_T50 HR0.out x13_3 p440 q440; have hw440_2 := hx440_2; have hw440_1 := hx440_1; have hw440_0 := hx440_0; obtain rfl : ad436 = ad440 := (by injection e440)
      replace hx440_0 := (HB.out.cell (World.block_lt_of_cell? w _ hx440_0)).trans hx440_0; replace hx440_1 := (HB.out.cell (World.block_lt_of_cell? w _ hx440_1)).trans hx440_1; replace hx440_2 := (HB.out.cell (World.block_lt_of_cell? w _ hx440_2)).trans hx440_2; replace p440 := eq_true p440; replace q440 := eq_true q440; refine start_ (n := 10) (S := fun w' => w'.cell? ⟨gb437, 0, none⟩ = some (.int .i64 ((rd_T50 l0 (rd y432 x11_2)).f1)) ∧ w'.cell? ⟨gb437, 1, none⟩ = some (.int .i64 x438001_3) ∧ w'.cell? ⟨gb437, 2, none⟩ = some (.int .i64 x438002_3) ∧ w'.cell? ⟨gb437, 3, none⟩ = some (.int .u8 0) ∧ w'.cell? (ad436.add ((x13_3).toNat * 3)) = some (.int .i32 ((rd_T50 l0 x13_3).f0)) ∧ w'.cell? ⟨(ad436.add ((x13_3).toNat * 3)).block, (ad436.add ((x13_3).toNat * 3)).off + 1, none⟩ = some (.int .i64 ((rd_T50 l0 x13_3).f1)) ∧ w'.cell? ⟨(ad436.add ((x13_3).toNat * 3)).block, (ad436.add ((x13_3).toNat * 3)).off + 2, none⟩ = some (.int .i64 ((rd_T50 l0 x13_3).f2))) (ds := [9]) #[false, false, false, false, false, false, false, false, false, false] (by kernel_rfl) rfl rfl ⟨(zE BK437.out 0).trans rfl, (zE BK437.out 1).trans rfl, (zE BK437.out 2).trans rfl, (zE BK437.out 3).trans rfl, ((HB.out.cell (World.block_lt_of_cell? w _ hw440_0)).trans hw440_0), ((HB.out.cell (World.block_lt_of_cell? w _ hw440_1)).trans hw440_1), ((HB.out.cell (World.block_lt_of_cell? w _ hw440_2)).trans hw440_2)⟩ (fun hHeld => ?_); refine with_tabW r0_Clusters.tab16 r0_Clusters.bits16 (fun HT_ HW_ => ?_)
      generalize wr.drew = w33 at HO_8 HO_10 BK437 HB hx440_0 hx440_1 hx440_2 hHeld ⊢
      refine aP 0 (some 74) (tf_ 1 10) HT_ ?_
      refine aP 2 (some 76) (tb_ 5 10) HT_ ?_
      refine aP 3 (some 77) (tb_ 13 10) HT_ ?_
      refine aP 4 (some 78) (tb_ 29 10) HT_ ?_
      refine aP 5 (some 79) (tb_ 61 10) HT_ ?_
      refine take_ (i := 1) (N := some 75) (v := ?_) (a' := ?_) (tf_ 6 10) rfl rfl (take_ofW HT_.out HW_.out (by kernel_rfl)) (fun _ _ _ h => h) (Or.inl ⟨by rfl, ?_⟩) hHeld ?_ ?_
      rotate_left
      ·rintro w' ⟨s0, s1, s2, s3, s4, s5, s6⟩
       go_simp
       with_reducible rfl
      rotate_left
      ·simp only [Act.put, sA_, sB_, sC_, i64_w, i32_w]
       rfl
      refine take_ (i := 6) (N := some 80) (v := ?_) (a' := ?_) (tf_ 7 10) rfl rfl (take_ofW HT_.out HW_.out (by kernel_rfl)) (fun _ _ _ h => h) (Or.inl ⟨by rfl, ?_⟩) hHeld ?_ ?_
      rotate_left
      ·rintro w' ⟨s0, s1, s2, s3, s4, s5, s6⟩
       go_simp
       with_reducible rfl
      rotate_left
      ·simp only [Act.put, sA_, sB_, sC_, i64_w, i32_w]
       rfl
      refine aP 7 (some 81) (tf_ 8 10) HT_ ?_
      refine aP 8 (some 82) (tf_ 9 10) HT_ ?_
      refine last_ (i := 9) (N := none) (tb_ 1023 10) rfl rfl (one_of HT_.out (by kernel_rfl)) (by decide) (fun K hK => ?_)
      have hs34 : w33.cell? ⟨gb437, 1, none⟩ = some (.int .i64 x438001_3) := (zE BK437.out 1).trans rfl
      have hfs34 := blk_frozen BK437.out 1; refine skip_ (w1 := ?_) (by rfl) rfl ?_ ?_
      rotate_left
      ·go_simp
       rfl
      refine hK.out _ _ ?_
      clear hK K; refine done_ (done_of HT_.out (by kernel_rfl)) ?_
      have n0_ : zA (Kd.R (Kd.int .i64) 3 (w33.setCell ⟨gb437, 1, none⟩ (.int .i64 (wrap64 (x438001_3 + ((rd_T50 l0 x13_3).f2))))) w.heap.size (fun _ => True) (.slice (some ad435) y432.length co20) y432) := ⟨by (with_reducible repeat (first | apply Kd.zG | apply Kd.zH | apply Kd.zI)); exact Kd.zS (Kd.zP (p := ⟨gb437, 1, none⟩) (Kd.zT HO_8.out BK437.out (by decide)) (fun _ hk => hk.2) (.int .i64 (wrap64 (x438001_3 + ((rd_T50 l0 x13_3).f2))))) (fun _ hk => trivial)⟩
      have n1_ : zA (Kd.R k48 48 (w33.setCell ⟨gb437, 1, none⟩ (.int .i64 (wrap64 (x438001_3 + ((rd_T50 l0 x13_3).f2))))) w.heap.size (fun k_ => k_ ≠ gb437) u10 x10_2) := ⟨by (with_reducible repeat (first | apply Kd.zG | apply Kd.zH | apply Kd.zI)); exact Kd.zS (Kd.zP (p := ⟨gb437, 1, none⟩) (Kd.zS HO_10.out (fun k_ hk => (⟨hk, hk⟩ : _ ∧ k_ ≠ gb437))) (fun _ hk => hk.2) (.int .i64 (wrap64 (x438001_3 + ((rd_T50 l0 x13_3).f2))))) (fun _ hk => hk.1)⟩
      have n2_ : zA ((w33.setCell ⟨gb437, 1, none⟩ (.int .i64 (wrap64 (x438001_3 + ((rd_T50 l0 x13_3).f2))))).heap[gb437]? = some (.cells #[.int .i64 ((rd_T50 l0 (rd y432 x11_2)).f1), .int .i64 (wrap64 (x438001_3 + ((rd_T50 l0 x13_3).f2))), .int .i64 x438002_3, .int .u8 0] 48 (0, 0))) := ⟨by (with_reducible repeat (first | refine zD ?_ _ | refine zC ?_ | refine zB ?_ _)); refine blk_put (cs := #[.int .i64 ((rd_T50 l0 (rd y432 x11_2)).f1), .int .i64 x438001_3, .int .i64 x438002_3, .int .u8 0]) ?_ 1 _ rfl; (with_reducible repeat (first | refine zD ?_ _ | refine zC ?_ | refine zB ?_ _)); exact BK437.out⟩
      have n3_ : zA (Below w.heap.size w (w33.setCell ⟨gb437, 1, none⟩ (.int .i64 (wrap64 (x438001_3 + ((rd_T50 l0 x13_3).f2)))))) := ⟨aL HB⟩
      (try clear HO_8)
      (try clear HO_10)
      (try clear BK437)
      (try clear HB)
      generalize (w33.setCell ⟨gb437, 1, none⟩ (.int .i64 (wrap64 (x438001_3 + ((rd_T50 l0 x13_3).f2))))) = w35 at n0_ n1_ n2_ n3_ ⊢
      have HO_8 := n0_; have HO_10 := n1_; have BK437 := n2_; have HB := n3_; clear n0_ n1_ n2_ n3_; have p441 : 0 ≤ (x13_3 : Int) := aD
      have q441 : x13_3 < (l0.length : Int) := aD
      obtain ⟨ad441, e441, hx441_0, hx441_1, hx441_2⟩ := at_T50 HR0.out x13_3 p441 q441; obtain rfl : ad436 = ad441 := (by injection e441)
      replace hx441_0 := (HB.out.cell (World.block_lt_of_cell? w _ hx441_0)).trans hx441_0; replace hx441_1 := (HB.out.cell (World.block_lt_of_cell? w _ hx441_1)).trans hx441_1; replace hx441_2 := (HB.out.cell (World.block_lt_of_cell? w _ hx441_2)).trans hx441_2; replace p441 := eq_true p441; replace q441 := eq_true q441; try go_wp2_with (first | ((with_reducible refine gate_callee (f := 37) rfl ?_); refine goesL_ (some 89) rfl rfl Try.func37 (by kernel_rfl) rfl #[.slice A2 l2.length c2, .int .i32 ((rd_T50 l0 x13_3).f0)] rfl aT ?_; (with_reducible refine (stanzaref01_Of.calls k3 _ _ l2 ((rd_T50 l0 x13_3).f0) t442 _ ?side1 ?side2 A30.out).mono ?_); (case side1 => exact aA HR2 HB); (case side2 => exact HC2.out); rintro e w' ⟨rfl, ⟨nd, rfl⟩⟩; refine ⟨_, rfl, ?_⟩; (try (rw [drewN_self w35]; generalize hq_ : World.drewN w35 _ = w35; have n0_ : zA (Kd.R k48 48 w35 w.heap.size (fun k_ => k_ ≠ gb437) u10 x10_2) := ⟨by rw [← hq_]; exact (aR HO_10)⟩; have n1_ : zA (Kd.R (Kd.int .i64) 3 w35 w.heap.size (fun _ => True) (.slice (some ad435) y432.length co20) y432) := ⟨by rw [← hq_]; exact (aR HO_8)⟩; have n2_ : zA (w35.heap[gb437]? = some (.cells #[.int .i64 ((rd_T50 l0 (rd y432 x11_2)).f1), .int .i64 (wrap64 (x438001_3 + ((rd_T50 l0 x13_3).f2))), .int .i64 x438002_3, .int .u8 0] 48 (0, 0))) := ⟨by rw [← hq_]; exact (aB BK437)⟩; have n3_ : zA (Below w.heap.size w w35) := ⟨by rw [← hq_]; exact (aL HB)⟩; clear HO_10 HO_8 BK437 HB hq_; have HO_10 := n0_; have HO_8 := n1_; have BK437 := n2_; have HB := n3_; clear n0_ n1_ n2_ n3_)); obtain ⟨hcz36_0, hcz36_1, hcz36_2, hcz36_3, hfz36_0, hfz36_1, hfz36_2, hfz36_3⟩ := aC4 BK437) | ((with_reducible refine gate_store (t := 3) (p := 97) rfl ?_); refine store_event (t := 3) (p := 97) (v := ?vo_w37) (w1 := (w35.setCell ⟨gb437, 2, none⟩ (.int .i64 2))) ?hg ?ho ?hn ?hr ?_; (case ho => rfl); (case hg => rfl); (case hn => rfl); (case hr => first | (go_simp; done) | (go_simp; rfl)); intro w37 hw; have n0_ : zA (Kd.R (Kd.int .i64) 3 w37 w.heap.size (fun _ => True) (.slice (some ad435) y432.length co20) y432) := ⟨(by rw [hw]; exact (by (with_reducible repeat (first | apply Kd.zG | apply Kd.zH | apply Kd.zI)); exact Kd.zS (Kd.zP (p := ⟨gb437, 2, none⟩) (Kd.zT HO_8.out BK437.out (by decide)) (fun _ hk => hk.2) (.int .i64 2)) (fun _ hk => trivial)))⟩; have n1_ : zA (Kd.R k48 48 w37 w.heap.size (fun k_ => k_ ≠ gb437) u10 x10_2) := ⟨(by rw [hw]; exact (by (with_reducible repeat (first | apply Kd.zG | apply Kd.zH | apply Kd.zI)); exact Kd.zS (Kd.zP (p := ⟨gb437, 2, none⟩) (Kd.zS HO_10.out (fun k_ hk => (⟨hk, hk⟩ : _ ∧ k_ ≠ gb437))) (fun _ hk => hk.2) (.int .i64 2)) (fun _ hk => hk.1)))⟩; have n2_ : zA (w37.heap[gb437]? = some (.cells #[.int .i64 ((rd_T50 l0 (rd y432 x11_2)).f1), .int .i64 (wrap64 (x438001_3 + ((rd_T50 l0 x13_3).f2))), .int .i64 2, .int .u8 0] 48 (0, 0))) := ⟨(by rw [hw]; exact (by (with_reducible repeat (first | refine zD ?_ _ | refine zC ?_ | refine zB ?_ _)); refine blk_put (cs := #[.int .i64 ((rd_T50 l0 (rd y432 x11_2)).f1), .int .i64 (wrap64 (x438001_3 + ((rd_T50 l0 x13_3).f2))), .int .i64 x438002_3, .int .u8 0]) ?_ 2 _ rfl; (with_reducible repeat (first | refine zD ?_ _ | refine zC ?_ | refine zB ?_ _)); exact BK437.out))⟩; have n3_ : zA (Below w.heap.size w w37) := ⟨(by rw [hw]; exact (aL HB))⟩; clear hw; clear HO_8; clear HO_10; clear BK437; clear HB; have HO_8 := n0_; have HO_10 := n1_; have BK437 := n2_; have HB := n3_; clear n0_ n1_ n2_ n3_))
      go_roundg k3
      case measure => have := HK1.out; have := HK2.out; have := HK3.out; omega
      case rel => exact ⟨(wrap64 (x13_3 + 1)), (wrap64 (x438001_3 + ((rd_T50 l0 x13_3).f2))), (2), aZ, H', ⟨by have := HK1.out; have := HK2.out; have := HK3.out; omega⟩, ⟨aR HO_8⟩, ⟨aR HO_10⟩, ⟨aB BK437⟩, ⟨aL HB⟩⟩
     rw [if_neg c31] at H; have c31b0 : decide (2 < t442) = false := decide_eq_false c31
     clear c31; by_cases c42 : t442 > x438002_3
     rotate_left
     ·rw [if_neg c42] at H
      have c42b0 : decide (x438002_3 < t442) = false := decide_eq_false c42
      clear c42; have H' := zA.mk H
      clear H; have p439 : 0 ≤ ((ji24) : Int) := aD
      have q439 : (ji24) < (y432.length : Int) := aD
      obtain ⟨ad439, e439, hx439_0⟩ := Kd.at_int (Kd.zN HO_8.out).2.2 (ji24) p439 q439; obtain rfl : ad435 = ad439 := (by injection e439)
      replace p439 := eq_true p439; replace q439 := eq_true q439; try go_wp2
      replace HO_8 := zA.mk (Kd.zI HO_8.out); replace HO_10 := zA.mk (Kd.zI HO_10.out); replace BK437 := zA.mk (zC BK437.out); replace HB := zA.mk (below_drew1 HB.out); have p440 : 0 ≤ (x13_3 : Int) := aD
      have q440 : x13_3 < (l0.length : Int) := aD
      obtain ⟨ad440, e440, hx440_0, hx440_1, hx440_2⟩ := at_T50 HR0.out x13_3 p440 q440; have hw440_2 := hx440_2; have hw440_1 := hx440_1; have hw440_0 := hx440_0; obtain rfl : ad436 = ad440 := (by injection e440)
      replace hx440_0 := (HB.out.cell (World.block_lt_of_cell? w _ hx440_0)).trans hx440_0; replace hx440_1 := (HB.out.cell (World.block_lt_of_cell? w _ hx440_1)).trans hx440_1; replace hx440_2 := (HB.out.cell (World.block_lt_of_cell? w _ hx440_2)).trans hx440_2; replace p440 := eq_true p440; replace q440 := eq_true q440; refine start_ (n := 10) (S := fun w' => w'.cell? ⟨gb437, 0, none⟩ = some (.int .i64 ((rd_T50 l0 (rd y432 x11_2)).f1)) ∧ w'.cell? ⟨gb437, 1, none⟩ = some (.int .i64 x438001_3) ∧ w'.cell? ⟨gb437, 2, none⟩ = some (.int .i64 x438002_3) ∧ w'.cell? ⟨gb437, 3, none⟩ = some (.int .u8 0) ∧ w'.cell? (ad436.add ((x13_3).toNat * 3)) = some (.int .i32 ((rd_T50 l0 x13_3).f0)) ∧ w'.cell? ⟨(ad436.add ((x13_3).toNat * 3)).block, (ad436.add ((x13_3).toNat * 3)).off + 1, none⟩ = some (.int .i64 ((rd_T50 l0 x13_3).f1)) ∧ w'.cell? ⟨(ad436.add ((x13_3).toNat * 3)).block, (ad436.add ((x13_3).toNat * 3)).off + 2, none⟩ = some (.int .i64 ((rd_T50 l0 x13_3).f2))) (ds := [9]) #[false, false, false, false, false, false, false, false, false, false] (by kernel_rfl) rfl rfl ⟨(zE BK437.out 0).trans rfl, (zE BK437.out 1).trans rfl, (zE BK437.out 2).trans rfl, (zE BK437.out 3).trans rfl, ((HB.out.cell (World.block_lt_of_cell? w _ hw440_0)).trans hw440_0), ((HB.out.cell (World.block_lt_of_cell? w _ hw440_1)).trans hw440_1), ((HB.out.cell (World.block_lt_of_cell? w _ hw440_2)).trans hw440_2)⟩ (fun hHeld => ?_); refine with_tabW r0_Clusters.tab16 r0_Clusters.bits16 (fun HT_ HW_ => ?_)
      generalize wr.drew = w48 at HO_8 HO_10 BK437 HB hx440_0 hx440_1 hx440_2 hHeld ⊢
      refine aP 0 (some 74) (tf_ 1 10) HT_ ?_
      refine aP 2 (some 76) (tb_ 5 10) HT_ ?_
      refine aP 3 (some 77) (tb_ 13 10) HT_ ?_
      refine aP 4 (some 78) (tb_ 29 10) HT_ ?_
      refine aP 5 (some 79) (tb_ 61 10) HT_ ?_
      refine take_ (i := 1) (N := some 75) (v := ?_) (a' := ?_) (tf_ 6 10) rfl rfl (take_ofW HT_.out HW_.out (by kernel_rfl)) (fun _ _ _ h => h) (Or.inl ⟨by rfl, ?_⟩) hHeld ?_ ?_
      rotate_left
      ·rintro w' ⟨s0, s1, s2, s3, s4, s5, s6⟩
       go_simp
       with_reducible rfl
      rotate_left
      ·simp only [Act.put, sA_, sB_, sC_, i64_w, i32_w]
       rfl
      refine take_ (i := 6) (N := some 80) (v := ?_) (a' := ?_) (tf_ 7 10) rfl rfl (take_ofW HT_.out HW_.out (by kernel_rfl)) (fun _ _ _ h => h) (Or.inl ⟨by rfl, ?_⟩) hHeld ?_ ?_
      rotate_left
      ·rintro w' ⟨s0, s1, s2, s3, s4, s5, s6⟩
       go_simp
       with_reducible rfl
      rotate_left
      ·simp only [Act.put, sA_, sB_, sC_, i64_w, i32_w]
       rfl
      refine aP 7 (some 81) (tf_ 8 10) HT_ ?_
      refine aP 8 (some 82) (tf_ 9 10) HT_ ?_
      refine last_ (i := 9) (N := none) (tb_ 1023 10) rfl rfl (one_of HT_.out (by kernel_rfl)) (by decide) (fun K hK => ?_)
      have hs49 : w48.cell? ⟨gb437, 1, none⟩ = some (.int .i64 x438001_3) := (zE BK437.out 1).trans rfl
      have hfs49 := blk_frozen BK437.out 1; refine skip_ (w1 := ?_) (by rfl) rfl ?_ ?_
      rotate_left
      ·go_simp
       rfl
      refine hK.out _ _ ?_
      clear hK K; refine done_ (done_of HT_.out (by kernel_rfl)) ?_
      have n0_ : zA (Kd.R (Kd.int .i64) 3 (w48.setCell ⟨gb437, 1, none⟩ (.int .i64 (wrap64 (x438001_3 + ((rd_T50 l0 x13_3).f2))))) w.heap.size (fun _ => True) (.slice (some ad435) y432.length co20) y432) := ⟨by (with_reducible repeat (first | apply Kd.zG | apply Kd.zH | apply Kd.zI)); exact Kd.zS (Kd.zP (p := ⟨gb437, 1, none⟩) (Kd.zT HO_8.out BK437.out (by decide)) (fun _ hk => hk.2) (.int .i64 (wrap64 (x438001_3 + ((rd_T50 l0 x13_3).f2))))) (fun _ hk => trivial)⟩
      have n1_ : zA (Kd.R k48 48 (w48.setCell ⟨gb437, 1, none⟩ (.int .i64 (wrap64 (x438001_3 + ((rd_T50 l0 x13_3).f2))))) w.heap.size (fun k_ => k_ ≠ gb437) u10 x10_2) := ⟨by (with_reducible repeat (first | apply Kd.zG | apply Kd.zH | apply Kd.zI)); exact Kd.zS (Kd.zP (p := ⟨gb437, 1, none⟩) (Kd.zS HO_10.out (fun k_ hk => (⟨hk, hk⟩ : _ ∧ k_ ≠ gb437))) (fun _ hk => hk.2) (.int .i64 (wrap64 (x438001_3 + ((rd_T50 l0 x13_3).f2))))) (fun _ hk => hk.1)⟩
      have n2_ : zA ((w48.setCell ⟨gb437, 1, none⟩ (.int .i64 (wrap64 (x438001_3 + ((rd_T50 l0 x13_3).f2))))).heap[gb437]? = some (.cells #[.int .i64 ((rd_T50 l0 (rd y432 x11_2)).f1), .int .i64 (wrap64 (x438001_3 + ((rd_T50 l0 x13_3).f2))), .int .i64 x438002_3, .int .u8 0] 48 (0, 0))) := ⟨by (with_reducible repeat (first | refine zD ?_ _ | refine zC ?_ | refine zB ?_ _)); refine blk_put (cs := #[.int .i64 ((rd_T50 l0 (rd y432 x11_2)).f1), .int .i64 x438001_3, .int .i64 x438002_3, .int .u8 0]) ?_ 1 _ rfl; (with_reducible repeat (first | refine zD ?_ _ | refine zC ?_ | refine zB ?_ _)); exact BK437.out⟩
      have n3_ : zA (Below w.heap.size w (w48.setCell ⟨gb437, 1, none⟩ (.int .i64 (wrap64 (x438001_3 + ((rd_T50 l0 x13_3).f2)))))) := ⟨aL HB⟩
      (try clear HO_8)
      (try clear HO_10)
      (try clear BK437)
      (try clear HB)
      generalize (w48.setCell ⟨gb437, 1, none⟩ (.int .i64 (wrap64 (x438001_3 + ((rd_T50 l0 x13_3).f2))))) = w50 at n0_ n1_ n2_ n3_ ⊢
      have HO_8 := n0_; have HO_10 := n1_; have BK437 := n2_; have HB := n3_; clear n0_ n1_ n2_ n3_; have p441 : 0 ≤ (x13_3 : Int) := aD
      have q441 : x13_3 < (l0.length : Int) := aD
      obtain ⟨ad441, e441, hx441_0, hx441_1, hx441_2⟩ := at_T50 HR0.out x13_3 p441 q441; obtain rfl : ad436 = ad441 := (by injection e441)
      replace hx441_0 := (HB.out.cell (World.block_lt_of_cell? w _ hx441_0)).trans hx441_0; replace hx441_1 := (HB.out.cell (World.block_lt_of_cell? w _ hx441_1)).trans hx441_1; replace hx441_2 := (HB.out.cell (World.block_lt_of_cell? w _ hx441_2)).trans hx441_2; replace p441 := eq_true p441; replace q441 := eq_true q441; try go_wp2_with (first | ((with_reducible refine gate_callee (f := 37) rfl ?_); refine goesL_ (some 89) rfl rfl Try.func37 (by kernel_rfl) rfl #[.slice A2 l2.length c2, .int .i32 ((rd_T50 l0 x13_3).f0)] rfl aT ?_; (with_reducible refine (stanzaref01_Of.calls k3 _ _ l2 ((rd_T50 l0 x13_3).f0) t442 _ ?side1 ?side2 A30.out).mono ?_); (case side1 => exact aA HR2 HB); (case side2 => exact HC2.out); rintro e w' ⟨rfl, ⟨nd, rfl⟩⟩; refine ⟨_, rfl, ?_⟩; obtain ⟨hcz51_0, hcz51_1, hcz51_2, hcz51_3, hfz51_0, hfz51_1, hfz51_2, hfz51_3⟩ := aC4 BK437))
      go_roundg k3
      case measure => have := HK1.out; have := HK2.out; have := HK3.out; omega
      case rel => exact ⟨(wrap64 (x13_3 + 1)), (wrap64 (x438001_3 + ((rd_T50 l0 x13_3).f2))), (x438002_3), aZ, H', ⟨by have := HK1.out; have := HK2.out; have := HK3.out; omega⟩, ⟨aR HO_8⟩, ⟨aR HO_10⟩, ⟨aB BK437⟩, ⟨aL HB⟩⟩
     rw [if_pos c42] at H; have c42b0 : decide (x438002_3 < t442) = true := decide_eq_true c42
     clear c42; have H' := zA.mk H
     clear H; have p439 : 0 ≤ ((ji24) : Int) := aD
     have q439 : (ji24) < (y432.length : Int) := aD
     obtain ⟨ad439, e439, hx439_0⟩ := Kd.at_int (Kd.zN HO_8.out).2.2 (ji24) p439 q439; obtain rfl : ad435 = ad439 := (by injection e439)
     replace p439 := eq_true p439; replace q439 := eq_true q439; try go_wp2
     replace HO_8 := zA.mk (Kd.zI HO_8.out); replace HO_10 := zA.mk (Kd.zI HO_10.out); replace BK437 := zA.mk (zC BK437.out); replace HB := zA.mk (below_drew1 HB.out); have p440 : 0 ≤ (x13_3 : Int) := aD
     have q440 : x13_3 < (l0.length : Int) := aD
     obtain ⟨ad440, e440, hx440_0, hx440_1, hx440_2⟩ := at_T50 HR0.out x13_3 p440 q440; have hw440_2 := hx440_2; have hw440_1 := hx440_1; have hw440_0 := hx440_0; obtain rfl : ad436 = ad440 := (by injection e440)
     replace hx440_0 := (HB.out.cell (World.block_lt_of_cell? w _ hx440_0)).trans hx440_0; replace hx440_1 := (HB.out.cell (World.block_lt_of_cell? w _ hx440_1)).trans hx440_1; replace hx440_2 := (HB.out.cell (World.block_lt_of_cell? w _ hx440_2)).trans hx440_2; replace p440 := eq_true p440; replace q440 := eq_true q440; refine start_ (n := 10) (S := fun w' => w'.cell? ⟨gb437, 0, none⟩ = some (.int .i64 ((rd_T50 l0 (rd y432 x11_2)).f1)) ∧ w'.cell? ⟨gb437, 1, none⟩ = some (.int .i64 x438001_3) ∧ w'.cell? ⟨gb437, 2, none⟩ = some (.int .i64 x438002_3) ∧ w'.cell? ⟨gb437, 3, none⟩ = some (.int .u8 0) ∧ w'.cell? (ad436.add ((x13_3).toNat * 3)) = some (.int .i32 ((rd_T50 l0 x13_3).f0)) ∧ w'.cell? ⟨(ad436.add ((x13_3).toNat * 3)).block, (ad436.add ((x13_3).toNat * 3)).off + 1, none⟩ = some (.int .i64 ((rd_T50 l0 x13_3).f1)) ∧ w'.cell? ⟨(ad436.add ((x13_3).toNat * 3)).block, (ad436.add ((x13_3).toNat * 3)).off + 2, none⟩ = some (.int .i64 ((rd_T50 l0 x13_3).f2))) (ds := [9]) #[false, false, false, false, false, false, false, false, false, false] (by kernel_rfl) rfl rfl ⟨(zE BK437.out 0).trans rfl, (zE BK437.out 1).trans rfl, (zE BK437.out 2).trans rfl, (zE BK437.out 3).trans rfl, ((HB.out.cell (World.block_lt_of_cell? w _ hw440_0)).trans hw440_0), ((HB.out.cell (World.block_lt_of_cell? w _ hw440_1)).trans hw440_1), ((HB.out.cell (World.block_lt_of_cell? w _ hw440_2)).trans hw440_2)⟩ (fun hHeld => ?_); refine with_tabW r0_Clusters.tab16 r0_Clusters.bits16 (fun HT_ HW_ => ?_)
     generalize wr.drew = w43 at HO_8 HO_10 BK437 HB hx440_0 hx440_1 hx440_2 hHeld ⊢
     refine aP 0 (some 74) (tf_ 1 10) HT_ ?_
     refine aP 2 (some 76) (tb_ 5 10) HT_ ?_
     refine aP 3 (some 77) (tb_ 13 10) HT_ ?_
     refine aP 4 (some 78) (tb_ 29 10) HT_ ?_
     refine aP 5 (some 79) (tb_ 61 10) HT_ ?_
     refine take_ (i := 1) (N := some 75) (v := ?_) (a' := ?_) (tf_ 6 10) rfl rfl (take_ofW HT_.out HW_.out (by kernel_rfl)) (fun _ _ _ h => h) (Or.inl ⟨by rfl, ?_⟩) hHeld ?_ ?_
     rotate_left
     ·rintro w' ⟨s0, s1, s2, s3, s4, s5, s6⟩
      go_simp
      with_reducible rfl
     rotate_left
     ·simp only [Act.put, sA_, sB_, sC_, i64_w, i32_w]
      rfl
     refine take_ (i := 6) (N := some 80) (v := ?_) (a' := ?_) (tf_ 7 10) rfl rfl (take_ofW HT_.out HW_.out (by kernel_rfl)) (fun _ _ _ h => h) (Or.inl ⟨by rfl, ?_⟩) hHeld ?_ ?_
     rotate_left
     ·rintro w' ⟨s0, s1, s2, s3, s4, s5, s6⟩
      go_simp
      with_reducible rfl
     rotate_left
     ·simp only [Act.put, sA_, sB_, sC_, i64_w, i32_w]
      rfl
     refine aP 7 (some 81) (tf_ 8 10) HT_ ?_
     refine aP 8 (some 82) (tf_ 9 10) HT_ ?_
     refine last_ (i := 9) (N := none) (tb_ 1023 10) rfl rfl (one_of HT_.out (by kernel_rfl)) (by decide) (fun K hK => ?_)
     have hs44 : w43.cell? ⟨gb437, 1, none⟩ = some (.int .i64 x438001_3) := (zE BK437.out 1).trans rfl
     have hfs44 := blk_frozen BK437.out 1; refine skip_ (w1 := ?_) (by rfl) rfl ?_ ?_
     rotate_left
     ·go_simp
      rfl
     refine hK.out _ _ ?_
     clear hK K; refine done_ (done_of HT_.out (by kernel_rfl)) ?_
     have n0_ : zA (Kd.R (Kd.int .i64) 3 (w43.setCell ⟨gb437, 1, none⟩ (.int .i64 (wrap64 (x438001_3 + ((rd_T50 l0 x13_3).f2))))) w.heap.size (fun _ => True) (.slice (some ad435) y432.length co20) y432) := ⟨by (with_reducible repeat (first | apply Kd.zG | apply Kd.zH | apply Kd.zI)); exact Kd.zS (Kd.zP (p := ⟨gb437, 1, none⟩) (Kd.zT HO_8.out BK437.out (by decide)) (fun _ hk => hk.2) (.int .i64 (wrap64 (x438001_3 + ((rd_T50 l0 x13_3).f2))))) (fun _ hk => trivial)⟩
     have n1_ : zA (Kd.R k48 48 (w43.setCell ⟨gb437, 1, none⟩ (.int .i64 (wrap64 (x438001_3 + ((rd_T50 l0 x13_3).f2))))) w.heap.size (fun k_ => k_ ≠ gb437) u10 x10_2) := ⟨by (with_reducible repeat (first | apply Kd.zG | apply Kd.zH | apply Kd.zI)); exact Kd.zS (Kd.zP (p := ⟨gb437, 1, none⟩) (Kd.zS HO_10.out (fun k_ hk => (⟨hk, hk⟩ : _ ∧ k_ ≠ gb437))) (fun _ hk => hk.2) (.int .i64 (wrap64 (x438001_3 + ((rd_T50 l0 x13_3).f2))))) (fun _ hk => hk.1)⟩
     have n2_ : zA ((w43.setCell ⟨gb437, 1, none⟩ (.int .i64 (wrap64 (x438001_3 + ((rd_T50 l0 x13_3).f2))))).heap[gb437]? = some (.cells #[.int .i64 ((rd_T50 l0 (rd y432 x11_2)).f1), .int .i64 (wrap64 (x438001_3 + ((rd_T50 l0 x13_3).f2))), .int .i64 x438002_3, .int .u8 0] 48 (0, 0))) := ⟨by (with_reducible repeat (first | refine zD ?_ _ | refine zC ?_ | refine zB ?_ _)); refine blk_put (cs := #[.int .i64 ((rd_T50 l0 (rd y432 x11_2)).f1), .int .i64 x438001_3, .int .i64 x438002_3, .int .u8 0]) ?_ 1 _ rfl; (with_reducible repeat (first | refine zD ?_ _ | refine zC ?_ | refine zB ?_ _)); exact BK437.out⟩
     have n3_ : zA (Below w.heap.size w (w43.setCell ⟨gb437, 1, none⟩ (.int .i64 (wrap64 (x438001_3 + ((rd_T50 l0 x13_3).f2)))))) := ⟨aL HB⟩
     (try clear HO_8)
     (try clear HO_10)
     (try clear BK437)
     (try clear HB)
     generalize (w43.setCell ⟨gb437, 1, none⟩ (.int .i64 (wrap64 (x438001_3 + ((rd_T50 l0 x13_3).f2))))) = w45 at n0_ n1_ n2_ n3_ ⊢
     have HO_8 := n0_; have HO_10 := n1_; have BK437 := n2_; have HB := n3_; clear n0_ n1_ n2_ n3_; have p441 : 0 ≤ (x13_3 : Int) := aD
     have q441 : x13_3 < (l0.length : Int) := aD
     obtain ⟨ad441, e441, hx441_0, hx441_1, hx441_2⟩ := at_T50 HR0.out x13_3 p441 q441; obtain rfl : ad436 = ad441 := (by injection e441)
     replace hx441_0 := (HB.out.cell (World.block_lt_of_cell? w _ hx441_0)).trans hx441_0; replace hx441_1 := (HB.out.cell (World.block_lt_of_cell? w _ hx441_1)).trans hx441_1; replace hx441_2 := (HB.out.cell (World.block_lt_of_cell? w _ hx441_2)).trans hx441_2; replace p441 := eq_true p441; replace q441 := eq_true q441; try go_wp2_with (first | ((with_reducible refine gate_callee (f := 37) rfl ?_); refine goesL_ (some 89) rfl rfl Try.func37 (by kernel_rfl) rfl #[.slice A2 l2.length c2, .int .i32 ((rd_T50 l0 x13_3).f0)] rfl aT ?_; (with_reducible refine (stanzaref01_Of.calls k3 _ _ l2 ((rd_T50 l0 x13_3).f0) t442 _ ?side1 ?side2 A30.out).mono ?_); (case side1 => exact aA HR2 HB); (case side2 => exact HC2.out); rintro e w' ⟨rfl, ⟨nd, rfl⟩⟩; refine ⟨_, rfl, ?_⟩; (try (rw [drewN_self w45]; generalize hq_ : World.drewN w45 _ = w45; have n0_ : zA (Kd.R k48 48 w45 w.heap.size (fun k_ => k_ ≠ gb437) u10 x10_2) := ⟨by rw [← hq_]; exact (aR HO_10)⟩; have n1_ : zA (Kd.R (Kd.int .i64) 3 w45 w.heap.size (fun _ => True) (.slice (some ad435) y432.length co20) y432) := ⟨by rw [← hq_]; exact (aR HO_8)⟩; have n2_ : zA (w45.heap[gb437]? = some (.cells #[.int .i64 ((rd_T50 l0 (rd y432 x11_2)).f1), .int .i64 (wrap64 (x438001_3 + ((rd_T50 l0 x13_3).f2))), .int .i64 x438002_3, .int .u8 0] 48 (0, 0))) := ⟨by rw [← hq_]; exact (aB BK437)⟩; have n3_ : zA (Below w.heap.size w w45) := ⟨by rw [← hq_]; exact (aL HB)⟩; clear HO_10 HO_8 BK437 HB hq_; have HO_10 := n0_; have HO_8 := n1_; have BK437 := n2_; have HB := n3_; clear n0_ n1_ n2_ n3_)); obtain ⟨hcz46_0, hcz46_1, hcz46_2, hcz46_3, hfz46_0, hfz46_1, hfz46_2, hfz46_3⟩ := aC4 BK437) | ((with_reducible refine gate_store (t := 3) (p := 97) rfl ?_); refine store_event (t := 3) (p := 97) (v := ?vo_w47) (w1 := (w45.setCell ⟨gb437, 2, none⟩ (.int .i64 t442))) ?hg ?ho ?hn ?hr ?_; (case ho => rfl); (case hg => rfl); (case hn => rfl); (case hr => first | (go_simp; done) | (go_simp; rfl)); intro w47 hw; have n0_ : zA (Kd.R (Kd.int .i64) 3 w47 w.heap.size (fun _ => True) (.slice (some ad435) y432.length co20) y432) := ⟨(by rw [hw]; exact (by (with_reducible repeat (first | apply Kd.zG | apply Kd.zH | apply Kd.zI)); exact Kd.zS (Kd.zP (p := ⟨gb437, 2, none⟩) (Kd.zT HO_8.out BK437.out (by decide)) (fun _ hk => hk.2) (.int .i64 t442)) (fun _ hk => trivial)))⟩; have n1_ : zA (Kd.R k48 48 w47 w.heap.size (fun k_ => k_ ≠ gb437) u10 x10_2) := ⟨(by rw [hw]; exact (by (with_reducible repeat (first | apply Kd.zG | apply Kd.zH | apply Kd.zI)); exact Kd.zS (Kd.zP (p := ⟨gb437, 2, none⟩) (Kd.zS HO_10.out (fun k_ hk => (⟨hk, hk⟩ : _ ∧ k_ ≠ gb437))) (fun _ hk => hk.2) (.int .i64 t442)) (fun _ hk => hk.1)))⟩; have n2_ : zA (w47.heap[gb437]? = some (.cells #[.int .i64 ((rd_T50 l0 (rd y432 x11_2)).f1), .int .i64 (wrap64 (x438001_3 + ((rd_T50 l0 x13_3).f2))), .int .i64 t442, .int .u8 0] 48 (0, 0))) := ⟨(by rw [hw]; exact (by (with_reducible repeat (first | refine zD ?_ _ | refine zC ?_ | refine zB ?_ _)); refine blk_put (cs := #[.int .i64 ((rd_T50 l0 (rd y432 x11_2)).f1), .int .i64 (wrap64 (x438001_3 + ((rd_T50 l0 x13_3).f2))), .int .i64 x438002_3, .int .u8 0]) ?_ 2 _ rfl; (with_reducible repeat (first | refine zD ?_ _ | refine zC ?_ | refine zB ?_ _)); exact BK437.out))⟩; have n3_ : zA (Below w.heap.size w w47) := ⟨(by rw [hw]; exact (aL HB))⟩; clear hw; clear HO_8; clear HO_10; clear BK437; clear HB; have HO_8 := n0_; have HO_10 := n1_; have BK437 := n2_; have HB := n3_; clear n0_ n1_ n2_ n3_))
     go_roundg k3
     case measure => have := HK1.out; have := HK2.out; have := HK3.out; omega
     case rel => exact ⟨(wrap64 (x13_3 + 1)), (wrap64 (x438001_3 + ((rd_T50 l0 x13_3).f2))), (t442), aZ, H', ⟨by have := HK1.out; have := HK2.out; have := HK3.out; omega⟩, ⟨aR HO_8⟩, ⟨aR HO_10⟩, ⟨aB BK437⟩, ⟨aL HB⟩⟩
    rw [if_neg c27] at H; have c27b0 : decide (x13_3 < (rd y432 (ji24))) = false := decide_eq_false c27
    clear c27; by_cases c52 : 0 ≤ x11_2
    rotate_left
    ·rw [if_neg c52] at H
     exact absurd H (by simp)
    rw [if_pos c52] at H; have c52b0 : decide (0 ≤ x11_2) = true := decide_eq_true c52
    clear c52; by_cases c53 : x11_2 < (y432.length : Int)
    rotate_left
    ·rw [if_neg c53] at H
     exact absurd H (by simp)
    rw [if_pos c53] at H; have c53b0 : decide (x11_2 < (y432.length : Int)) = true := decide_eq_true c53
    clear c53; by_cases c54 : (rd y432 (ji24)) = (wrap64 ((rd y432 x11_2) + 1))
    rotate_left
    ·rw [if_neg c54] at H
     have c54b0 : ((rd y432 (ji24)) == (wrap64 ((rd y432 x11_2) + 1))) = false := beq_eq_false_iff_ne.mpr c54
     have c54b1 : ((rd y432 (ji24)) != (wrap64 ((rd y432 x11_2) + 1))) = true := bne_iff_ne.mpr c54
     by_cases c84 : x10_2.length < 4398046511104
     rotate_left
     ·rw [if_neg c84] at H
      exact absurd H (by simp)
     rw [if_pos c84] at H; have LMc84 := zA.mk c84; clear c84; obtain ⟨y463, hy463⟩ : ∃ y_ : List (S48), y_ = (x10_2 ++ [(⟨((rd_T50 l0 (rd y432 x11_2)).f1), x438001_3, x438002_3, 0⟩ : S48)]) := ⟨_, rfl⟩; replace H : (r0_Clusters.l1 k3 l0 l2 y432 y463 ji24) = some (r1, r2) := by first | (rw [hy463]; with_reducible exact H) | (have H2_ := (Option.bind_some _ _).symm.trans H; rw [hy463]; with_reducible exact H2_) | (have H2_ := (Option.bind_some _ _).symm.trans H; with_reducible exact H2_) | with_reducible exact H | (rw [hy463]; exact H) | exact H
     have Ny463 := zA.mk hy463; clear hy463; have H' := zA.mk H
     clear H; have p439 : 0 ≤ ((ji24) : Int) := aD
     have q439 : (ji24) < (y432.length : Int) := aD
     obtain ⟨ad439, e439, hx439_0⟩ := Kd.at_int (Kd.zN HO_8.out).2.2 (ji24) p439 q439; obtain rfl : ad435 = ad439 := (by injection e439)
     replace p439 := eq_true p439; replace q439 := eq_true q439; try go_wp2
     replace HO_8 := zA.mk (Kd.zI HO_8.out); replace HO_10 := zA.mk (Kd.zI HO_10.out); replace BK437 := zA.mk (zC BK437.out); replace HB := zA.mk (below_drew1 HB.out); have p443 : 0 ≤ ((ji24) : Int) := aD
     have q443 : (ji24) < (y432.length : Int) := aD
     obtain ⟨ad443, e443, hx443_0⟩ := Kd.at_int (Kd.zN HO_8.out).2.2 (ji24) p443 q443; obtain rfl : ad435 = ad443 := (by injection e443)
     replace p443 := eq_true p443; replace q443 := eq_true q443; have p444 : 0 ≤ (x11_2 : Int) := aD
     have q444 : x11_2 < (y432.length : Int) := aD
     obtain ⟨ad444, e444, hx444_0⟩ := Kd.at_int (Kd.zN HO_8.out).2.2 x11_2 p444 q444; obtain rfl : ad435 = ad444 := (by injection e444)
     replace p444 := eq_true p444; replace q444 := eq_true q444; refine start_ (n := 11) (S := fun w' => w'.cell? (ad435.add ((ji24)).toNat) = some (.int .i64 (rd y432 (ji24))) ∧ w'.cell? (ad435.add (x11_2).toNat) = some (.int .i64 (rd y432 x11_2))) (ds := []) #[false, false, false, false, false, false, false, false, false, false, false] (by kernel_rfl) rfl rfl ⟨hx443_0, hx444_0⟩ (fun hHeld => ?_); refine with_tabW r0_Clusters.tab22 r0_Clusters.bits22 (fun HT_ HW_ => ?_)
     generalize wr.drew = w85 at HO_8 HO_10 BK437 HB hx443_0 hx444_0 hHeld ⊢
     refine aP 0 (some 98) (tf_ 1 11) HT_ ?_
     refine aP 1 (some 99) (tf_ 2 11) HT_ ?_
     refine aP 2 (some 100) (tf_ 3 11) HT_ ?_
     refine aP 3 (some 101) (tf_ 4 11) HT_ ?_
     refine aP 5 (some 103) (tb_ 47 11) HT_ ?_
     refine aP 6 (some 104) (tb_ 111 11) HT_ ?_
     refine aP 7 (some 105) (tb_ 239 11) HT_ ?_
     refine take_ (i := 4) (N := some 102) (v := ?_) (a' := ?_) (tf_ 8 11) rfl rfl (take_ofW HT_.out HW_.out (by kernel_rfl)) (fun _ _ _ h => h) (Or.inl ⟨by rfl, ?_⟩) hHeld ?_ ?_
     rotate_left
     ·rintro w' ⟨s0, s1⟩
      go_simp
      with_reducible rfl
     rotate_left
     ·simp only [Act.put, sA_, sB_, sC_, i64_w, i32_w]
      rfl
     refine take_ (i := 8) (N := some 106) (v := ?_) (a' := ?_) (tf_ 9 11) rfl rfl (take_ofW HT_.out HW_.out (by kernel_rfl)) (fun _ _ _ h => h) (Or.inl ⟨by rfl, ?_⟩) hHeld ?_ ?_
     rotate_left
     ·rintro w' ⟨s0, s1⟩
      go_simp
      with_reducible rfl
     rotate_left
     ·simp only [Act.put, sA_, sB_, sC_, i64_w, i32_w]
      rfl
     refine aP 9 (some 107) (tf_ 10 11) HT_ ?_
     refine aP 10 (some 108) (tb_ 2047 11) HT_ ?_
     refine done_ (done_of HT_.out (by kernel_rfl)) ?_
     obtain ⟨hcz86_0, hcz86_1, hcz86_2, hcz86_3, hfz86_0, hfz86_1, hfz86_2, hfz86_3⟩ := aC4 BK437; try go_wp2_with (first | ((with_reducible refine gate_builtin (b := .append) (xs := #[.tmp 129, .tmp 131]) rfl ?_); (try (refine gate_guard (by rfl) ?_; dsimp only)); at_builtin; refine Kd.R_append k48 (w0 := w) w.heap.size rfl (.tmp 129) (.tmp 131) 34 48 (.agg #[(.int .i64 0), (.int .i64 0), (.int .i64 0), (.int .u8 0)]) 32 rfl Try.underlying34 info48 rfl (by decide) (by omega) u10 x10_2 (⟨((rd_T50 l0 (rd y432 x11_2)).f1), x438001_3, x438002_3, 0⟩ : S48) [.int .i64 ((rd_T50 l0 (rd y432 x11_2)).f1), .int .i64 x438001_3, .int .i64 x438002_3, .int .u8 0] (fun k_ => k_ ≠ gb437) (fun _ => False) rfl rfl ?aP (fun _ hk => hk.elim) ?aF ?aO ?aB ?aS ?aL ?_; (case aP => exact k48_mkM _ _ _ (⟨((rd_T50 l0 (rd y432 x11_2)).f1), x438001_3, x438002_3, 0⟩ : S48)); (case aB => exact (aL HB)); (case aF => exact (fun k_ hk => Kd.freshB (g := gb437) (o := .cells #[.int .i64 ((rd_T50 l0 (rd y432 x11_2)).f1), .int .i64 x438001_3, .int .i64 x438002_3, .int .u8 0] 48 (0, 0)) (aB BK437) k_ hk)); (case aO => exact (aR HO_10)); (case aS => exact (zF (aL HB))); (case aL => have := LMc84.out; omega); intro v464 w87 ho hb hg hat; rw [← Ny463.out] at ho; replace HO_8 := zA.mk (Kd.R_over' (aR HO_8) (Kd.R_typed (aR HO_10)) (by decide) hg); replace BK437 := zA.mk (blk_grown (g := gb437) (o := .cells #[.int .i64 ((rd_T50 l0 (rd y432 x11_2)).f1), .int .i64 x438001_3, .int .i64 x438002_3, .int .u8 0] 48 (0, 0)) (aB BK437) hg (Kd.R_away HO_10.out (fun _ hk => hk))); replace HB := zA.mk (hb); have HO465 := zA.mk (ho); clear HO_10; clear ho hb hg hat))
     go_roundg k3
     case measure => have := HK1.out; have := HK2.out; have := HK3.out; omega
     case rel => exact ⟨(y463), (ji24), (by first | rfl | (simp; done) | (simp only [← hji24, ← hji24] <;> (first | rfl | simp)) | (simp [*]; done)), H', ⟨by have := HK1.out; have := HK2.out; have := HK3.out; omega⟩, ⟨aR HO_8⟩, ⟨by (with_reducible repeat (first | apply Kd.zG | apply Kd.zH | apply Kd.zI)); exact Kd.zS HO465.out (fun _ hk => trivial)⟩, ⟨aL HB⟩⟩
    rw [if_pos c54] at H; have c54b0 : ((rd y432 (ji24)) == (wrap64 ((rd y432 x11_2) + 1))) = true := beq_iff_eq.mpr c54
    have c54b1 : ((rd y432 (ji24)) != (wrap64 ((rd y432 x11_2) + 1))) = false := bne_eq_false_iff_eq.mpr c54
    clear c54; by_cases c55 : 0 ≤ (rd y432 x11_2)
    rotate_left
    ·rw [if_neg c55] at H
     exact absurd H (by simp)
    rw [if_pos c55] at H; have c55b0 : decide (0 ≤ (rd y432 x11_2)) = true := decide_eq_true c55
    clear c55; by_cases c56 : (rd y432 x11_2) < (l0.length : Int)
    rotate_left
    ·rw [if_neg c56] at H
     exact absurd H (by simp)
    rw [if_pos c56] at H; have c56b0 : decide ((rd y432 x11_2) < (l0.length : Int)) = true := decide_eq_true c56
    clear c56; by_cases c57 : ((rd_T50 l0 (rd y432 x11_2)).f0) = 32
    rotate_left
    ·rw [if_neg c57] at H
     have c57b0 : (((rd_T50 l0 (rd y432 x11_2)).f0) == 32) = false := beq_eq_false_iff_ne.mpr c57
     have c57b1 : (((rd_T50 l0 (rd y432 x11_2)).f0) != 32) = true := bne_iff_ne.mpr c57
     by_cases c73 : ((rd_T50 l0 (rd y432 x11_2)).f0) = 9
     rotate_left
     ·rw [if_neg c73] at H
      have c73b0 : (((rd_T50 l0 (rd y432 x11_2)).f0) == 9) = false := beq_eq_false_iff_ne.mpr c73
      have c73b1 : (((rd_T50 l0 (rd y432 x11_2)).f0) != 9) = true := bne_iff_ne.mpr c73
      by_cases c80 : x10_2.length < 4398046511104
      rotate_left
      ·rw [if_neg c80] at H
       exact absurd H (by simp)
      rw [if_pos c80] at H; have LMc80 := zA.mk c80; clear c80; obtain ⟨y460, hy460⟩ : ∃ y_ : List (S48), y_ = (x10_2 ++ [(⟨((rd_T50 l0 (rd y432 x11_2)).f1), x438001_3, x438002_3, 0⟩ : S48)]) := ⟨_, rfl⟩; replace H : (r0_Clusters.l1 k3 l0 l2 y432 y460 ji24) = some (r1, r2) := by first | (rw [hy460]; with_reducible exact H) | (have H2_ := (Option.bind_some _ _).symm.trans H; rw [hy460]; with_reducible exact H2_) | (have H2_ := (Option.bind_some _ _).symm.trans H; with_reducible exact H2_) | with_reducible exact H | (rw [hy460]; exact H) | exact H
      have Ny460 := zA.mk hy460; clear hy460; have H' := zA.mk H
      clear H; have p439 : 0 ≤ ((ji24) : Int) := aD
      have q439 : (ji24) < (y432.length : Int) := aD
      obtain ⟨ad439, e439, hx439_0⟩ := Kd.at_int (Kd.zN HO_8.out).2.2 (ji24) p439 q439; obtain rfl : ad435 = ad439 := (by injection e439)
      replace p439 := eq_true p439; replace q439 := eq_true q439; try go_wp2
      replace HO_8 := zA.mk (Kd.zI HO_8.out); replace HO_10 := zA.mk (Kd.zI HO_10.out); replace BK437 := zA.mk (zC BK437.out); replace HB := zA.mk (below_drew1 HB.out); have p443 : 0 ≤ ((ji24) : Int) := aD
      have q443 : (ji24) < (y432.length : Int) := aD
      obtain ⟨ad443, e443, hx443_0⟩ := Kd.at_int (Kd.zN HO_8.out).2.2 (ji24) p443 q443; obtain rfl : ad435 = ad443 := (by injection e443)
      replace p443 := eq_true p443; replace q443 := eq_true q443; have p444 : 0 ≤ (x11_2 : Int) := aD
      have q444 : x11_2 < (y432.length : Int) := aD
      obtain ⟨ad444, e444, hx444_0⟩ := Kd.at_int (Kd.zN HO_8.out).2.2 x11_2 p444 q444; obtain rfl : ad435 = ad444 := (by injection e444)
      replace p444 := eq_true p444; replace q444 := eq_true q444; refine start_ (n := 11) (S := fun w' => w'.cell? (ad435.add ((ji24)).toNat) = some (.int .i64 (rd y432 (ji24))) ∧ w'.cell? (ad435.add (x11_2).toNat) = some (.int .i64 (rd y432 x11_2))) (ds := []) #[false, false, false, false, false, false, false, false, false, false, false] (by kernel_rfl) rfl rfl ⟨hx443_0, hx444_0⟩ (fun hHeld => ?_); refine with_tabW r0_Clusters.tab22 r0_Clusters.bits22 (fun HT_ HW_ => ?_)
      generalize wr.drew = w81 at HO_8 HO_10 BK437 HB hx443_0 hx444_0 hHeld ⊢
      refine aP 0 (some 98) (tf_ 1 11) HT_ ?_
      refine aP 1 (some 99) (tf_ 2 11) HT_ ?_
      refine aP 2 (some 100) (tf_ 3 11) HT_ ?_
      refine aP 3 (some 101) (tf_ 4 11) HT_ ?_
      refine aP 5 (some 103) (tb_ 47 11) HT_ ?_
      refine aP 6 (some 104) (tb_ 111 11) HT_ ?_
      refine aP 7 (some 105) (tb_ 239 11) HT_ ?_
      refine take_ (i := 4) (N := some 102) (v := ?_) (a' := ?_) (tf_ 8 11) rfl rfl (take_ofW HT_.out HW_.out (by kernel_rfl)) (fun _ _ _ h => h) (Or.inl ⟨by rfl, ?_⟩) hHeld ?_ ?_
      rotate_left
      ·rintro w' ⟨s0, s1⟩
       go_simp
       with_reducible rfl
      rotate_left
      ·simp only [Act.put, sA_, sB_, sC_, i64_w, i32_w]
       rfl
      refine take_ (i := 8) (N := some 106) (v := ?_) (a' := ?_) (tf_ 9 11) rfl rfl (take_ofW HT_.out HW_.out (by kernel_rfl)) (fun _ _ _ h => h) (Or.inl ⟨by rfl, ?_⟩) hHeld ?_ ?_
      rotate_left
      ·rintro w' ⟨s0, s1⟩
       go_simp
       with_reducible rfl
      rotate_left
      ·simp only [Act.put, sA_, sB_, sC_, i64_w, i32_w]
       rfl
      refine aP 9 (some 107) (tf_ 10 11) HT_ ?_
      refine aP 10 (some 108) (tb_ 2047 11) HT_ ?_
      refine done_ (done_of HT_.out (by kernel_rfl)) ?_
      have p445 : 0 ≤ (x11_2 : Int) := aD
      have q445 : x11_2 < (y432.length : Int) := aD
      obtain ⟨ad445, e445, hx445_0⟩ := Kd.at_int (Kd.zN HO_8.out).2.2 x11_2 p445 q445; obtain rfl : ad435 = ad445 := (by injection e445)
      replace p445 := eq_true p445; replace q445 := eq_true q445; have p446 : 0 ≤ ((rd y432 x11_2) : Int) := aD
      have q446 : (rd y432 x11_2) < (l0.length : Int) := aD
      obtain ⟨ad446, e446, hx446_0, hx446_1, hx446_2⟩ := at_T50 HR0.out (rd y432 x11_2) p446 q446; obtain rfl : ad436 = ad446 := (by injection e446)
      replace hx446_0 := (HB.out.cell (World.block_lt_of_cell? w _ hx446_0)).trans hx446_0; replace hx446_1 := (HB.out.cell (World.block_lt_of_cell? w _ hx446_1)).trans hx446_1; replace hx446_2 := (HB.out.cell (World.block_lt_of_cell? w _ hx446_2)).trans hx446_2; replace p446 := eq_true p446; replace q446 := eq_true q446; have p455 : 0 ≤ (x11_2 : Int) := aD
      have q455 : x11_2 < (y432.length : Int) := aD
      obtain ⟨ad455, e455, hx455_0⟩ := Kd.at_int (Kd.zN HO_8.out).2.2 x11_2 p455 q455; obtain rfl : ad435 = ad455 := (by injection e455)
      replace p455 := eq_true p455; replace q455 := eq_true q455; have p456 : 0 ≤ ((rd y432 x11_2) : Int) := aD
      have q456 : (rd y432 x11_2) < (l0.length : Int) := aD
      obtain ⟨ad456, e456, hx456_0, hx456_1, hx456_2⟩ := at_T50 HR0.out (rd y432 x11_2) p456 q456; obtain rfl : ad436 = ad456 := (by injection e456)
      replace hx456_0 := (HB.out.cell (World.block_lt_of_cell? w _ hx456_0)).trans hx456_0; replace hx456_1 := (HB.out.cell (World.block_lt_of_cell? w _ hx456_1)).trans hx456_1; replace hx456_2 := (HB.out.cell (World.block_lt_of_cell? w _ hx456_2)).trans hx456_2; replace p456 := eq_true p456; replace q456 := eq_true q456; obtain ⟨hcz82_0, hcz82_1, hcz82_2, hcz82_3, hfz82_0, hfz82_1, hfz82_2, hfz82_3⟩ := aC4 BK437; try go_wp2_with (first | ((with_reducible refine gate_builtin (b := .append) (xs := #[.tmp 129, .tmp 131]) rfl ?_); (try (refine gate_guard (by rfl) ?_; dsimp only)); at_builtin; refine Kd.R_append k48 (w0 := w) w.heap.size rfl (.tmp 129) (.tmp 131) 34 48 (.agg #[(.int .i64 0), (.int .i64 0), (.int .i64 0), (.int .u8 0)]) 32 rfl Try.underlying34 info48 rfl (by decide) (by omega) u10 x10_2 (⟨((rd_T50 l0 (rd y432 x11_2)).f1), x438001_3, x438002_3, 0⟩ : S48) [.int .i64 ((rd_T50 l0 (rd y432 x11_2)).f1), .int .i64 x438001_3, .int .i64 x438002_3, .int .u8 0] (fun k_ => k_ ≠ gb437) (fun _ => False) rfl rfl ?aP (fun _ hk => hk.elim) ?aF ?aO ?aB ?aS ?aL ?_; (case aP => exact k48_mkM _ _ _ (⟨((rd_T50 l0 (rd y432 x11_2)).f1), x438001_3, x438002_3, 0⟩ : S48)); (case aB => exact (aL HB)); (case aF => exact (fun k_ hk => Kd.freshB (g := gb437) (o := .cells #[.int .i64 ((rd_T50 l0 (rd y432 x11_2)).f1), .int .i64 x438001_3, .int .i64 x438002_3, .int .u8 0] 48 (0, 0)) (aB BK437) k_ hk)); (case aO => exact (aR HO_10)); (case aS => exact (zF (aL HB))); (case aL => have := LMc80.out; omega); intro v461 w83 ho hb hg hat; rw [← Ny460.out] at ho; replace HO_8 := zA.mk (Kd.R_over' (aR HO_8) (Kd.R_typed (aR HO_10)) (by decide) hg); replace BK437 := zA.mk (blk_grown (g := gb437) (o := .cells #[.int .i64 ((rd_T50 l0 (rd y432 x11_2)).f1), .int .i64 x438001_3, .int .i64 x438002_3, .int .u8 0] 48 (0, 0)) (aB BK437) hg (Kd.R_away HO_10.out (fun _ hk => hk))); replace HB := zA.mk (hb); have HO462 := zA.mk (ho); clear HO_10; clear ho hb hg hat))
      go_roundg k3
      case measure => have := HK1.out; have := HK2.out; have := HK3.out; omega
      case rel => exact ⟨(y460), (ji24), (by first | rfl | (simp; done) | (simp only [← hji24, ← hji24] <;> (first | rfl | simp)) | (simp [*]; done)), H', ⟨by have := HK1.out; have := HK2.out; have := HK3.out; omega⟩, ⟨aR HO_8⟩, ⟨by (with_reducible repeat (first | apply Kd.zG | apply Kd.zH | apply Kd.zI)); exact Kd.zS HO462.out (fun _ hk => trivial)⟩, ⟨aL HB⟩⟩
     rw [if_pos c73] at H; have c73b0 : (((rd_T50 l0 (rd y432 x11_2)).f0) == 9) = true := beq_iff_eq.mpr c73
     have c73b1 : (((rd_T50 l0 (rd y432 x11_2)).f0) != 9) = false := bne_eq_false_iff_eq.mpr c73
     clear c73; by_cases c74 : x10_2.length < 4398046511104
     rotate_left
     ·rw [if_neg c74] at H
      exact absurd H (by simp)
     rw [if_pos c74] at H; have LMc74 := zA.mk c74; clear c74; obtain ⟨y457, hy457⟩ : ∃ y_ : List (S48), y_ = (x10_2 ++ [(⟨((rd_T50 l0 (rd y432 x11_2)).f1), x438001_3, x438002_3, 2⟩ : S48)]) := ⟨_, rfl⟩; replace H : (r0_Clusters.l1 k3 l0 l2 y432 y457 ji24) = some (r1, r2) := by first | (rw [hy457]; with_reducible exact H) | (have H2_ := (Option.bind_some _ _).symm.trans H; rw [hy457]; with_reducible exact H2_) | (have H2_ := (Option.bind_some _ _).symm.trans H; with_reducible exact H2_) | with_reducible exact H | (rw [hy457]; exact H) | exact H
     have Ny457 := zA.mk hy457; clear hy457; have H' := zA.mk H
     clear H; have p439 : 0 ≤ ((ji24) : Int) := aD
     have q439 : (ji24) < (y432.length : Int) := aD
     obtain ⟨ad439, e439, hx439_0⟩ := Kd.at_int (Kd.zN HO_8.out).2.2 (ji24) p439 q439; obtain rfl : ad435 = ad439 := (by injection e439)
     replace p439 := eq_true p439; replace q439 := eq_true q439; try go_wp2
     replace HO_8 := zA.mk (Kd.zI HO_8.out); replace HO_10 := zA.mk (Kd.zI HO_10.out); replace BK437 := zA.mk (zC BK437.out); replace HB := zA.mk (below_drew1 HB.out); have p443 : 0 ≤ ((ji24) : Int) := aD
     have q443 : (ji24) < (y432.length : Int) := aD
     obtain ⟨ad443, e443, hx443_0⟩ := Kd.at_int (Kd.zN HO_8.out).2.2 (ji24) p443 q443; obtain rfl : ad435 = ad443 := (by injection e443)
     replace p443 := eq_true p443; replace q443 := eq_true q443; have p444 : 0 ≤ (x11_2 : Int) := aD
     have q444 : x11_2 < (y432.length : Int) := aD
     obtain ⟨ad444, e444, hx444_0⟩ := Kd.at_int (Kd.zN HO_8.out).2.2 x11_2 p444 q444; obtain rfl : ad435 = ad444 := (by injection e444)
     replace p444 := eq_true p444; replace q444 := eq_true q444; refine start_ (n := 11) (S := fun w' => w'.cell? (ad435.add ((ji24)).toNat) = some (.int .i64 (rd y432 (ji24))) ∧ w'.cell? (ad435.add (x11_2).toNat) = some (.int .i64 (rd y432 x11_2))) (ds := []) #[false, false, false, false, false, false, false, false, false, false, false] (by kernel_rfl) rfl rfl ⟨hx443_0, hx444_0⟩ (fun hHeld => ?_); refine with_tabW r0_Clusters.tab22 r0_Clusters.bits22 (fun HT_ HW_ => ?_)
     generalize wr.drew = w75 at HO_8 HO_10 BK437 HB hx443_0 hx444_0 hHeld ⊢
     refine aP 0 (some 98) (tf_ 1 11) HT_ ?_
     refine aP 1 (some 99) (tf_ 2 11) HT_ ?_
     refine aP 2 (some 100) (tf_ 3 11) HT_ ?_
     refine aP 3 (some 101) (tf_ 4 11) HT_ ?_
     refine aP 5 (some 103) (tb_ 47 11) HT_ ?_
     refine aP 6 (some 104) (tb_ 111 11) HT_ ?_
     refine aP 7 (some 105) (tb_ 239 11) HT_ ?_
     refine take_ (i := 4) (N := some 102) (v := ?_) (a' := ?_) (tf_ 8 11) rfl rfl (take_ofW HT_.out HW_.out (by kernel_rfl)) (fun _ _ _ h => h) (Or.inl ⟨by rfl, ?_⟩) hHeld ?_ ?_
     rotate_left
     ·rintro w' ⟨s0, s1⟩
      go_simp
      with_reducible rfl
     rotate_left
     ·simp only [Act.put, sA_, sB_, sC_, i64_w, i32_w]
      rfl
     refine take_ (i := 8) (N := some 106) (v := ?_) (a' := ?_) (tf_ 9 11) rfl rfl (take_ofW HT_.out HW_.out (by kernel_rfl)) (fun _ _ _ h => h) (Or.inl ⟨by rfl, ?_⟩) hHeld ?_ ?_
     rotate_left
     ·rintro w' ⟨s0, s1⟩
      go_simp
      with_reducible rfl
     rotate_left
     ·simp only [Act.put, sA_, sB_, sC_, i64_w, i32_w]
      rfl
     refine aP 9 (some 107) (tf_ 10 11) HT_ ?_
     refine aP 10 (some 108) (tb_ 2047 11) HT_ ?_
     refine done_ (done_of HT_.out (by kernel_rfl)) ?_
     have p445 : 0 ≤ (x11_2 : Int) := aD
     have q445 : x11_2 < (y432.length : Int) := aD
     obtain ⟨ad445, e445, hx445_0⟩ := Kd.at_int (Kd.zN HO_8.out).2.2 x11_2 p445 q445; obtain rfl : ad435 = ad445 := (by injection e445)
     replace p445 := eq_true p445; replace q445 := eq_true q445; have p446 : 0 ≤ ((rd y432 x11_2) : Int) := aD
     have q446 : (rd y432 x11_2) < (l0.length : Int) := aD
     obtain ⟨ad446, e446, hx446_0, hx446_1, hx446_2⟩ := at_T50 HR0.out (rd y432 x11_2) p446 q446; obtain rfl : ad436 = ad446 := (by injection e446)
     replace hx446_0 := (HB.out.cell (World.block_lt_of_cell? w _ hx446_0)).trans hx446_0; replace hx446_1 := (HB.out.cell (World.block_lt_of_cell? w _ hx446_1)).trans hx446_1; replace hx446_2 := (HB.out.cell (World.block_lt_of_cell? w _ hx446_2)).trans hx446_2; replace p446 := eq_true p446; replace q446 := eq_true q446; have p455 : 0 ≤ (x11_2 : Int) := aD
     have q455 : x11_2 < (y432.length : Int) := aD
     obtain ⟨ad455, e455, hx455_0⟩ := Kd.at_int (Kd.zN HO_8.out).2.2 x11_2 p455 q455; obtain rfl : ad435 = ad455 := (by injection e455)
     replace p455 := eq_true p455; replace q455 := eq_true q455; have p456 : 0 ≤ ((rd y432 x11_2) : Int) := aD
     have q456 : (rd y432 x11_2) < (l0.length : Int) := aD
     obtain ⟨ad456, e456, hx456_0, hx456_1, hx456_2⟩ := at_T50 HR0.out (rd y432 x11_2) p456 q456; obtain rfl : ad436 = ad456 := (by injection e456)
     replace hx456_0 := (HB.out.cell (World.block_lt_of_cell? w _ hx456_0)).trans hx456_0; replace hx456_1 := (HB.out.cell (World.block_lt_of_cell? w _ hx456_1)).trans hx456_1; replace hx456_2 := (HB.out.cell (World.block_lt_of_cell? w _ hx456_2)).trans hx456_2; replace p456 := eq_true p456; replace q456 := eq_true q456; obtain ⟨hcz76_0, hcz76_1, hcz76_2, hcz76_3, hfz76_0, hfz76_1, hfz76_2, hfz76_3⟩ := aC4 BK437; try go_wp2_with (first | ((with_reducible refine gate_store (t := 46) (p := 128) rfl ?_); refine store_event (t := 46) (p := 128) (v := ?vo_w77) (w1 := (w75.setCell ⟨gb437, 3, none⟩ (.int .u8 2))) ?hg ?ho ?hn ?hr ?_; (case ho => rfl); (case hg => rfl); (case hn => rfl); (case hr => first | (go_simp; done) | (go_simp; rfl)); intro w77 hw; have n0_ : zA (Kd.R (Kd.int .i64) 3 w77 w.heap.size (fun _ => True) (.slice (some ad435) y432.length co20) y432) := ⟨(by rw [hw]; exact (by (with_reducible repeat (first | apply Kd.zG | apply Kd.zH | apply Kd.zI)); exact Kd.zS (Kd.zP (p := ⟨gb437, 3, none⟩) (Kd.zT HO_8.out BK437.out (by decide)) (fun _ hk => hk.2) (.int .u8 2)) (fun _ hk => trivial)))⟩; have n1_ : zA (Kd.R k48 48 w77 w.heap.size (fun k_ => k_ ≠ gb437) u10 x10_2) := ⟨(by rw [hw]; exact (by (with_reducible repeat (first | apply Kd.zG | apply Kd.zH | apply Kd.zI)); exact Kd.zS (Kd.zP (p := ⟨gb437, 3, none⟩) (Kd.zS HO_10.out (fun k_ hk => (⟨hk, hk⟩ : _ ∧ k_ ≠ gb437))) (fun _ hk => hk.2) (.int .u8 2)) (fun _ hk => hk.1)))⟩; have n2_ : zA (w77.heap[gb437]? = some (.cells #[.int .i64 ((rd_T50 l0 (rd y432 x11_2)).f1), .int .i64 x438001_3, .int .i64 x438002_3, .int .u8 2] 48 (0, 0))) := ⟨(by rw [hw]; exact (by (with_reducible repeat (first | refine zD ?_ _ | refine zC ?_ | refine zB ?_ _)); refine blk_put (cs := #[.int .i64 ((rd_T50 l0 (rd y432 x11_2)).f1), .int .i64 x438001_3, .int .i64 x438002_3, .int .u8 0]) ?_ 3 _ rfl; (with_reducible repeat (first | refine zD ?_ _ | refine zC ?_ | refine zB ?_ _)); exact BK437.out))⟩; have n3_ : zA (Below w.heap.size w w77) := ⟨(by rw [hw]; exact (aL HB))⟩; clear hw; clear HO_8; clear HO_10; clear BK437; clear HB; have HO_8 := n0_; have HO_10 := n1_; have BK437 := n2_; have HB := n3_; clear n0_ n1_ n2_ n3_; obtain ⟨hcz78_0, hcz78_1, hcz78_2, hcz78_3, hfz78_0, hfz78_1, hfz78_2, hfz78_3⟩ := aC4 BK437) | ((with_reducible refine gate_builtin (b := .append) (xs := #[.tmp 129, .tmp 131]) rfl ?_); (try (refine gate_guard (by rfl) ?_; dsimp only)); at_builtin; refine Kd.R_append k48 (w0 := w) w.heap.size rfl (.tmp 129) (.tmp 131) 34 48 (.agg #[(.int .i64 0), (.int .i64 0), (.int .i64 0), (.int .u8 0)]) 32 rfl Try.underlying34 info48 rfl (by decide) (by omega) u10 x10_2 (⟨((rd_T50 l0 (rd y432 x11_2)).f1), x438001_3, x438002_3, 2⟩ : S48) [.int .i64 ((rd_T50 l0 (rd y432 x11_2)).f1), .int .i64 x438001_3, .int .i64 x438002_3, .int .u8 2] (fun k_ => k_ ≠ gb437) (fun _ => False) rfl rfl ?aP (fun _ hk => hk.elim) ?aF ?aO ?aB ?aS ?aL ?_; (case aP => exact k48_mkM _ _ _ (⟨((rd_T50 l0 (rd y432 x11_2)).f1), x438001_3, x438002_3, 2⟩ : S48)); (case aB => exact (aL HB)); (case aF => exact (fun k_ hk => Kd.freshB (g := gb437) (o := .cells #[.int .i64 ((rd_T50 l0 (rd y432 x11_2)).f1), .int .i64 x438001_3, .int .i64 x438002_3, .int .u8 2] 48 (0, 0)) (aB BK437) k_ hk)); (case aO => exact (aR HO_10)); (case aS => exact (zF (aL HB))); (case aL => have := LMc74.out; omega); intro v458 w79 ho hb hg hat; rw [← Ny457.out] at ho; replace HO_8 := zA.mk (Kd.R_over' (aR HO_8) (Kd.R_typed (aR HO_10)) (by decide) hg); replace BK437 := zA.mk (blk_grown (g := gb437) (o := .cells #[.int .i64 ((rd_T50 l0 (rd y432 x11_2)).f1), .int .i64 x438001_3, .int .i64 x438002_3, .int .u8 2] 48 (0, 0)) (aB BK437) hg (Kd.R_away HO_10.out (fun _ hk => hk))); replace HB := zA.mk (hb); have HO459 := zA.mk (ho); clear HO_10; clear ho hb hg hat))
     go_roundg k3
     case measure => have := HK1.out; have := HK2.out; have := HK3.out; omega
     case rel => exact ⟨(y457), (ji24), (by first | rfl | (simp; done) | (simp only [← hji24, ← hji24] <;> (first | rfl | simp)) | (simp [*]; done)), H', ⟨by have := HK1.out; have := HK2.out; have := HK3.out; omega⟩, ⟨aR HO_8⟩, ⟨by (with_reducible repeat (first | apply Kd.zG | apply Kd.zH | apply Kd.zI)); exact Kd.zS HO459.out (fun _ hk => trivial)⟩, ⟨aL HB⟩⟩
    rw [if_pos c57] at H; have c57b0 : (((rd_T50 l0 (rd y432 x11_2)).f0) == 32) = true := beq_iff_eq.mpr c57
    have c57b1 : (((rd_T50 l0 (rd y432 x11_2)).f0) != 32) = false := bne_eq_false_iff_eq.mpr c57
    clear c57; by_cases c58 : ((rd_T50 l0 (rd y432 x11_2)).f0) = 9
    rotate_left
    ·rw [if_neg c58] at H
     have c58b0 : (((rd_T50 l0 (rd y432 x11_2)).f0) == 9) = false := beq_eq_false_iff_ne.mpr c58
     have c58b1 : (((rd_T50 l0 (rd y432 x11_2)).f0) != 9) = true := bne_iff_ne.mpr c58
     by_cases c67 : x10_2.length < 4398046511104
     rotate_left
     ·rw [if_neg c67] at H
      exact absurd H (by simp)
     rw [if_pos c67] at H; have LMc67 := zA.mk c67; clear c67; obtain ⟨y452, hy452⟩ : ∃ y_ : List (S48), y_ = (x10_2 ++ [(⟨((rd_T50 l0 (rd y432 x11_2)).f1), x438001_3, x438002_3, 1⟩ : S48)]) := ⟨_, rfl⟩; replace H : (r0_Clusters.l1 k3 l0 l2 y432 y452 ji24) = some (r1, r2) := by first | (rw [hy452]; with_reducible exact H) | (have H2_ := (Option.bind_some _ _).symm.trans H; rw [hy452]; with_reducible exact H2_) | (have H2_ := (Option.bind_some _ _).symm.trans H; with_reducible exact H2_) | with_reducible exact H | (rw [hy452]; exact H) | exact H
     have Ny452 := zA.mk hy452; clear hy452; have H' := zA.mk H
     clear H; have p439 : 0 ≤ ((ji24) : Int) := aD
     have q439 : (ji24) < (y432.length : Int) := aD
     obtain ⟨ad439, e439, hx439_0⟩ := Kd.at_int (Kd.zN HO_8.out).2.2 (ji24) p439 q439; obtain rfl : ad435 = ad439 := (by injection e439)
     replace p439 := eq_true p439; replace q439 := eq_true q439; try go_wp2
     replace HO_8 := zA.mk (Kd.zI HO_8.out); replace HO_10 := zA.mk (Kd.zI HO_10.out); replace BK437 := zA.mk (zC BK437.out); replace HB := zA.mk (below_drew1 HB.out); have p443 : 0 ≤ ((ji24) : Int) := aD
     have q443 : (ji24) < (y432.length : Int) := aD
     obtain ⟨ad443, e443, hx443_0⟩ := Kd.at_int (Kd.zN HO_8.out).2.2 (ji24) p443 q443; obtain rfl : ad435 = ad443 := (by injection e443)
     replace p443 := eq_true p443; replace q443 := eq_true q443; have p444 : 0 ≤ (x11_2 : Int) := aD
     have q444 : x11_2 < (y432.length : Int) := aD
     obtain ⟨ad444, e444, hx444_0⟩ := Kd.at_int (Kd.zN HO_8.out).2.2 x11_2 p444 q444; obtain rfl : ad435 = ad444 := (by injection e444)
     replace p444 := eq_true p444; replace q444 := eq_true q444; refine start_ (n := 11) (S := fun w' => w'.cell? (ad435.add ((ji24)).toNat) = some (.int .i64 (rd y432 (ji24))) ∧ w'.cell? (ad435.add (x11_2).toNat) = some (.int .i64 (rd y432 x11_2))) (ds := []) #[false, false, false, false, false, false, false, false, false, false, false] (by kernel_rfl) rfl rfl ⟨hx443_0, hx444_0⟩ (fun hHeld => ?_); refine with_tabW r0_Clusters.tab22 r0_Clusters.bits22 (fun HT_ HW_ => ?_)
     generalize wr.drew = w68 at HO_8 HO_10 BK437 HB hx443_0 hx444_0 hHeld ⊢
     refine aP 0 (some 98) (tf_ 1 11) HT_ ?_
     refine aP 1 (some 99) (tf_ 2 11) HT_ ?_
     refine aP 2 (some 100) (tf_ 3 11) HT_ ?_
     refine aP 3 (some 101) (tf_ 4 11) HT_ ?_
     refine aP 5 (some 103) (tb_ 47 11) HT_ ?_
     refine aP 6 (some 104) (tb_ 111 11) HT_ ?_
     refine aP 7 (some 105) (tb_ 239 11) HT_ ?_
     refine take_ (i := 4) (N := some 102) (v := ?_) (a' := ?_) (tf_ 8 11) rfl rfl (take_ofW HT_.out HW_.out (by kernel_rfl)) (fun _ _ _ h => h) (Or.inl ⟨by rfl, ?_⟩) hHeld ?_ ?_
     rotate_left
     ·rintro w' ⟨s0, s1⟩
      go_simp
      with_reducible rfl
     rotate_left
     ·simp only [Act.put, sA_, sB_, sC_, i64_w, i32_w]
      rfl
     refine take_ (i := 8) (N := some 106) (v := ?_) (a' := ?_) (tf_ 9 11) rfl rfl (take_ofW HT_.out HW_.out (by kernel_rfl)) (fun _ _ _ h => h) (Or.inl ⟨by rfl, ?_⟩) hHeld ?_ ?_
     rotate_left
     ·rintro w' ⟨s0, s1⟩
      go_simp
      with_reducible rfl
     rotate_left
     ·simp only [Act.put, sA_, sB_, sC_, i64_w, i32_w]
      rfl
     refine aP 9 (some 107) (tf_ 10 11) HT_ ?_
     refine aP 10 (some 108) (tb_ 2047 11) HT_ ?_
     refine done_ (done_of HT_.out (by kernel_rfl)) ?_
     have p445 : 0 ≤ (x11_2 : Int) := aD
     have q445 : x11_2 < (y432.length : Int) := aD
     obtain ⟨ad445, e445, hx445_0⟩ := Kd.at_int (Kd.zN HO_8.out).2.2 x11_2 p445 q445; obtain rfl : ad435 = ad445 := (by injection e445)
     replace p445 := eq_true p445; replace q445 := eq_true q445; have p446 : 0 ≤ ((rd y432 x11_2) : Int) := aD
     have q446 : (rd y432 x11_2) < (l0.length : Int) := aD
     obtain ⟨ad446, e446, hx446_0, hx446_1, hx446_2⟩ := at_T50 HR0.out (rd y432 x11_2) p446 q446; obtain rfl : ad436 = ad446 := (by injection e446)
     replace hx446_0 := (HB.out.cell (World.block_lt_of_cell? w _ hx446_0)).trans hx446_0; replace hx446_1 := (HB.out.cell (World.block_lt_of_cell? w _ hx446_1)).trans hx446_1; replace hx446_2 := (HB.out.cell (World.block_lt_of_cell? w _ hx446_2)).trans hx446_2; replace p446 := eq_true p446; replace q446 := eq_true q446; obtain ⟨hcz69_0, hcz69_1, hcz69_2, hcz69_3, hfz69_0, hfz69_1, hfz69_2, hfz69_3⟩ := aC4 BK437; try go_wp2_with (first | ((with_reducible refine gate_store (t := 46) (p := 118) rfl ?_); refine store_event (t := 46) (p := 118) (v := ?vo_w70) (w1 := (w68.setCell ⟨gb437, 3, none⟩ (.int .u8 1))) ?hg ?ho ?hn ?hr ?_; (case ho => rfl); (case hg => rfl); (case hn => rfl); (case hr => first | (go_simp; done) | (go_simp; rfl)); intro w70 hw; have n0_ : zA (Kd.R (Kd.int .i64) 3 w70 w.heap.size (fun _ => True) (.slice (some ad435) y432.length co20) y432) := ⟨(by rw [hw]; exact (by (with_reducible repeat (first | apply Kd.zG | apply Kd.zH | apply Kd.zI)); exact Kd.zS (Kd.zP (p := ⟨gb437, 3, none⟩) (Kd.zT HO_8.out BK437.out (by decide)) (fun _ hk => hk.2) (.int .u8 1)) (fun _ hk => trivial)))⟩; have n1_ : zA (Kd.R k48 48 w70 w.heap.size (fun k_ => k_ ≠ gb437) u10 x10_2) := ⟨(by rw [hw]; exact (by (with_reducible repeat (first | apply Kd.zG | apply Kd.zH | apply Kd.zI)); exact Kd.zS (Kd.zP (p := ⟨gb437, 3, none⟩) (Kd.zS HO_10.out (fun k_ hk => (⟨hk, hk⟩ : _ ∧ k_ ≠ gb437))) (fun _ hk => hk.2) (.int .u8 1)) (fun _ hk => hk.1)))⟩; have n2_ : zA (w70.heap[gb437]? = some (.cells #[.int .i64 ((rd_T50 l0 (rd y432 x11_2)).f1), .int .i64 x438001_3, .int .i64 x438002_3, .int .u8 1] 48 (0, 0))) := ⟨(by rw [hw]; exact (by (with_reducible repeat (first | refine zD ?_ _ | refine zC ?_ | refine zB ?_ _)); refine blk_put (cs := #[.int .i64 ((rd_T50 l0 (rd y432 x11_2)).f1), .int .i64 x438001_3, .int .i64 x438002_3, .int .u8 0]) ?_ 3 _ rfl; (with_reducible repeat (first | refine zD ?_ _ | refine zC ?_ | refine zB ?_ _)); exact BK437.out))⟩; have n3_ : zA (Below w.heap.size w w70) := ⟨(by rw [hw]; exact (aL HB))⟩; clear hw; clear HO_8; clear HO_10; clear BK437; clear HB; have HO_8 := n0_; have HO_10 := n1_; have BK437 := n2_; have HB := n3_; clear n0_ n1_ n2_ n3_; have p447 : 0 ≤ (x11_2 : Int) := aD; have q447 : x11_2 < (y432.length : Int) := aD; obtain ⟨ad447, e447, hx447_0⟩ := Kd.at_int (Kd.zN HO_8.out).2.2 x11_2 p447 q447; obtain rfl : ad435 = ad447 := (by injection e447); replace p447 := eq_true p447; replace q447 := eq_true q447; have p448 : 0 ≤ ((rd y432 x11_2) : Int) := aD; have q448 : (rd y432 x11_2) < (l0.length : Int) := aD; obtain ⟨ad448, e448, hx448_0, hx448_1, hx448_2⟩ := at_T50 HR0.out (rd y432 x11_2) p448 q448; obtain rfl : ad436 = ad448 := (by injection e448); replace hx448_0 := (HB.out.cell (World.block_lt_of_cell? w _ hx448_0)).trans hx448_0; replace hx448_1 := (HB.out.cell (World.block_lt_of_cell? w _ hx448_1)).trans hx448_1; replace hx448_2 := (HB.out.cell (World.block_lt_of_cell? w _ hx448_2)).trans hx448_2; replace p448 := eq_true p448; replace q448 := eq_true q448; obtain ⟨hcz71_0, hcz71_1, hcz71_2, hcz71_3, hfz71_0, hfz71_1, hfz71_2, hfz71_3⟩ := aC4 BK437) | ((with_reducible refine gate_builtin (b := .append) (xs := #[.tmp 129, .tmp 131]) rfl ?_); (try (refine gate_guard (by rfl) ?_; dsimp only)); at_builtin; refine Kd.R_append k48 (w0 := w) w.heap.size rfl (.tmp 129) (.tmp 131) 34 48 (.agg #[(.int .i64 0), (.int .i64 0), (.int .i64 0), (.int .u8 0)]) 32 rfl Try.underlying34 info48 rfl (by decide) (by omega) u10 x10_2 (⟨((rd_T50 l0 (rd y432 x11_2)).f1), x438001_3, x438002_3, 1⟩ : S48) [.int .i64 ((rd_T50 l0 (rd y432 x11_2)).f1), .int .i64 x438001_3, .int .i64 x438002_3, .int .u8 1] (fun k_ => k_ ≠ gb437) (fun _ => False) rfl rfl ?aP (fun _ hk => hk.elim) ?aF ?aO ?aB ?aS ?aL ?_; (case aP => exact k48_mkM _ _ _ (⟨((rd_T50 l0 (rd y432 x11_2)).f1), x438001_3, x438002_3, 1⟩ : S48)); (case aB => exact (aL HB)); (case aF => exact (fun k_ hk => Kd.freshB (g := gb437) (o := .cells #[.int .i64 ((rd_T50 l0 (rd y432 x11_2)).f1), .int .i64 x438001_3, .int .i64 x438002_3, .int .u8 1] 48 (0, 0)) (aB BK437) k_ hk)); (case aO => exact (aR HO_10)); (case aS => exact (zF (aL HB))); (case aL => have := LMc67.out; omega); intro v453 w72 ho hb hg hat; rw [← Ny452.out] at ho; replace HO_8 := zA.mk (Kd.R_over' (aR HO_8) (Kd.R_typed (aR HO_10)) (by decide) hg); replace BK437 := zA.mk (blk_grown (g := gb437) (o := .cells #[.int .i64 ((rd_T50 l0 (rd y432 x11_2)).f1), .int .i64 x438001_3, .int .i64 x438002_3, .int .u8 1] 48 (0, 0)) (aB BK437) hg (Kd.R_away HO_10.out (fun _ hk => hk))); replace HB := zA.mk (hb); have HO454 := zA.mk (ho); clear HO_10; clear ho hb hg hat))
     go_roundg k3
     case measure => have := HK1.out; have := HK2.out; have := HK3.out; omega
     case rel => exact ⟨(y452), (ji24), (by first | rfl | (simp; done) | (simp only [← hji24, ← hji24] <;> (first | rfl | simp)) | (simp [*]; done)), H', ⟨by have := HK1.out; have := HK2.out; have := HK3.out; omega⟩, ⟨aR HO_8⟩, ⟨by (with_reducible repeat (first | apply Kd.zG | apply Kd.zH | apply Kd.zI)); exact Kd.zS HO454.out (fun _ hk => trivial)⟩, ⟨aL HB⟩⟩
    rw [if_pos c58] at H; have c58b0 : (((rd_T50 l0 (rd y432 x11_2)).f0) == 9) = true := beq_iff_eq.mpr c58
    have c58b1 : (((rd_T50 l0 (rd y432 x11_2)).f0) != 9) = false := bne_eq_false_iff_eq.mpr c58
    clear c58; by_cases c59 : x10_2.length < 4398046511104
    rotate_left
    ·rw [if_neg c59] at H
     exact absurd H (by simp)
    rw [if_pos c59] at H; have LMc59 := zA.mk c59; clear c59; obtain ⟨y449, hy449⟩ : ∃ y_ : List (S48), y_ = (x10_2 ++ [(⟨((rd_T50 l0 (rd y432 x11_2)).f1), x438001_3, x438002_3, 2⟩ : S48)]) := ⟨_, rfl⟩; replace H : (r0_Clusters.l1 k3 l0 l2 y432 y449 ji24) = some (r1, r2) := by first | (rw [hy449]; with_reducible exact H) | (have H2_ := (Option.bind_some _ _).symm.trans H; rw [hy449]; with_reducible exact H2_) | (have H2_ := (Option.bind_some _ _).symm.trans H; with_reducible exact H2_) | with_reducible exact H | (rw [hy449]; exact H) | exact H
    have Ny449 := zA.mk hy449; clear hy449; have H' := zA.mk H
    clear H; have p439 : 0 ≤ ((ji24) : Int) := aD
    have q439 : (ji24) < (y432.length : Int) := aD
    obtain ⟨ad439, e439, hx439_0⟩ := Kd.at_int (Kd.zN HO_8.out).2.2 (ji24) p439 q439; obtain rfl : ad435 = ad439 := (by injection e439)
    replace p439 := eq_true p439; replace q439 := eq_true q439; try go_wp2
    replace HO_8 := zA.mk (Kd.zI HO_8.out); replace HO_10 := zA.mk (Kd.zI HO_10.out); replace BK437 := zA.mk (zC BK437.out); replace HB := zA.mk (below_drew1 HB.out); have p443 : 0 ≤ ((ji24) : Int) := aD
    have q443 : (ji24) < (y432.length : Int) := aD
    obtain ⟨ad443, e443, hx443_0⟩ := Kd.at_int (Kd.zN HO_8.out).2.2 (ji24) p443 q443; obtain rfl : ad435 = ad443 := (by injection e443)
    replace p443 := eq_true p443; replace q443 := eq_true q443; have p444 : 0 ≤ (x11_2 : Int) := aD
    have q444 : x11_2 < (y432.length : Int) := aD
    obtain ⟨ad444, e444, hx444_0⟩ := Kd.at_int (Kd.zN HO_8.out).2.2 x11_2 p444 q444; obtain rfl : ad435 = ad444 := (by injection e444)
    replace p444 := eq_true p444; replace q444 := eq_true q444; refine start_ (n := 11) (S := fun w' => w'.cell? (ad435.add ((ji24)).toNat) = some (.int .i64 (rd y432 (ji24))) ∧ w'.cell? (ad435.add (x11_2).toNat) = some (.int .i64 (rd y432 x11_2))) (ds := []) #[false, false, false, false, false, false, false, false, false, false, false] (by kernel_rfl) rfl rfl ⟨hx443_0, hx444_0⟩ (fun hHeld => ?_); refine with_tabW r0_Clusters.tab22 r0_Clusters.bits22 (fun HT_ HW_ => ?_)
    generalize wr.drew = w60 at HO_8 HO_10 BK437 HB hx443_0 hx444_0 hHeld ⊢
    refine aP 0 (some 98) (tf_ 1 11) HT_ ?_
    refine aP 1 (some 99) (tf_ 2 11) HT_ ?_
    refine aP 2 (some 100) (tf_ 3 11) HT_ ?_
    refine aP 3 (some 101) (tf_ 4 11) HT_ ?_
    refine aP 5 (some 103) (tb_ 47 11) HT_ ?_
    refine aP 6 (some 104) (tb_ 111 11) HT_ ?_
    refine aP 7 (some 105) (tb_ 239 11) HT_ ?_
    refine take_ (i := 4) (N := some 102) (v := ?_) (a' := ?_) (tf_ 8 11) rfl rfl (take_ofW HT_.out HW_.out (by kernel_rfl)) (fun _ _ _ h => h) (Or.inl ⟨by rfl, ?_⟩) hHeld ?_ ?_
    rotate_left
    ·rintro w' ⟨s0, s1⟩
     go_simp
     with_reducible rfl
    rotate_left
    ·simp only [Act.put, sA_, sB_, sC_, i64_w, i32_w]
     rfl
    refine take_ (i := 8) (N := some 106) (v := ?_) (a' := ?_) (tf_ 9 11) rfl rfl (take_ofW HT_.out HW_.out (by kernel_rfl)) (fun _ _ _ h => h) (Or.inl ⟨by rfl, ?_⟩) hHeld ?_ ?_
    rotate_left
    ·rintro w' ⟨s0, s1⟩
     go_simp
     with_reducible rfl
    rotate_left
    ·simp only [Act.put, sA_, sB_, sC_, i64_w, i32_w]
     rfl
    refine aP 9 (some 107) (tf_ 10 11) HT_ ?_
    refine aP 10 (some 108) (tb_ 2047 11) HT_ ?_
    refine done_ (done_of HT_.out (by kernel_rfl)) ?_
    have p445 : 0 ≤ (x11_2 : Int) := aD
    have q445 : x11_2 < (y432.length : Int) := aD
    obtain ⟨ad445, e445, hx445_0⟩ := Kd.at_int (Kd.zN HO_8.out).2.2 x11_2 p445 q445; obtain rfl : ad435 = ad445 := (by injection e445)
    replace p445 := eq_true p445; replace q445 := eq_true q445; have p446 : 0 ≤ ((rd y432 x11_2) : Int) := aD
    have q446 : (rd y432 x11_2) < (l0.length : Int) := aD
    obtain ⟨ad446, e446, hx446_0, hx446_1, hx446_2⟩ := at_T50 HR0.out (rd y432 x11_2) p446 q446; obtain rfl : ad436 = ad446 := (by injection e446)
    replace hx446_0 := (HB.out.cell (World.block_lt_of_cell? w _ hx446_0)).trans hx446_0; replace hx446_1 := (HB.out.cell (World.block_lt_of_cell? w _ hx446_1)).trans hx446_1; replace hx446_2 := (HB.out.cell (World.block_lt_of_cell? w _ hx446_2)).trans hx446_2; replace p446 := eq_true p446; replace q446 := eq_true q446; obtain ⟨hcz61_0, hcz61_1, hcz61_2, hcz61_3, hfz61_0, hfz61_1, hfz61_2, hfz61_3⟩ := aC4 BK437; try go_wp2_with (first | ((with_reducible refine gate_store (t := 46) (p := 118) rfl ?_); refine store_event (t := 46) (p := 118) (v := ?vo_w62) (w1 := (w60.setCell ⟨gb437, 3, none⟩ (.int .u8 1))) ?hg ?ho ?hn ?hr ?_; (case ho => rfl); (case hg => rfl); (case hn => rfl); (case hr => first | (go_simp; done) | (go_simp; rfl)); intro w62 hw; have n0_ : zA (Kd.R (Kd.int .i64) 3 w62 w.heap.size (fun _ => True) (.slice (some ad435) y432.length co20) y432) := ⟨(by rw [hw]; exact (by (with_reducible repeat (first | apply Kd.zG | apply Kd.zH | apply Kd.zI)); exact Kd.zS (Kd.zP (p := ⟨gb437, 3, none⟩) (Kd.zT HO_8.out BK437.out (by decide)) (fun _ hk => hk.2) (.int .u8 1)) (fun _ hk => trivial)))⟩; have n1_ : zA (Kd.R k48 48 w62 w.heap.size (fun k_ => k_ ≠ gb437) u10 x10_2) := ⟨(by rw [hw]; exact (by (with_reducible repeat (first | apply Kd.zG | apply Kd.zH | apply Kd.zI)); exact Kd.zS (Kd.zP (p := ⟨gb437, 3, none⟩) (Kd.zS HO_10.out (fun k_ hk => (⟨hk, hk⟩ : _ ∧ k_ ≠ gb437))) (fun _ hk => hk.2) (.int .u8 1)) (fun _ hk => hk.1)))⟩; have n2_ : zA (w62.heap[gb437]? = some (.cells #[.int .i64 ((rd_T50 l0 (rd y432 x11_2)).f1), .int .i64 x438001_3, .int .i64 x438002_3, .int .u8 1] 48 (0, 0))) := ⟨(by rw [hw]; exact (by (with_reducible repeat (first | refine zD ?_ _ | refine zC ?_ | refine zB ?_ _)); refine blk_put (cs := #[.int .i64 ((rd_T50 l0 (rd y432 x11_2)).f1), .int .i64 x438001_3, .int .i64 x438002_3, .int .u8 0]) ?_ 3 _ rfl; (with_reducible repeat (first | refine zD ?_ _ | refine zC ?_ | refine zB ?_ _)); exact BK437.out))⟩; have n3_ : zA (Below w.heap.size w w62) := ⟨(by rw [hw]; exact (aL HB))⟩; clear hw; clear HO_8; clear HO_10; clear BK437; clear HB; have HO_8 := n0_; have HO_10 := n1_; have BK437 := n2_; have HB := n3_; clear n0_ n1_ n2_ n3_; have p447 : 0 ≤ (x11_2 : Int) := aD; have q447 : x11_2 < (y432.length : Int) := aD; obtain ⟨ad447, e447, hx447_0⟩ := Kd.at_int (Kd.zN HO_8.out).2.2 x11_2 p447 q447; obtain rfl : ad435 = ad447 := (by injection e447); replace p447 := eq_true p447; replace q447 := eq_true q447; have p448 : 0 ≤ ((rd y432 x11_2) : Int) := aD; have q448 : (rd y432 x11_2) < (l0.length : Int) := aD; obtain ⟨ad448, e448, hx448_0, hx448_1, hx448_2⟩ := at_T50 HR0.out (rd y432 x11_2) p448 q448; obtain rfl : ad436 = ad448 := (by injection e448); replace hx448_0 := (HB.out.cell (World.block_lt_of_cell? w _ hx448_0)).trans hx448_0; replace hx448_1 := (HB.out.cell (World.block_lt_of_cell? w _ hx448_1)).trans hx448_1; replace hx448_2 := (HB.out.cell (World.block_lt_of_cell? w _ hx448_2)).trans hx448_2; replace p448 := eq_true p448; replace q448 := eq_true q448; obtain ⟨hcz63_0, hcz63_1, hcz63_2, hcz63_3, hfz63_0, hfz63_1, hfz63_2, hfz63_3⟩ := aC4 BK437) | ((with_reducible refine gate_store (t := 46) (p := 128) rfl ?_); refine store_event (t := 46) (p := 128) (v := ?vo_w64) (w1 := (w62.setCell ⟨gb437, 3, none⟩ (.int .u8 2))) ?hg ?ho ?hn ?hr ?_; (case ho => rfl); (case hg => rfl); (case hn => rfl); (case hr => first | (go_simp; done) | (go_simp; rfl)); intro w64 hw; have n0_ : zA (Kd.R (Kd.int .i64) 3 w64 w.heap.size (fun _ => True) (.slice (some ad435) y432.length co20) y432) := ⟨(by rw [hw]; exact (by (with_reducible repeat (first | apply Kd.zG | apply Kd.zH | apply Kd.zI)); exact Kd.zS (Kd.zP (p := ⟨gb437, 3, none⟩) (Kd.zT HO_8.out BK437.out (by decide)) (fun _ hk => hk.2) (.int .u8 2)) (fun _ hk => trivial)))⟩; have n1_ : zA (Kd.R k48 48 w64 w.heap.size (fun k_ => k_ ≠ gb437) u10 x10_2) := ⟨(by rw [hw]; exact (by (with_reducible repeat (first | apply Kd.zG | apply Kd.zH | apply Kd.zI)); exact Kd.zS (Kd.zP (p := ⟨gb437, 3, none⟩) (Kd.zS HO_10.out (fun k_ hk => (⟨hk, hk⟩ : _ ∧ k_ ≠ gb437))) (fun _ hk => hk.2) (.int .u8 2)) (fun _ hk => hk.1)))⟩; have n2_ : zA (w64.heap[gb437]? = some (.cells #[.int .i64 ((rd_T50 l0 (rd y432 x11_2)).f1), .int .i64 x438001_3, .int .i64 x438002_3, .int .u8 2] 48 (0, 0))) := ⟨(by rw [hw]; exact (by (with_reducible repeat (first | refine zD ?_ _ | refine zC ?_ | refine zB ?_ _)); refine blk_put (cs := #[.int .i64 ((rd_T50 l0 (rd y432 x11_2)).f1), .int .i64 x438001_3, .int .i64 x438002_3, .int .u8 1]) ?_ 3 _ rfl; (with_reducible repeat (first | refine zD ?_ _ | refine zC ?_ | refine zB ?_ _)); exact BK437.out))⟩; have n3_ : zA (Below w.heap.size w w64) := ⟨(by rw [hw]; exact (aL HB))⟩; clear hw; clear HO_8; clear HO_10; clear BK437; clear HB; have HO_8 := n0_; have HO_10 := n1_; have BK437 := n2_; have HB := n3_; clear n0_ n1_ n2_ n3_; obtain ⟨hcz65_0, hcz65_1, hcz65_2, hcz65_3, hfz65_0, hfz65_1, hfz65_2, hfz65_3⟩ := aC4 BK437) | ((with_reducible refine gate_builtin (b := .append) (xs := #[.tmp 129, .tmp 131]) rfl ?_); (try (refine gate_guard (by rfl) ?_; dsimp only)); at_builtin; refine Kd.R_append k48 (w0 := w) w.heap.size rfl (.tmp 129) (.tmp 131) 34 48 (.agg #[(.int .i64 0), (.int .i64 0), (.int .i64 0), (.int .u8 0)]) 32 rfl Try.underlying34 info48 rfl (by decide) (by omega) u10 x10_2 (⟨((rd_T50 l0 (rd y432 x11_2)).f1), x438001_3, x438002_3, 2⟩ : S48) [.int .i64 ((rd_T50 l0 (rd y432 x11_2)).f1), .int .i64 x438001_3, .int .i64 x438002_3, .int .u8 2] (fun k_ => k_ ≠ gb437) (fun _ => False) rfl rfl ?aP (fun _ hk => hk.elim) ?aF ?aO ?aB ?aS ?aL ?_; (case aP => exact k48_mkM _ _ _ (⟨((rd_T50 l0 (rd y432 x11_2)).f1), x438001_3, x438002_3, 2⟩ : S48)); (case aB => exact (aL HB)); (case aF => exact (fun k_ hk => Kd.freshB (g := gb437) (o := .cells #[.int .i64 ((rd_T50 l0 (rd y432 x11_2)).f1), .int .i64 x438001_3, .int .i64 x438002_3, .int .u8 2] 48 (0, 0)) (aB BK437) k_ hk)); (case aO => exact (aR HO_10)); (case aS => exact (zF (aL HB))); (case aL => have := LMc59.out; omega); intro v450 w66 ho hb hg hat; rw [← Ny449.out] at ho; replace HO_8 := zA.mk (Kd.R_over' (aR HO_8) (Kd.R_typed (aR HO_10)) (by decide) hg); replace BK437 := zA.mk (blk_grown (g := gb437) (o := .cells #[.int .i64 ((rd_T50 l0 (rd y432 x11_2)).f1), .int .i64 x438001_3, .int .i64 x438002_3, .int .u8 2] 48 (0, 0)) (aB BK437) hg (Kd.R_away HO_10.out (fun _ hk => hk))); replace HB := zA.mk (hb); have HO451 := zA.mk (ho); clear HO_10; clear ho hb hg hat))
    go_roundg k3
    case measure => have := HK1.out; have := HK2.out; have := HK3.out; omega
    case rel => exact ⟨(y449), (ji24), (by first | rfl | (simp; done) | (simp only [← hji24, ← hji24] <;> (first | rfl | simp)) | (simp [*]; done)), H', ⟨by have := HK1.out; have := HK2.out; have := HK3.out; omega⟩, ⟨aR HO_8⟩, ⟨by (with_reducible repeat (first | apply Kd.zG | apply Kd.zH | apply Kd.zI)); exact Kd.zS HO451.out (fun _ hk => trivial)⟩, ⟨aL HB⟩⟩
mutual
def r0_Make.l0 : Nat → List (S50) → List Int → List Bool → List Int → Int → List (S48) → List Int → Option ((List (S48)) × List Int)
 | 0, _, _, _, _, _, _, _ => none
 | k + 1, x0, x2, x3, x12, x14, x474000, x474001 => if x14 < (x12.length : Int) then (if 0 ≤ x14 then (if (rd x12 x14) < (x2.length : Int) then (if 0 ≤ (rd x12 x14) then (r0_Make.j1 k x0 x2 x3 x12 x14 (rd x12 x14) (rd x2 (rd x12 x14)) x474000 x474001) else (none)) else (r0_Make.j1 k x0 x2 x3 x12 x14 (rd x12 x14) 0 x474000 x474001)) else (none)) else (some (x474000, x474001))
def r0_Make.j1 : Nat → List (S50) → List Int → List Bool → List Int → Int → Int → Int → List (S48) → List Int → Option ((List (S48)) × List Int)
 | 0, _, _, _, _, _, _, _, _, _ => none
 | k + 1, x0, x2, x3, x12, x14, x15, x16, x474000, x474001 => if x15 < (x2.length : Int) then (if x16 = 0 then (if x15 < (x3.length : Int) then (if 0 ≤ x15 then (r0_Make.j2 k x0 x2 x3 x12 x14 x15 x16 (rdOf false x3 x15) x474000 x474001) else (none)) else (r0_Make.j2 k x0 x2 x3 x12 x14 x15 x16 false x474000 x474001)) else (r0_Make.j2 k x0 x2 x3 x12 x14 x15 x16 false x474000 x474001)) else (r0_Make.j2 k x0 x2 x3 x12 x14 x15 x16 false x474000 x474001)
def r0_Make.j2 : Nat → List (S50) → List Int → List Bool → List Int → Int → Int → Int → Bool → List (S48) → List Int → Option ((List (S48)) × List Int)
 | 0, _, _, _, _, _, _, _, _, _, _ => none
 | k + 1, x0, x2, x3, x12, x14, x15, x16, x63, x474000, x474001 => if x63 = true then (r0_Make.j3 k x0 x2 x3 x12 x14 x15 3 x474000 x474001) else (r0_Make.j3 k x0 x2 x3 x12 x14 x15 x16 x474000 x474001)
def r0_Make.j3 : Nat → List (S50) → List Int → List Bool → List Int → Int → Int → Int → List (S48) → List Int → Option ((List (S48)) × List Int)
 | 0, _, _, _, _, _, _, _, _, _ => none
 | k + 1, x0, x2, x3, x12, x14, x15, x16, x474000, x474001 => if x15 = 0 then (if x15 = (x0.length : Int) then (if x474001.length < 140737488355328 then (r0_Make.l0 k x0 x2 x3 x12 (wrap64 (x14 + 1)) x474000 (x474001 ++ [2])) else (none)) else (if x474001.length < 140737488355328 then (r0_Make.l0 k x0 x2 x3 x12 (wrap64 (x14 + 1)) x474000 (x474001 ++ [0])) else (none))) else (if x15 = (x0.length : Int) then (if x474001.length < 140737488355328 then (r0_Make.l0 k x0 x2 x3 x12 (wrap64 (x14 + 1)) x474000 (x474001 ++ [2])) else (none)) else (if x474001.length < 140737488355328 then (r0_Make.l0 k x0 x2 x3 x12 (wrap64 (x14 + 1)) x474000 (x474001 ++ [x16])) else (none)))
end
def r0_Make.f (k : Nat) (l0 : List (S50)) (l1 : List Int) (l2 : List Int) (l3 : List Bool) (l4 : List (S45)) : Option ((List (S48)) × List Int) := (r0_Clusters.f k l0 l1 l4).bind fun bt467 => (r0_Make.l0 k l0 l2 l3 bt467.2 0 bt467.1 ([] : List Int))
theorem r0_Make.mono_l : ∀ k, (∀ y0 y1 y2 y3 y4 y5 y6, LeO (r0_Make.l0 k y0 y1 y2 y3 y4 y5 y6) (r0_Make.l0 (k + 1) y0 y1 y2 y3 y4 y5 y6)) ∧ (∀ y0 y1 y2 y3 y4 y5 y6 y7 y8, LeO (r0_Make.j1 k y0 y1 y2 y3 y4 y5 y6 y7 y8) (r0_Make.j1 (k + 1) y0 y1 y2 y3 y4 y5 y6 y7 y8)) ∧ (∀ y0 y1 y2 y3 y4 y5 y6 y7 y8 y9, LeO (r0_Make.j2 k y0 y1 y2 y3 y4 y5 y6 y7 y8 y9) (r0_Make.j2 (k + 1) y0 y1 y2 y3 y4 y5 y6 y7 y8 y9)) ∧ (∀ y0 y1 y2 y3 y4 y5 y6 y7 y8, LeO (r0_Make.j3 k y0 y1 y2 y3 y4 y5 y6 y7 y8) (r0_Make.j3 (k + 1) y0 y1 y2 y3 y4 y5 y6 y7 y8))
 | 0 => ⟨fun _ _ _ _ _ _ _ r h => by simp [r0_Make.l0] at h, fun _ _ _ _ _ _ _ _ _ r h => by simp [r0_Make.j1] at h, fun _ _ _ _ _ _ _ _ _ _ r h => by simp [r0_Make.j2] at h, fun _ _ _ _ _ _ _ _ _ r h => by simp [r0_Make.j3] at h⟩
 | k + 1 => by
  obtain ⟨ih0, ih1, ih2, ih3⟩ := r0_Make.mono_l k; refine ⟨?_, ?_, ?_, ?_⟩
  ·intro y0 y1 y2 y3 y4 y5 y6
   unfold r0_Make.l0
   repeat' (with_reducible first | exact ih0 _ _ _ _ _ _ _ | exact ih1 _ _ _ _ _ _ _ _ _ | exact ih2 _ _ _ _ _ _ _ _ _ _ | exact ih3 _ _ _ _ _ _ _ _ _ | exact r0_Clusters.mono _ _ _ _ | exact LeO.refl _ | exact LeO.none _ | refine LeO.ite ?_ ?_ | refine LeO.bind ?_ (fun _ => ?_))
  ·intro y0 y1 y2 y3 y4 y5 y6 y7 y8
   unfold r0_Make.j1
   repeat' (with_reducible first | exact ih0 _ _ _ _ _ _ _ | exact ih1 _ _ _ _ _ _ _ _ _ | exact ih2 _ _ _ _ _ _ _ _ _ _ | exact ih3 _ _ _ _ _ _ _ _ _ | exact r0_Clusters.mono _ _ _ _ | exact LeO.refl _ | exact LeO.none _ | refine LeO.ite ?_ ?_ | refine LeO.bind ?_ (fun _ => ?_))
  ·intro y0 y1 y2 y3 y4 y5 y6 y7 y8 y9
   unfold r0_Make.j2
   repeat' (with_reducible first | exact ih0 _ _ _ _ _ _ _ | exact ih1 _ _ _ _ _ _ _ _ _ | exact ih2 _ _ _ _ _ _ _ _ _ _ | exact ih3 _ _ _ _ _ _ _ _ _ | exact r0_Clusters.mono _ _ _ _ | exact LeO.refl _ | exact LeO.none _ | refine LeO.ite ?_ ?_ | refine LeO.bind ?_ (fun _ => ?_))
  ·intro y0 y1 y2 y3 y4 y5 y6 y7 y8
   unfold r0_Make.j3
   repeat' (with_reducible first | exact ih0 _ _ _ _ _ _ _ | exact ih1 _ _ _ _ _ _ _ _ _ | exact ih2 _ _ _ _ _ _ _ _ _ _ | exact ih3 _ _ _ _ _ _ _ _ _ | exact r0_Clusters.mono _ _ _ _ | exact LeO.refl _ | exact LeO.none _ | refine LeO.ite ?_ ?_ | refine LeO.bind ?_ (fun _ => ?_))
theorem r0_Make.mono : ∀ a0 a1 a2 a3 a4 k, LeO (r0_Make.f k a0 a1 a2 a3 a4) (r0_Make.f (k + 1) a0 a1 a2 a3 a4) := by
 intro a0 a1 a2 a3 a4 k
 obtain ⟨ih0, ih1, ih2, ih3⟩ := r0_Make.mono_l k; unfold r0_Make.f
 repeat' (with_reducible first | exact ih0 _ _ _ _ _ _ _ | exact ih1 _ _ _ _ _ _ _ _ _ | exact ih2 _ _ _ _ _ _ _ _ _ _ | exact ih3 _ _ _ _ _ _ _ _ _ | exact r0_Clusters.mono _ _ _ _ | exact LeO.refl _ | exact LeO.none _ | refine LeO.ite ?_ ?_ | refine LeO.bind ?_ (fun _ => ?_))
set_option maxHeartbeats 8000000 in
set_option maxRecDepth 100000 in
theorem r0_Make.calls (k : Nat) (A0 : Option Addr) (c0 : Nat) (l0 : List (S50)) (A1 : Option Addr) (c1 : Nat) (l1 : List Int) (A2 : Option Addr) (c2 : Nat) (l2 : List Int) (A3 : Option Addr) (c3 : Nat) (l3 : List Bool) (A4 : Option Addr) (c4 : Nat) (l4 : List (S45)) (r1 : List (S48)) (r2 : List Int) (w : World) (hr0 : Kd.C k50 w A0 l0.length l0) (hc0 : l0.length ≤ c0) (hr1 : Kd.C (Kd.int .u8) w A1 l1.length l1) (hc1 : l1.length ≤ c1) (hr2 : Kd.C (Kd.int .u8) w A2 l2.length l2) (hc2 : l2.length ≤ c2) (hr3 : Kd.C Kd.bool w A3 l3.length l3) (hc3 : l3.length ≤ c3) (hr4 : Kd.C k45 w A4 l4.length l4) (hc4 : l4.length ≤ c4) (h : r0_Make.f k l0 l1 l2 l3 l4 = some (r1, r2)) :
  Calls Try.prog 26 #[.slice A0 l0.length c0, .slice A1 l1.length c1, .slice A2 l2.length c2, .slice A3 l3.length c3, .slice A4 l4.length c4] w fun e w' => ∃ v0_ v1_ : Value, e = .returned (.agg #[v0_, v1_]) ∧ Kd.R k48 48 w' w.heap.size (fun _ => True) v0_ r1 ∧ Kd.R (Kd.int .u8) 53 w' w.heap.size (fun _ => True) v1_ r2 ∧ Below w.heap.size w w' := by
 have hu60 := Try.underlying60; have HR0 := zA.mk hr0; have HC0 := zA.mk hc0; clear hr0 hc0; have HR1 := zA.mk hr1; have HC1 := zA.mk hc1; clear hr1 hc1; have HR2 := zA.mk hr2; have HC2 := zA.mk hc2; clear hr2 hc2; have HR3 := zA.mk hr3; have HC3 := zA.mk hc3; clear hr3 hc3; have HR4 := zA.mk hr4; have HC4 := zA.mk hc4; clear hr4 hc4; have HB := zA.mk (Below.refl w.heap.size w); have H : ((r0_Clusters.f k l0 l1 l4).bind fun bt467 => (r0_Make.l0 k l0 l2 l3 bt467.2 0 bt467.1 ([] : List Int))) = some (r1, r2) := h
 clear h; replace H := Option.bind_eq_some_iff.mp H; obtain ⟨⟨t467, t468⟩, A60, H⟩ := H; replace H : (r0_Make.l0 k l0 l2 l3 t468 0 t467 ([] : List Int)) = some (r1, r2) := H; have A6 := zA.mk A60; clear A60; have H' := zA.mk H
 clear H; go_enter Try.func26, Try.ntmps26
 go_wp2_with (first | ((with_reducible refine gate_dst (N := 10) rfl ?_); (try (refine gate_guard (by rfl) ?_; dsimp only)); refine box_event ?hg (N := 10) ?hd (cs := #[.slice none 0 0, .slice none 0 0]) (t := 60) ?hr ?_; (case hd => rfl); (case hg => rfl); (case hr => first | (go_simp; done) | (go_simp; rfl)); intro gb466 hg w7 hbox hb; have BK466 := zA.mk (hbox); have GW466 := zA.mk ((by rw [hg]; exact (zF (aL HB)) : w.heap.size ≤ gb466)); replace HB := zA.mk (below_step (aL HB) hb); have GE466 := GW466; clear hb hbox hg) | ((with_reducible refine gate_callee (f := 19) rfl ?_); refine goesL_ (some 21) rfl rfl Try.func19 (by kernel_rfl) rfl #[.slice A0 l0.length c0, .slice A1 l1.length c1, .slice A4 l4.length c4] rfl aT ?_; (with_reducible refine (r0_Clusters.calls k _ _ l0 _ _ l1 _ _ l4 t467 t468 _ ?side1 ?side2 ?side3 ?side4 ?side5 ?side6 A6.out).mono ?_); (case side1 => exact aA HR0 HB); (case side2 => exact HC0.out); (case side3 => exact aA HR1 HB); (case side4 => exact HC1.out); (case side5 => exact aA HR4 HB); (case side6 => exact HC4.out); rintro e w8 ⟨v469, v471, rfl, ho0, ho1, hb⟩; refine ⟨_, rfl, ?_⟩; have HO470 := zA.mk (Kd.zR ho0 (zF (aL HB))); have HO472 := zA.mk (Kd.zR ho1 (zF (aL HB))); replace BK466 := zA.mk (blk_below (aB BK466) hb); replace HB := zA.mk (below_step (aL HB) hb); (try clear hb); (try clear hb2); (try clear hk); (try clear hi); (try clear ho0); (try clear ho1); obtain ⟨Ao9, co9, eo9⟩ := Kd.zQ HO470.out; subst eo9) | ((with_reducible refine gate_dst (N := 13) rfl ?_); (try (refine gate_guard (by rfl) ?_; dsimp only)); refine box_event ?hg (N := 13) ?hd (cs := #[.slice none 0 0, .slice none 0 0]) (t := 60) ?hr ?_; (case hd => rfl); (case hg => rfl); (case hr => first | (go_simp; done) | (go_simp; rfl)); intro gb473 hg w10 hbox hb; replace HO470 := zA.mk (Kd.zO (aR HO470) hb); replace HO472 := zA.mk (Kd.zO (aR HO472) hb); have BK473 := zA.mk (hbox); have GW473 := zA.mk ((by rw [hg]; exact (zF (aL HB)) : w.heap.size ≤ gb473)); replace HB := zA.mk (below_step (aL HB) hb); have GE473 := GW473; have NB466_473 := zA.mk ((by rw [hg]; exact Nat.ne_of_lt (blk_lt (aB BK466)) : gb466 ≠ gb473)); have NB473_466 := zA.mk ((by rw [hg]; exact Nat.ne_of_gt (blk_lt (g := gb466) (o := .cells #[.slice none 0 0, .slice none 0 0] 60 (0, 0)) (aB BK466)) : gb473 ≠ gb466)); replace BK466 := zA.mk (blk_below (aB BK466) hb); clear hb hbox hg; have hnb11 := NB473_466.out; have hnc11 := NB466_473.out; obtain ⟨hcz12_0, hcz12_1, hfz12_0, hfz12_1⟩ := aC2 BK473) | ((with_reducible refine gate_store (t := 60) (p := 13) rfl ?_); refine store_event (t := 60) (p := 13) (v := ?vo_w13) (w1 := ((w10.setCell ⟨gb473, 0, none⟩ (.slice Ao9 t467.length co9)).setCell ⟨gb473, 1, none⟩ (.slice none 0 0))) ?hg ?ho ?hn ?hr ?_; (case ho => rfl); (case hg => rfl); (case hn => rfl); (case hr => first | (go_simp; done) | (go_simp; rfl)); intro w13 hw; have n0_ : zA (Kd.R k48 48 w13 w.heap.size (fun _ => True) (.slice Ao9 t467.length co9) t467) := ⟨(by rw [hw]; exact (by (with_reducible repeat (first | apply Kd.zG | apply Kd.zH | apply Kd.zI)); exact Kd.zS (Kd.zP (p := ⟨gb473, 1, none⟩) (Kd.zP (p := ⟨gb473, 0, none⟩) (Kd.zT HO470.out BK473.out (by decide)) (fun _ hk => hk.2) (.slice Ao9 t467.length co9)) (fun _ hk => hk.2) (.slice none 0 0)) (fun _ hk => trivial)))⟩; have n1_ : zA (Kd.R (Kd.int .i64) 3 w13 w.heap.size (fun _ => True) v471 t468) := ⟨(by rw [hw]; exact (by (with_reducible repeat (first | apply Kd.zG | apply Kd.zH | apply Kd.zI)); exact Kd.zS (Kd.zP (p := ⟨gb473, 1, none⟩) (Kd.zP (p := ⟨gb473, 0, none⟩) (Kd.zT HO472.out BK473.out (by decide)) (fun _ hk => hk.2) (.slice Ao9 t467.length co9)) (fun _ hk => hk.2) (.slice none 0 0)) (fun _ hk => trivial)))⟩; have n2_ : zA (w13.heap[gb466]? = some (.cells #[.slice none 0 0, .slice none 0 0] 60 (0, 0))) := ⟨(by rw [hw]; exact (aB BK466))⟩; have n3_ : zA (w13.heap[gb473]? = some (.cells #[.slice Ao9 t467.length co9, .slice none 0 0] 60 (0, 0))) := ⟨(by rw [hw]; exact (by (with_reducible repeat (first | refine zD ?_ _ | refine zC ?_ | refine zB ?_ _)); refine blk_put (cs := #[.slice Ao9 t467.length co9, .slice none 0 0]) ?_ 1 _ rfl; (with_reducible repeat (first | refine zD ?_ _ | refine zC ?_ | refine zB ?_ _)); refine blk_put (cs := #[.slice none 0 0, .slice none 0 0]) ?_ 0 _ rfl; (with_reducible repeat (first | refine zD ?_ _ | refine zC ?_ | refine zB ?_ _)); exact BK473.out))⟩; have n4_ : zA (Below w.heap.size w w13) := ⟨(by rw [hw]; exact (aL HB))⟩; clear hw; clear HO470; clear HO472; clear BK466; clear BK473; clear HB; have HO470 := n0_; have HO472 := n1_; have BK466 := n2_; have BK473 := n3_; have HB := n4_; clear n0_ n1_ n2_ n3_ n4_))
 go_loopg [14] k (fun kq v14 w' => ∃ (x14_1 : Int) (x474001_1 : List Int) (u474001 : Value), v14 = .int .i64 x14_1 ∧ zA (r0_Make.l0 kq l0 l2 l3 t468 x14_1 t467 x474001_1 = some (r1, r2)) ∧ zA (kq ≤ k) ∧ zA (Kd.R (Kd.int .i64) 3 w' w.heap.size (fun _ => True) v471 t468) ∧ zA (Kd.R k48 48 w' w.heap.size (fun _ => True) (.slice Ao9 t467.length co9) t467) ∧ zA (Kd.R (Kd.int .u8) 53 w' w.heap.size (fun _ => True) u474001 x474001_1) ∧ zA (w'.heap[gb466]? = some (.cells #[(.slice none 0 0), (.slice none 0 0)] 60 (0, 0))) ∧ zA (w'.heap[gb473]? = some (.cells #[(.slice Ao9 t467.length co9), u474001] 60 (0, 0))) ∧ zA (Below w.heap.size w w'))
 case atStart => exact ⟨(0), (([] : List Int)), (.slice none 0 0), aZ, H', ⟨Nat.le_refl _⟩, ⟨aR HO472⟩, ⟨aR HO470⟩, ⟨by first | exact Kd.R_nil _ _ _ _ _ | exact Kd.N_nil _ _ _ _ _ | exact Kd.V_nil _ _ _ _ _ | exact Kd.Q_nil _ _ _ _ _ | exact Kd.S_nil _ _ _ _ _⟩, ⟨aB BK466⟩, ⟨aB BK473⟩, ⟨aL HB⟩⟩
 clear H'; obtain ⟨x14_1, x474001_1, u474001, rfl, HA, HK1, HO_12, HO_474000, HO_474001, BK466, BK473, HB⟩ := hrel; cases gk with
 | zero => exact absurd HA.out (by simp [r0_Make.l0])
 | succ k1 =>
  have H := HA.out; clear HA; simp only [r0_Make.l0] at H; by_cases c14 : x14_1 < (t468.length : Int)
  rotate_left
  ·rw [if_neg c14] at H
   have c14b0 : decide (x14_1 < (t468.length : Int)) = false := decide_eq_false c14
   clear c14; simp only [Option.some.injEq, Prod.mk.injEq] at H; obtain ⟨rfl, rfl⟩ := H; obtain ⟨Ao54, co54, eo54⟩ := Kd.zQ HO_12.out; subst eo54; have hnb55 := NB473_466.out; have hnc55 := NB466_473.out; obtain ⟨hcz56_0, hcz56_1, hfz56_0, hfz56_1⟩ := aC2 BK473; obtain ⟨hcz57_0, hcz57_1, hfz57_0, hfz57_1⟩ := aC2 BK466; obtain ⟨Ao58, co58, eo58⟩ := Kd.zQ HO_474001.out; subst eo58; go_wp2_with (first | ((with_reducible refine gate_store (t := 60) (p := 10) rfl ?_); refine store_event (t := 60) (p := 10) (v := ?vo_w59) (w1 := ((wr.setCell ⟨gb466, 0, none⟩ (.slice Ao9 t467.length co9)).setCell ⟨gb466, 1, none⟩ (.slice Ao58 x474001_1.length co58))) ?hg ?ho ?hn ?hr ?_; (case ho => rfl); (case hg => rfl); (case hn => rfl); (case hr => first | (go_simp; done) | (go_simp; rfl)); intro w59 hw; have n0_ : zA (Kd.R (Kd.int .i64) 3 w59 w.heap.size (fun _ => True) (.slice Ao54 t468.length co54) t468) := ⟨(by rw [hw]; exact (by (with_reducible repeat (first | apply Kd.zG | apply Kd.zH | apply Kd.zI)); exact Kd.zS (Kd.zP (p := ⟨gb466, 1, none⟩) (Kd.zP (p := ⟨gb466, 0, none⟩) (Kd.zT HO_12.out BK466.out (by decide)) (fun _ hk => hk.2) (.slice Ao9 t467.length co9)) (fun _ hk => hk.2) (.slice Ao58 x474001_1.length co58)) (fun _ hk => trivial)))⟩; have n1_ : zA (Kd.R k48 48 w59 w.heap.size (fun _ => True) (.slice Ao9 t467.length co9) t467) := ⟨(by rw [hw]; exact (by (with_reducible repeat (first | apply Kd.zG | apply Kd.zH | apply Kd.zI)); exact Kd.zS (Kd.zP (p := ⟨gb466, 1, none⟩) (Kd.zP (p := ⟨gb466, 0, none⟩) (Kd.zT HO_474000.out BK466.out (by decide)) (fun _ hk => hk.2) (.slice Ao9 t467.length co9)) (fun _ hk => hk.2) (.slice Ao58 x474001_1.length co58)) (fun _ hk => trivial)))⟩; have n2_ : zA (Kd.R (Kd.int .u8) 53 w59 w.heap.size (fun _ => True) (.slice Ao58 x474001_1.length co58) x474001_1) := ⟨(by rw [hw]; exact (by (with_reducible repeat (first | apply Kd.zG | apply Kd.zH | apply Kd.zI)); exact Kd.zS (Kd.zP (p := ⟨gb466, 1, none⟩) (Kd.zP (p := ⟨gb466, 0, none⟩) (Kd.zT HO_474001.out BK466.out (by decide)) (fun _ hk => hk.2) (.slice Ao9 t467.length co9)) (fun _ hk => hk.2) (.slice Ao58 x474001_1.length co58)) (fun _ hk => trivial)))⟩; have n3_ : zA (w59.heap[gb466]? = some (.cells #[.slice Ao9 t467.length co9, .slice Ao58 x474001_1.length co58] 60 (0, 0))) := ⟨(by rw [hw]; exact (by (with_reducible repeat (first | refine zD ?_ _ | refine zC ?_ | refine zB ?_ _)); refine blk_put (cs := #[.slice Ao9 t467.length co9, .slice none 0 0]) ?_ 1 _ rfl; (with_reducible repeat (first | refine zD ?_ _ | refine zC ?_ | refine zB ?_ _)); refine blk_put (cs := #[.slice none 0 0, .slice none 0 0]) ?_ 0 _ rfl; (with_reducible repeat (first | refine zD ?_ _ | refine zC ?_ | refine zB ?_ _)); exact BK466.out))⟩; have n4_ : zA (w59.heap[gb473]? = some (.cells #[.slice Ao9 t467.length co9, .slice Ao58 x474001_1.length co58] 60 (0, 0))) := ⟨(by rw [hw]; exact (aB BK473))⟩; have n5_ : zA (Below w.heap.size w w59) := ⟨(by rw [hw]; exact (aL HB))⟩; clear hw; clear HO_12; clear HO_474000; clear HO_474001; clear BK466; clear BK473; clear HB; have HO_12 := n0_; have HO_474000 := n1_; have HO_474001 := n2_; have BK466 := n3_; have BK473 := n4_; have HB := n5_; clear n0_ n1_ n2_ n3_ n4_ n5_))
   refine bodyPost_ret (results_cell_row rfl _ _ gb466 60 #[.slice Ao9 t467.length co9, .slice Ao58 x474001_1.length co58] (0, 0) _ rfl (aB BK466) Try.underlying60 rfl (by kernel_rfl)) rfl ?_
   exact ⟨_, _, aX, aR HO_474000, aR HO_474001, aL HB⟩
  rw [if_pos c14] at H; have c14b0 : decide (x14_1 < (t468.length : Int)) = true := decide_eq_true c14
  clear c14; by_cases c15 : 0 ≤ x14_1
  rotate_left
  ·rw [if_neg c15] at H
   exact absurd H (by simp)
  rw [if_pos c15] at H; have c15b0 : decide (0 ≤ x14_1) = true := decide_eq_true c15
  clear c15; have HC16 := zA.mk H; clear H; obtain ⟨Ao17, co17, eo17⟩ := Kd.zQ HO_12.out; subst eo17; have p474 : 0 ≤ (x14_1 : Int) := aD
  have q474 : x14_1 < (t468.length : Int) := aD
  obtain ⟨ad474, e474, hx474_0⟩ := Kd.at_int (Kd.zN HO_12.out).2.2 x14_1 p474 q474; cases e474
  replace p474 := eq_true p474; replace q474 := eq_true q474; go_upto_if 39 with (fail)
  go_cut [16] (fun v16 wc => ∃ (kq : Nat) (x16_15 : Int), v16 = .int .u8 x16_15 ∧ zA (r0_Make.j1 kq l0 l2 l3 t468 x14_1 (rd t468 x14_1) x16_15 t467 x474001_1 = some (r1, r2)) ∧ zA (kq ≤ k1) ∧ zA (Kd.R (Kd.int .i64) 3 wc w.heap.size (fun _ => True) (.slice (some ad474) t468.length co17) t468) ∧ zA (Kd.R k48 48 wc w.heap.size (fun _ => True) (.slice Ao9 t467.length co9) t467) ∧ zA (Kd.R (Kd.int .u8) 53 wc w.heap.size (fun _ => True) u474001 x474001_1) ∧ zA (wc.heap[gb466]? = some (.cells #[(.slice none 0 0), (.slice none 0 0)] 60 (0, 0))) ∧ zA (wc.heap[gb473]? = some (.cells #[(.slice Ao9 t467.length co9), u474001] 60 (0, 0))) ∧ zA (Below w.heap.size w wc))
  case first =>
   have H := HC16.out; clear HC16; by_cases c18 : (rd t468 x14_1) < (l2.length : Int)
   rotate_left
   ·rw [if_neg c18] at H
    have c18b0 : decide ((rd t468 x14_1) < (l2.length : Int)) = false := decide_eq_false c18
    clear c18; (first | rw [c18b0] | (simp only [i64_w, i32_w]; rw [c18b0]) | skip)
    have H' := zA.mk H
    clear H; go_wp2
    go_meet
    case rel => exact ⟨_, (0), aZ, H', ⟨by have := HK1.out; first | omega | exact Nat.le_refl _⟩, ⟨aR HO_12⟩, ⟨aR HO_474000⟩, ⟨aR HO_474001⟩, ⟨aB BK466⟩, ⟨aB BK473⟩, ⟨aL HB⟩⟩
   rw [if_pos c18] at H; have c18b0 : decide ((rd t468 x14_1) < (l2.length : Int)) = true := decide_eq_true c18
   clear c18; (first | rw [c18b0] | (simp only [i64_w, i32_w]; rw [c18b0]) | skip)
   by_cases c19 : 0 ≤ (rd t468 x14_1)
   rotate_left
   ·rw [if_neg c19] at H
    exact absurd H (by simp)
   rw [if_pos c19] at H; have c19b0 : decide (0 ≤ (rd t468 x14_1)) = true := decide_eq_true c19
   clear c19; have H' := zA.mk H
   clear H; have p475 : 0 ≤ ((rd t468 x14_1) : Int) := aD
   have q475 : (rd t468 x14_1) < (l2.length : Int) := aD
   obtain ⟨ad475, e475, hx475_0⟩ := Kd.at_int HR2.out (rd t468 x14_1) p475 q475; cases e475
   replace hx475_0 := (HB.out.cell (World.block_lt_of_cell? w _ hx475_0)).trans hx475_0; replace p475 := eq_true p475; replace q475 := eq_true q475; go_wp2
   go_meet
   case rel => exact ⟨_, (rd l2 (rd t468 x14_1)), aZ, H', ⟨by have := HK1.out; first | omega | exact Nat.le_refl _⟩, ⟨aR HO_12⟩, ⟨aR HO_474000⟩, ⟨aR HO_474001⟩, ⟨aB BK466⟩, ⟨aB BK473⟩, ⟨aL HB⟩⟩
  clear HC16; obtain ⟨kq, x16_15, rfl, HA, HJ15, HO_12, HO_474000, HO_474001, BK466, BK473, HB⟩ := hcut; cases kq with
  | zero => exact absurd HA.out (by simp [r0_Make.j1])
  | succ kj15 =>
   have H := HA.out; clear HA; simp only [r0_Make.j1] at H; have HC20 := zA.mk H; clear H; go_upto_region 10 with (fail)
   go_cut [63] (fun v63 wc => ∃ (kq : Nat) (x63_19 : Bool), v63 = .bool x63_19 ∧ zA (r0_Make.j2 kq l0 l2 l3 t468 x14_1 (rd t468 x14_1) x16_15 x63_19 t467 x474001_1 = some (r1, r2)) ∧ zA (kq ≤ kj15) ∧ zA (Kd.R (Kd.int .i64) 3 wc w.heap.size (fun _ => True) (.slice (some ad474) t468.length co17) t468) ∧ zA (Kd.R k48 48 wc w.heap.size (fun _ => True) (.slice Ao9 t467.length co9) t467) ∧ zA (Kd.R (Kd.int .u8) 53 wc w.heap.size (fun _ => True) u474001 x474001_1) ∧ zA (wc.heap[gb466]? = some (.cells #[(.slice none 0 0), (.slice none 0 0)] 60 (0, 0))) ∧ zA (wc.heap[gb473]? = some (.cells #[(.slice Ao9 t467.length co9), u474001] 60 (0, 0))) ∧ zA (Below w.heap.size w wc))
   case first =>
    have H := HC20.out; clear HC20; by_cases c21 : (rd t468 x14_1) < (l2.length : Int)
    rotate_left
    ·rw [if_neg c21] at H
     have c21b0 : decide ((rd t468 x14_1) < (l2.length : Int)) = false := decide_eq_false c21
     clear c21; (first | rw [c21b0] | (simp only [i64_w, i32_w]; rw [c21b0]) | skip)
     have H' := zA.mk H
     clear H; go_wp2
     go_meet
     case rel => exact ⟨_, (false), aZ, H', ⟨by have := HK1.out; have := HJ15.out; first | omega | exact Nat.le_refl _⟩, ⟨aR HO_12⟩, ⟨aR HO_474000⟩, ⟨aR HO_474001⟩, ⟨aB BK466⟩, ⟨aB BK473⟩, ⟨aL HB⟩⟩
    rw [if_pos c21] at H; have c21b0 : decide ((rd t468 x14_1) < (l2.length : Int)) = true := decide_eq_true c21
    clear c21; (first | rw [c21b0] | (simp only [i64_w, i32_w]; rw [c21b0]) | skip)
    by_cases c22 : x16_15 = 0
    rotate_left
    ·rw [if_neg c22] at H
     have c22b0 : (x16_15 == 0) = false := beq_eq_false_iff_ne.mpr c22
     have c22b1 : (x16_15 != 0) = true := bne_iff_ne.mpr c22
     have H' := zA.mk H
     clear H; go_wp2
     go_meet
     case rel => exact ⟨_, (false), aZ, H', ⟨by have := HK1.out; have := HJ15.out; first | omega | exact Nat.le_refl _⟩, ⟨aR HO_12⟩, ⟨aR HO_474000⟩, ⟨aR HO_474001⟩, ⟨aB BK466⟩, ⟨aB BK473⟩, ⟨aL HB⟩⟩
    rw [if_pos c22] at H; have c22b0 : (x16_15 == 0) = true := beq_iff_eq.mpr c22
    have c22b1 : (x16_15 != 0) = false := bne_eq_false_iff_eq.mpr c22
    clear c22; by_cases c23 : (rd t468 x14_1) < (l3.length : Int)
    rotate_left
    ·rw [if_neg c23] at H
     have c23b0 : decide ((rd t468 x14_1) < (l3.length : Int)) = false := decide_eq_false c23
     clear c23; have H' := zA.mk H
     clear H; go_wp2
     go_meet
     case rel => exact ⟨_, (false), aZ, H', ⟨by have := HK1.out; have := HJ15.out; first | omega | exact Nat.le_refl _⟩, ⟨aR HO_12⟩, ⟨aR HO_474000⟩, ⟨aR HO_474001⟩, ⟨aB BK466⟩, ⟨aB BK473⟩, ⟨aL HB⟩⟩
    rw [if_pos c23] at H; have c23b0 : decide ((rd t468 x14_1) < (l3.length : Int)) = true := decide_eq_true c23
    clear c23; by_cases c24 : 0 ≤ (rd t468 x14_1)
    rotate_left
    ·rw [if_neg c24] at H
     exact absurd H (by simp)
    rw [if_pos c24] at H; have c24b0 : decide (0 ≤ (rd t468 x14_1)) = true := decide_eq_true c24
    clear c24; have H' := zA.mk H
    clear H; have p476 : 0 ≤ ((rd t468 x14_1) : Int) := aD
    have q476 : (rd t468 x14_1) < (l3.length : Int) := aD
    obtain ⟨ad476, e476, hx476_0⟩ := Kd.at_bool HR3.out (rd t468 x14_1) p476 q476; cases e476
    replace hx476_0 := (HB.out.cell (World.block_lt_of_cell? w _ hx476_0)).trans hx476_0; replace p476 := eq_true p476; replace q476 := eq_true q476; go_wp2
    go_meet
    case rel => exact ⟨_, (rdOf false l3 (rd t468 x14_1)), aZ, H', ⟨by have := HK1.out; have := HJ15.out; first | omega | exact Nat.le_refl _⟩, ⟨aR HO_12⟩, ⟨aR HO_474000⟩, ⟨aR HO_474001⟩, ⟨aB BK466⟩, ⟨aB BK473⟩, ⟨aL HB⟩⟩
   clear HC20; obtain ⟨kq, x63_19, rfl, HA, HJ19, HO_12, HO_474000, HO_474001, BK466, BK473, HB⟩ := hcut; cases kq with
   | zero => exact absurd HA.out (by simp [r0_Make.j2])
   | succ kj19 =>
    have H := HA.out; clear HA; simp only [r0_Make.j2] at H; have HC25 := zA.mk H; clear H; go_upto_if 63 with (fail)
    go_cut [16] (fun v16 wc => ∃ (kq : Nat) (x16_24 : Int), v16 = .int .u8 x16_24 ∧ zA (r0_Make.j3 kq l0 l2 l3 t468 x14_1 (rd t468 x14_1) x16_24 t467 x474001_1 = some (r1, r2)) ∧ zA (kq ≤ kj19) ∧ zA (Kd.R (Kd.int .i64) 3 wc w.heap.size (fun _ => True) (.slice (some ad474) t468.length co17) t468) ∧ zA (Kd.R k48 48 wc w.heap.size (fun _ => True) (.slice Ao9 t467.length co9) t467) ∧ zA (Kd.R (Kd.int .u8) 53 wc w.heap.size (fun _ => True) u474001 x474001_1) ∧ zA (wc.heap[gb466]? = some (.cells #[(.slice none 0 0), (.slice none 0 0)] 60 (0, 0))) ∧ zA (wc.heap[gb473]? = some (.cells #[(.slice Ao9 t467.length co9), u474001] 60 (0, 0))) ∧ zA (Below w.heap.size w wc))
    case first =>
     have H := HC25.out; clear HC25; by_cases c26 : x63_19 = true
     ·subst c26
      have H1 : (r0_Make.j3 kj19 l0 l2 l3 t468 x14_1 (rd t468 x14_1) 3 t467 x474001_1) = some (r1, r2) := by rw [if_pos rfl] at H; exact H
      clear H; have H := H1; clear H1; have H' := zA.mk H
      clear H; go_wp2
      go_meet
      case rel => exact ⟨_, (3), aZ, H', ⟨by have := HK1.out; have := HJ15.out; have := HJ19.out; first | omega | exact Nat.le_refl _⟩, ⟨aR HO_12⟩, ⟨aR HO_474000⟩, ⟨aR HO_474001⟩, ⟨aB BK466⟩, ⟨aB BK473⟩, ⟨aL HB⟩⟩
     replace c26 := Bool.eq_false_iff.mpr c26; subst c26; have H1 : (r0_Make.j3 kj19 l0 l2 l3 t468 x14_1 (rd t468 x14_1) x16_15 t467 x474001_1) = some (r1, r2) := by rw [if_neg (show ¬ (false = true) by decide)] at H; exact H
     clear H; have H := H1; clear H1; have H' := zA.mk H
     clear H; go_wp2
     go_meet
     case rel => exact ⟨_, (x16_15), aZ, H', ⟨by have := HK1.out; have := HJ15.out; have := HJ19.out; first | omega | exact Nat.le_refl _⟩, ⟨aR HO_12⟩, ⟨aR HO_474000⟩, ⟨aR HO_474001⟩, ⟨aB BK466⟩, ⟨aB BK473⟩, ⟨aL HB⟩⟩
    clear HC25; obtain ⟨kq, x16_24, rfl, HA, HJ24, HO_12, HO_474000, HO_474001, BK466, BK473, HB⟩ := hcut; cases kq with
    | zero => exact absurd HA.out (by simp [r0_Make.j3])
    | succ kj24 =>
     have H := HA.out; clear HA; simp only [r0_Make.j3] at H; by_cases c27 : (rd t468 x14_1) = 0
     ·rw [if_pos c27] at H
      have c27b0 : ((rd t468 x14_1) == 0) = true := beq_iff_eq.mpr c27
      have c27b1 : ((rd t468 x14_1) != 0) = false := bne_eq_false_iff_eq.mpr c27
      clear c27; by_cases c28 : (rd t468 x14_1) = (l0.length : Int)
      ·rw [if_pos c28] at H
       have c28b0 : ((rd t468 x14_1) == (l0.length : Int)) = true := beq_iff_eq.mpr c28
       have c28b1 : ((rd t468 x14_1) != (l0.length : Int)) = false := bne_eq_false_iff_eq.mpr c28
       clear c28; by_cases c29 : x474001_1.length < 140737488355328
       rotate_left
       ·rw [if_neg c29] at H
        exact absurd H (by simp)
       rw [if_pos c29] at H; have LMc29 := zA.mk c29; clear c29; obtain ⟨y477, hy477⟩ : ∃ y_ : List Int, y_ = (x474001_1 ++ [2]) := ⟨_, rfl⟩; replace H : (r0_Make.l0 kj24 l0 l2 l3 t468 (wrap64 (x14_1 + 1)) t467 y477) = some (r1, r2) := by first | (rw [hy477]; with_reducible exact H) | (have H2_ := (Option.bind_some _ _).symm.trans H; rw [hy477]; with_reducible exact H2_) | (have H2_ := (Option.bind_some _ _).symm.trans H; with_reducible exact H2_) | with_reducible exact H | (rw [hy477]; exact H) | exact H
       have Ny477 := zA.mk hy477; clear hy477; have H' := zA.mk H
       clear H; have hnb30 := NB473_466.out; have hnc30 := NB466_473.out; obtain ⟨hcz31_0, hcz31_1, hfz31_0, hfz31_1⟩ := aC2 BK473; go_wp2_with (first | ((with_reducible refine gate_builtin (b := .append) (xs := #[.tmp 71, .tmp 73]) rfl ?_); (try (refine gate_guard (by rfl) ?_; dsimp only)); at_builtin; refine Kd.R_append (Kd.int .u8) (w0 := w) w.heap.size rfl (.tmp 71) (.tmp 73) 38 53 (.int .u8 0) 1 rfl Try.underlying38 info53 rfl (by decide) (by omega) u474001 x474001_1 2 [.int .u8 2] (fun _ => True) (fun _ => False) rfl rfl ?aP (fun _ hk => hk.elim) ?aF ?aO ?aB ?aS ?aL ?_; (case aP => exact rfl); (case aB => exact (aL HB)); (case aF => exact (fun _ _ => trivial)); (case aO => exact (aR HO_474001)); (case aS => exact (zF (aL HB))); (case aL => have := LMc29.out; omega); intro v478 w32 ho hb hg hat; rw [← Ny477.out] at ho; replace HO_12 := zA.mk (Kd.R_over' (aR HO_12) (Kd.R_typed (aR HO_474001)) (by decide) hg); replace HO_474000 := zA.mk (Kd.R_over' (aR HO_474000) (Kd.R_typed (aR HO_474001)) (by decide) hg); replace BK466 := zA.mk (blk_grown (g := gb466) (o := .cells #[.slice none 0 0, .slice none 0 0] 60 (0, 0)) (aB BK466) hg (Kd.R_ne HO_474001.out BK466.out (by decide))); replace BK473 := zA.mk (blk_grown (g := gb473) (o := .cells #[.slice Ao9 t467.length co9, u474001] 60 (0, 0)) (aB BK473) hg (Kd.R_ne HO_474001.out BK473.out (by decide))); replace HB := zA.mk (hb); have HO479 := zA.mk (ho); clear HO_474001; clear ho hb hg hat; obtain ⟨Ao33, co33, eo33⟩ := Kd.zQ HO479.out; subst eo33; obtain ⟨hcz34_0, hcz34_1, hfz34_0, hfz34_1⟩ := aC2 BK473))
       go_roundg kj24
       case measure => have := HK1.out; have := HJ15.out; have := HJ19.out; have := HJ24.out; omega
       case rel => exact ⟨(wrap64 (x14_1 + 1)), (y477), (.slice Ao33 y477.length co33), aZ, H', ⟨by have := HK1.out; have := HJ15.out; have := HJ19.out; have := HJ24.out; omega⟩, ⟨by (with_reducible repeat (first | apply Kd.zG | apply Kd.zH | apply Kd.zI)); exact Kd.zS (Kd.zP (p := ⟨gb473, 1, none⟩) (Kd.zT HO_12.out BK473.out (by decide)) (fun _ hk => hk.2) (.slice Ao33 y477.length co33)) (fun _ hk => trivial)⟩, ⟨by (with_reducible repeat (first | apply Kd.zG | apply Kd.zH | apply Kd.zI)); exact Kd.zS (Kd.zP (p := ⟨gb473, 1, none⟩) (Kd.zT HO_474000.out BK473.out (by decide)) (fun _ hk => hk.2) (.slice Ao33 y477.length co33)) (fun _ hk => trivial)⟩, ⟨by (with_reducible repeat (first | apply Kd.zG | apply Kd.zH | apply Kd.zI)); exact Kd.zS (Kd.zP (p := ⟨gb473, 1, none⟩) (Kd.zT HO479.out BK473.out (by decide)) (fun _ hk => hk.2) (.slice Ao33 y477.length co33)) (fun _ hk => trivial)⟩, ⟨by (with_reducible repeat (first | refine zD ?_ _ | refine zC ?_ | refine zB ?_ _)); refine blk_far ?_ NB466_473.out _; (with_reducible repeat (first | refine zD ?_ _ | refine zC ?_ | refine zB ?_ _)); exact BK466.out⟩, ⟨by (with_reducible repeat (first | refine zD ?_ _ | refine zC ?_ | refine zB ?_ _)); refine blk_put (cs := #[.slice Ao9 t467.length co9, u474001]) ?_ 1 _ rfl; (with_reducible repeat (first | refine zD ?_ _ | refine zC ?_ | refine zB ?_ _)); exact BK473.out⟩, ⟨aL HB⟩⟩
      rw [if_neg c28] at H; have c28b0 : ((rd t468 x14_1) == (l0.length : Int)) = false := beq_eq_false_iff_ne.mpr c28
      have c28b1 : ((rd t468 x14_1) != (l0.length : Int)) = true := bne_iff_ne.mpr c28
      by_cases c35 : x474001_1.length < 140737488355328
      rotate_left
      ·rw [if_neg c35] at H
       exact absurd H (by simp)
      rw [if_pos c35] at H; have LMc35 := zA.mk c35; clear c35; obtain ⟨y480, hy480⟩ : ∃ y_ : List Int, y_ = (x474001_1 ++ [0]) := ⟨_, rfl⟩; replace H : (r0_Make.l0 kj24 l0 l2 l3 t468 (wrap64 (x14_1 + 1)) t467 y480) = some (r1, r2) := by first | (rw [hy480]; with_reducible exact H) | (have H2_ := (Option.bind_some _ _).symm.trans H; rw [hy480]; with_reducible exact H2_) | (have H2_ := (Option.bind_some _ _).symm.trans H; with_reducible exact H2_) | with_reducible exact H | (rw [hy480]; exact H) | exact H
      have Ny480 := zA.mk hy480; clear hy480; have H' := zA.mk H
      clear H; have hnb36 := NB473_466.out; have hnc36 := NB466_473.out; obtain ⟨hcz37_0, hcz37_1, hfz37_0, hfz37_1⟩ := aC2 BK473; go_wp2_with (first | ((with_reducible refine gate_builtin (b := .append) (xs := #[.tmp 71, .tmp 73]) rfl ?_); (try (refine gate_guard (by rfl) ?_; dsimp only)); at_builtin; refine Kd.R_append (Kd.int .u8) (w0 := w) w.heap.size rfl (.tmp 71) (.tmp 73) 38 53 (.int .u8 0) 1 rfl Try.underlying38 info53 rfl (by decide) (by omega) u474001 x474001_1 0 [.int .u8 0] (fun _ => True) (fun _ => False) rfl rfl ?aP (fun _ hk => hk.elim) ?aF ?aO ?aB ?aS ?aL ?_; (case aP => exact rfl); (case aB => exact (aL HB)); (case aF => exact (fun _ _ => trivial)); (case aO => exact (aR HO_474001)); (case aS => exact (zF (aL HB))); (case aL => have := LMc35.out; omega); intro v481 w38 ho hb hg hat; rw [← Ny480.out] at ho; replace HO_12 := zA.mk (Kd.R_over' (aR HO_12) (Kd.R_typed (aR HO_474001)) (by decide) hg); replace HO_474000 := zA.mk (Kd.R_over' (aR HO_474000) (Kd.R_typed (aR HO_474001)) (by decide) hg); replace BK466 := zA.mk (blk_grown (g := gb466) (o := .cells #[.slice none 0 0, .slice none 0 0] 60 (0, 0)) (aB BK466) hg (Kd.R_ne HO_474001.out BK466.out (by decide))); replace BK473 := zA.mk (blk_grown (g := gb473) (o := .cells #[.slice Ao9 t467.length co9, u474001] 60 (0, 0)) (aB BK473) hg (Kd.R_ne HO_474001.out BK473.out (by decide))); replace HB := zA.mk (hb); have HO482 := zA.mk (ho); clear HO_474001; clear ho hb hg hat; obtain ⟨Ao39, co39, eo39⟩ := Kd.zQ HO482.out; subst eo39; obtain ⟨hcz40_0, hcz40_1, hfz40_0, hfz40_1⟩ := aC2 BK473))
      go_roundg kj24
      case measure => have := HK1.out; have := HJ15.out; have := HJ19.out; have := HJ24.out; omega
      case rel => exact ⟨(wrap64 (x14_1 + 1)), (y480), (.slice Ao39 y480.length co39), aZ, H', ⟨by have := HK1.out; have := HJ15.out; have := HJ19.out; have := HJ24.out; omega⟩, ⟨by (with_reducible repeat (first | apply Kd.zG | apply Kd.zH | apply Kd.zI)); exact Kd.zS (Kd.zP (p := ⟨gb473, 1, none⟩) (Kd.zT HO_12.out BK473.out (by decide)) (fun _ hk => hk.2) (.slice Ao39 y480.length co39)) (fun _ hk => trivial)⟩, ⟨by (with_reducible repeat (first | apply Kd.zG | apply Kd.zH | apply Kd.zI)); exact Kd.zS (Kd.zP (p := ⟨gb473, 1, none⟩) (Kd.zT HO_474000.out BK473.out (by decide)) (fun _ hk => hk.2) (.slice Ao39 y480.length co39)) (fun _ hk => trivial)⟩, ⟨by (with_reducible repeat (first | apply Kd.zG | apply Kd.zH | apply Kd.zI)); exact Kd.zS (Kd.zP (p := ⟨gb473, 1, none⟩) (Kd.zT HO482.out BK473.out (by decide)) (fun _ hk => hk.2) (.slice Ao39 y480.length co39)) (fun _ hk => trivial)⟩, ⟨by (with_reducible repeat (first | refine zD ?_ _ | refine zC ?_ | refine zB ?_ _)); refine blk_far ?_ NB466_473.out _; (with_reducible repeat (first | refine zD ?_ _ | refine zC ?_ | refine zB ?_ _)); exact BK466.out⟩, ⟨by (with_reducible repeat (first | refine zD ?_ _ | refine zC ?_ | refine zB ?_ _)); refine blk_put (cs := #[.slice Ao9 t467.length co9, u474001]) ?_ 1 _ rfl; (with_reducible repeat (first | refine zD ?_ _ | refine zC ?_ | refine zB ?_ _)); exact BK473.out⟩, ⟨aL HB⟩⟩
     rw [if_neg c27] at H; have c27b0 : ((rd t468 x14_1) == 0) = false := beq_eq_false_iff_ne.mpr c27
     have c27b1 : ((rd t468 x14_1) != 0) = true := bne_iff_ne.mpr c27
     by_cases c41 : (rd t468 x14_1) = (l0.length : Int)
     ·rw [if_pos c41] at H
      have c41b0 : ((rd t468 x14_1) == (l0.length : Int)) = true := beq_iff_eq.mpr c41
      have c41b1 : ((rd t468 x14_1) != (l0.length : Int)) = false := bne_eq_false_iff_eq.mpr c41
      clear c41; by_cases c42 : x474001_1.length < 140737488355328
      rotate_left
      ·rw [if_neg c42] at H
       exact absurd H (by simp)
      rw [if_pos c42] at H; have LMc42 := zA.mk c42; clear c42; obtain ⟨y483, hy483⟩ : ∃ y_ : List Int, y_ = (x474001_1 ++ [2]) := ⟨_, rfl⟩; replace H : (r0_Make.l0 kj24 l0 l2 l3 t468 (wrap64 (x14_1 + 1)) t467 y483) = some (r1, r2) := by first | (rw [hy483]; with_reducible exact H) | (have H2_ := (Option.bind_some _ _).symm.trans H; rw [hy483]; with_reducible exact H2_) | (have H2_ := (Option.bind_some _ _).symm.trans H; with_reducible exact H2_) | with_reducible exact H | (rw [hy483]; exact H) | exact H
      have Ny483 := zA.mk hy483; clear hy483; have H' := zA.mk H
      clear H; have hnb43 := NB473_466.out; have hnc43 := NB466_473.out; obtain ⟨hcz44_0, hcz44_1, hfz44_0, hfz44_1⟩ := aC2 BK473; go_wp2_with (first | ((with_reducible refine gate_builtin (b := .append) (xs := #[.tmp 71, .tmp 73]) rfl ?_); (try (refine gate_guard (by rfl) ?_; dsimp only)); at_builtin; refine Kd.R_append (Kd.int .u8) (w0 := w) w.heap.size rfl (.tmp 71) (.tmp 73) 38 53 (.int .u8 0) 1 rfl Try.underlying38 info53 rfl (by decide) (by omega) u474001 x474001_1 2 [.int .u8 2] (fun _ => True) (fun _ => False) rfl rfl ?aP (fun _ hk => hk.elim) ?aF ?aO ?aB ?aS ?aL ?_; (case aP => exact rfl); (case aB => exact (aL HB)); (case aF => exact (fun _ _ => trivial)); (case aO => exact (aR HO_474001)); (case aS => exact (zF (aL HB))); (case aL => have := LMc42.out; omega); intro v484 w45 ho hb hg hat; rw [← Ny483.out] at ho; replace HO_12 := zA.mk (Kd.R_over' (aR HO_12) (Kd.R_typed (aR HO_474001)) (by decide) hg); replace HO_474000 := zA.mk (Kd.R_over' (aR HO_474000) (Kd.R_typed (aR HO_474001)) (by decide) hg); replace BK466 := zA.mk (blk_grown (g := gb466) (o := .cells #[.slice none 0 0, .slice none 0 0] 60 (0, 0)) (aB BK466) hg (Kd.R_ne HO_474001.out BK466.out (by decide))); replace BK473 := zA.mk (blk_grown (g := gb473) (o := .cells #[.slice Ao9 t467.length co9, u474001] 60 (0, 0)) (aB BK473) hg (Kd.R_ne HO_474001.out BK473.out (by decide))); replace HB := zA.mk (hb); have HO485 := zA.mk (ho); clear HO_474001; clear ho hb hg hat; obtain ⟨Ao46, co46, eo46⟩ := Kd.zQ HO485.out; subst eo46; obtain ⟨hcz47_0, hcz47_1, hfz47_0, hfz47_1⟩ := aC2 BK473))
      go_roundg kj24
      case measure => have := HK1.out; have := HJ15.out; have := HJ19.out; have := HJ24.out; omega
      case rel => exact ⟨(wrap64 (x14_1 + 1)), (y483), (.slice Ao46 y483.length co46), aZ, H', ⟨by have := HK1.out; have := HJ15.out; have := HJ19.out; have := HJ24.out; omega⟩, ⟨by (with_reducible repeat (first | apply Kd.zG | apply Kd.zH | apply Kd.zI)); exact Kd.zS (Kd.zP (p := ⟨gb473, 1, none⟩) (Kd.zT HO_12.out BK473.out (by decide)) (fun _ hk => hk.2) (.slice Ao46 y483.length co46)) (fun _ hk => trivial)⟩, ⟨by (with_reducible repeat (first | apply Kd.zG | apply Kd.zH | apply Kd.zI)); exact Kd.zS (Kd.zP (p := ⟨gb473, 1, none⟩) (Kd.zT HO_474000.out BK473.out (by decide)) (fun _ hk => hk.2) (.slice Ao46 y483.length co46)) (fun _ hk => trivial)⟩, ⟨by (with_reducible repeat (first | apply Kd.zG | apply Kd.zH | apply Kd.zI)); exact Kd.zS (Kd.zP (p := ⟨gb473, 1, none⟩) (Kd.zT HO485.out BK473.out (by decide)) (fun _ hk => hk.2) (.slice Ao46 y483.length co46)) (fun _ hk => trivial)⟩, ⟨by (with_reducible repeat (first | refine zD ?_ _ | refine zC ?_ | refine zB ?_ _)); refine blk_far ?_ NB466_473.out _; (with_reducible repeat (first | refine zD ?_ _ | refine zC ?_ | refine zB ?_ _)); exact BK466.out⟩, ⟨by (with_reducible repeat (first | refine zD ?_ _ | refine zC ?_ | refine zB ?_ _)); refine blk_put (cs := #[.slice Ao9 t467.length co9, u474001]) ?_ 1 _ rfl; (with_reducible repeat (first | refine zD ?_ _ | refine zC ?_ | refine zB ?_ _)); exact BK473.out⟩, ⟨aL HB⟩⟩
     rw [if_neg c41] at H; have c41b0 : ((rd t468 x14_1) == (l0.length : Int)) = false := beq_eq_false_iff_ne.mpr c41
     have c41b1 : ((rd t468 x14_1) != (l0.length : Int)) = true := bne_iff_ne.mpr c41
     by_cases c48 : x474001_1.length < 140737488355328
     rotate_left
     ·rw [if_neg c48] at H
      exact absurd H (by simp)
     rw [if_pos c48] at H; have LMc48 := zA.mk c48; clear c48; obtain ⟨y486, hy486⟩ : ∃ y_ : List Int, y_ = (x474001_1 ++ [x16_24]) := ⟨_, rfl⟩; replace H : (r0_Make.l0 kj24 l0 l2 l3 t468 (wrap64 (x14_1 + 1)) t467 y486) = some (r1, r2) := by first | (rw [hy486]; with_reducible exact H) | (have H2_ := (Option.bind_some _ _).symm.trans H; rw [hy486]; with_reducible exact H2_) | (have H2_ := (Option.bind_some _ _).symm.trans H; with_reducible exact H2_) | with_reducible exact H | (rw [hy486]; exact H) | exact H
     have Ny486 := zA.mk hy486; clear hy486; have H' := zA.mk H
     clear H; have hnb49 := NB473_466.out; have hnc49 := NB466_473.out; obtain ⟨hcz50_0, hcz50_1, hfz50_0, hfz50_1⟩ := aC2 BK473; go_wp2_with (first | ((with_reducible refine gate_builtin (b := .append) (xs := #[.tmp 71, .tmp 73]) rfl ?_); (try (refine gate_guard (by rfl) ?_; dsimp only)); at_builtin; refine Kd.R_append (Kd.int .u8) (w0 := w) w.heap.size rfl (.tmp 71) (.tmp 73) 38 53 (.int .u8 0) 1 rfl Try.underlying38 info53 rfl (by decide) (by omega) u474001 x474001_1 x16_24 [.int .u8 x16_24] (fun _ => True) (fun _ => False) rfl rfl ?aP (fun _ hk => hk.elim) ?aF ?aO ?aB ?aS ?aL ?_; (case aP => exact rfl); (case aB => exact (aL HB)); (case aF => exact (fun _ _ => trivial)); (case aO => exact (aR HO_474001)); (case aS => exact (zF (aL HB))); (case aL => have := LMc48.out; omega); intro v487 w51 ho hb hg hat; rw [← Ny486.out] at ho; replace HO_12 := zA.mk (Kd.R_over' (aR HO_12) (Kd.R_typed (aR HO_474001)) (by decide) hg); replace HO_474000 := zA.mk (Kd.R_over' (aR HO_474000) (Kd.R_typed (aR HO_474001)) (by decide) hg); replace BK466 := zA.mk (blk_grown (g := gb466) (o := .cells #[.slice none 0 0, .slice none 0 0] 60 (0, 0)) (aB BK466) hg (Kd.R_ne HO_474001.out BK466.out (by decide))); replace BK473 := zA.mk (blk_grown (g := gb473) (o := .cells #[.slice Ao9 t467.length co9, u474001] 60 (0, 0)) (aB BK473) hg (Kd.R_ne HO_474001.out BK473.out (by decide))); replace HB := zA.mk (hb); have HO488 := zA.mk (ho); clear HO_474001; clear ho hb hg hat; obtain ⟨Ao52, co52, eo52⟩ := Kd.zQ HO488.out; subst eo52; obtain ⟨hcz53_0, hcz53_1, hfz53_0, hfz53_1⟩ := aC2 BK473))
     go_roundg kj24
     case measure => have := HK1.out; have := HJ15.out; have := HJ19.out; have := HJ24.out; omega
     case rel => exact ⟨(wrap64 (x14_1 + 1)), (y486), (.slice Ao52 y486.length co52), aZ, H', ⟨by have := HK1.out; have := HJ15.out; have := HJ19.out; have := HJ24.out; omega⟩, ⟨by (with_reducible repeat (first | apply Kd.zG | apply Kd.zH | apply Kd.zI)); exact Kd.zS (Kd.zP (p := ⟨gb473, 1, none⟩) (Kd.zT HO_12.out BK473.out (by decide)) (fun _ hk => hk.2) (.slice Ao52 y486.length co52)) (fun _ hk => trivial)⟩, ⟨by (with_reducible repeat (first | apply Kd.zG | apply Kd.zH | apply Kd.zI)); exact Kd.zS (Kd.zP (p := ⟨gb473, 1, none⟩) (Kd.zT HO_474000.out BK473.out (by decide)) (fun _ hk => hk.2) (.slice Ao52 y486.length co52)) (fun _ hk => trivial)⟩, ⟨by (with_reducible repeat (first | apply Kd.zG | apply Kd.zH | apply Kd.zI)); exact Kd.zS (Kd.zP (p := ⟨gb473, 1, none⟩) (Kd.zT HO488.out BK473.out (by decide)) (fun _ hk => hk.2) (.slice Ao52 y486.length co52)) (fun _ hk => trivial)⟩, ⟨by (with_reducible repeat (first | refine zD ?_ _ | refine zC ?_ | refine zB ?_ _)); refine blk_far ?_ NB466_473.out _; (with_reducible repeat (first | refine zD ?_ _ | refine zC ?_ | refine zB ?_ _)); exact BK466.out⟩, ⟨by (with_reducible repeat (first | refine zD ?_ _ | refine zC ?_ | refine zB ?_ _)); refine blk_put (cs := #[.slice Ao9 t467.length co9, u474001]) ?_ 1 _ rfl; (with_reducible repeat (first | refine zD ?_ _ | refine zC ?_ | refine zB ?_ _)); exact BK473.out⟩, ⟨aL HB⟩⟩
end Go.Proofs.Ytigajcipjklknaa.F
end
