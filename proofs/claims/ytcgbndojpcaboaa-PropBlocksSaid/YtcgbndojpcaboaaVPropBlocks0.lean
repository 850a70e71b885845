/- Printed by a program: Lean functions that answer as the Go functions do, and the proofs of it. -/
import Derived.Test.YtcgbndojpcaboaaProg
import Derived.Below
import Derived.Deep.Draws
import Derived.Deep.AppendLies
import Derived.Maps.AppendAt
import Derived.OwnWalk
import Derived.Laws.BytesArg
import Derived.Laws.MakeOwn
import Derived.Laws.OwnMore
import Derived.Deep.OwnRows
import Derived.Tactics
import Derived.Lib.ConvBytes
import Derived.Laws.Slices
import Derived.WalkKit
import Derived.KernelRfl
import Derived.RowKit3
import Derived.Deep.LoopGhost
import Derived.Deep.QuietTactic
import Derived.BigQuiet
import Derived.WideLaws
import Derived.Deep.DeepCutAuto
import Derived.Deep.CutBlock
import Derived.Deep.RegionHeld3
import Derived.Laws.Rows
import Derived.Lib.AppendStr
import Derived.ArgAppend
import Derived.Laws.IdiomCopy
import Derived.OrdersHeld
import Derived.Laws.BitsLemmas
import Derived.RowKit
import Derived.Laws.FloatArith
import Derived.Laws.CopyOwn
import Derived.Deep.RegionLaw
import Derived.Laws.MathBits
import Derived.Test.YtcgbndojpcaboaaXPropBlocks0
section
namespace Go.Proofs.Ytcgbndojpcaboaa.F
open Go.RowKit Go.Proofs.YtcgbndojpcaboaaW.PrintWords Go.Proofs.YtcgbndojpcaboaaW.PrintLast Go.Proofs.YtcgbndojpcaboaaW.PrintMore
attribute [local go_sem] max2_int min2_int max_two min_two max_three min_three max_four min_four   -- for this text's walks alone
set_option linter.unusedVariables false
set_option linter.unusedSimpArgs false
def errW : Option Int → Value
 | none => .nilIface
 | some c => .iface 0 (.int .i64 c)
theorem errW_none : errW none = .nilIface := rfl
theorem errW_some (c : Int) : errW (some c) = .iface 0 (.int .i64 c) := rfl
theorem info33 : (Try.prog.info? 33).map (fun i => (i.zero, i.size, i.bytes)) = some (some (.agg #[(.int .i32 0), (.int .i32 0), (.int .i64 0)]), 3, 16) := by kernel_rfl
structure S33 where
 f0 : Int
 f1 : Int
 f2 : Int
def z33 : S33 := ⟨(0 : Int), (0 : Int), (0 : Int)⟩
def k33 : Kd S33 := Kd.iso (Kd.pair (Kd.int .i32) (Kd.pair (Kd.int .i32) (Kd.int .i64))) (fun x : S33 => (x.f0, x.f1, x.f2))
theorem k33_open {w : World} {x : S33} {cs : List Value} (h : k33.K w x cs) : cs = [.int .i32 x.f0, .int .i32 x.f1, .int .i64 x.f2] := by
 obtain ⟨_, _, rfl, rfl, ⟨_, _, rfl, rfl, rfl⟩⟩ := h; exact rfl
theorem k33_openM {w : World} {base : Nat} {ok : Nat → Prop} {x : S33} {cs : List Value} (h : k33.M w base ok x cs) : cs = [.int .i32 x.f0, .int .i32 x.f1, .int .i64 x.f2] := by
 obtain ⟨_, _, rfl, rfl, ⟨_, _, rfl, rfl, rfl⟩⟩ := h; exact rfl
theorem k33_mk (w : World) (x : S33)  : k33.K w x [.int .i32 x.f0, .int .i32 x.f1, .int .i64 x.f2] := ⟨[.int .i32 x.f0], [.int .i32 x.f1, .int .i64 x.f2], rfl, rfl, ⟨[.int .i32 x.f1], [.int .i64 x.f2], rfl, rfl, rfl⟩⟩
theorem k33_mkM (w : World) (base : Nat) (ok : Nat → Prop) (x : S33)  : k33.M w base ok x [.int .i32 x.f0, .int .i32 x.f1, .int .i64 x.f2] := ⟨[.int .i32 x.f0], [.int .i32 x.f1, .int .i64 x.f2], rfl, rfl, ⟨[.int .i32 x.f1], [.int .i64 x.f2], rfl, rfl, rfl⟩⟩
def rd_T33 (xs : List S33) (i : Int) : S33 := xs.getD i.toNat z33
theorem at_T33 {w : World} {A : Option Addr} {n : Nat} {xs : List S33} (h : Kd.C k33 w A n xs) (i : Int) (h0 : 0 ≤ i) (h1 : i < n) : ∃ ad , A = some ad ∧ w.cell? (ad.add (i.toNat * 3)) = some (.int .i32 (rd_T33 xs i).f0) ∧ w.cell? ⟨(ad.add (i.toNat * 3)).block, (ad.add (i.toNat * 3)).off + 1, none⟩ = some (.int .i32 (rd_T33 xs i).f1) ∧ w.cell? ⟨(ad.add (i.toNat * 3)).block, (ad.add (i.toNat * 3)).off + 2, none⟩ = some (.int .i64 (rd_T33 xs i).f2) := by
 obtain ⟨ad, c, e, _, hK, hc0⟩ := Kd.C_get h z33 i h0 h1; have hc : ∀ j u, c[j]? = some u → w.cell? (ad.add (i.toNat * 3 + j)) = some u := hc0
 obtain rfl := k33_open hK
 exact ⟨ad, e, hc 0 _ rfl, by rw [← add_field _ _ 1 (by omega)]; exact hc 1 _ rfl, by rw [← add_field _ _ 2 (by omega)]; exact hc 2 _ rfl⟩
def rd_L3 (xs : List (List S33)) (i : Int) : (List S33) := xs.getD i.toNat ([] : List S33)
theorem at_L3 {w : World} {A : Option Addr} {n : Nat} {xs : List (List S33)} (h : Kd.C (Kd.slice 33 k33) w A n xs) (i : Int) (h0 : 0 ≤ i) (h1 : i < n) : ∃ ad A0 c0, A = some ad ∧ w.cell? (ad.add i.toNat) = some (.slice A0 (rd_L3 xs i).length c0) ∧ (rd_L3 xs i).length ≤ c0 ∧ k33.C w A0 (rd_L3 xs i).length (rd_L3 xs i) := by
 obtain ⟨ad, c, e, _, hK, hc0⟩ := Kd.C_get h ([] : List S33) i h0 h1; have hc : ∀ j u, c[j]? = some u → w.cell? (ad.add (i.toNat * 1 + j)) = some u := hc0
 obtain ⟨A0, c0, rfl, l0, g0⟩ := hK; exact ⟨ad, A0, c0, e, by have hq := hc 0 _ rfl; rwa [Nat.mul_one, Nat.add_zero] at hq, l0, g0⟩
def prop_Check.l0 : Nat → Int → Int → List (S33) → Int → Int → Option (Bool)
 | 0, _, _, _, _, _ => none
 | k + 1, x1, x5, x11, x12, x13 => if x13 < x12 then (if 0 ≤ x13 then (if x13 < (x11.length : Int) then (if ((rd_T33 x11 x13).f0) ≤ x5 then (some false) else (if ((rd_T33 x11 x13).f1) < ((rd_T33 x11 x13).f0) then (some false) else (if ((rd_T33 x11 x13).f1) > 1114111 then (some false) else (if ((rd_T33 x11 x13).f2) < 0 then (some false) else (if ((rd_T33 x11 x13).f2) ≥ x1 then (some false) else (if ((rd_T33 x11 x13).f2) > 255 then (some false) else (prop_Check.l0 k x1 ((rd_T33 x11 x13).f1) x11 x12 (wrap64 (x13 + 1))))))))) else (none)) else (none)) else (some true)
def prop_Check.f (k : Nat) (l0 : List (S33)) (a1 : Int) : Option (Bool) := if (l0.length : Int) > 256 then (some false) else (prop_Check.l0 k a1 (-1) l0 (l0.length : Int) 0)
theorem prop_Check.mono_l : ∀ k, (∀ y0 y1 y2 y3 y4, LeO (prop_Check.l0 k y0 y1 y2 y3 y4) (prop_Check.l0 (k + 1) y0 y1 y2 y3 y4))
 | 0 => fun _ _ _ _ _ r h => by simp [prop_Check.l0] at h
 | k + 1 => by
  have ih0 := prop_Check.mono_l k
  ·intro y0 y1 y2 y3 y4
   unfold prop_Check.l0
   repeat' (with_reducible first | exact ih0 _ _ _ _ _ | exact LeO.refl _ | exact LeO.none _ | refine LeO.ite ?_ ?_ | refine LeO.bind ?_ (fun _ => ?_))
theorem prop_Check.mono : ∀ a0 a1 k, LeO (prop_Check.f k a0 a1) (prop_Check.f (k + 1) a0 a1) := by
 intro a0 a1 k
 have ih0 := prop_Check.mono_l k; unfold prop_Check.f
 repeat' (with_reducible first | exact ih0 _ _ _ _ _ | exact LeO.refl _ | exact LeO.none _ | refine LeO.ite ?_ ?_ | refine LeO.bind ?_ (fun _ => ?_))
set_option maxHeartbeats 8000000 in
set_option maxRecDepth 100000 in
theorem prop_Check.calls (k : Nat) (A0 : Option Addr) (c0 : Nat) (l0 : List (S33)) (a1 : Int) (r : Bool) (w : World) (hr0 : Kd.C k33 w A0 l0.length l0) (hc0 : l0.length ≤ c0) (h : prop_Check.f k l0 a1 = some r) :
  Calls Try.prog 12 #[.slice A0 l0.length c0, .int .i64 a1] w fun e w' => e = .returned (.bool r) ∧ Below w.heap.size w w' := by
 have hu33 := Try.underlying33; have HR0 := Aside0.mk hr0; have HC0 := Aside0.mk hc0; clear hr0 hc0; have HB := Aside0.mk (Below.refl w.heap.size w); have H : (if (l0.length : Int) > 256 then (some false) else (prop_Check.l0 k a1 (-1) l0 (l0.length : Int) 0)) = some r := h
 clear h; by_cases c3 : (l0.length : Int) > 256
 ·rw [if_pos c3] at H
  have c3b0 : decide (256 < (l0.length : Int)) = true := decide_eq_true c3
  have c3b1 : decide (256 < l0.length) = true := decide_eq_true (by omega)
  clear c3; obtain rfl := Option.some.inj H
  go_enter Try.func12, Try.ntmps12
  go_wp2
  go_ret
  exact ⟨aX, aL HB⟩
 rw [if_neg c3] at H; have c3b0 : decide (256 < (l0.length : Int)) = false := decide_eq_false c3
 have c3b1 : decide (256 < l0.length) = false := decide_eq_false (by omega)
 clear c3; have H' := Aside0.mk H
 clear H; go_enter Try.func12, Try.ntmps12
 go_wp2
 go_loopg [5, 13] k (fun kq v5 v13 w' => ∃ (x5_1 : Int) (x13_1 : Int), v5 = .int .i32 x5_1 ∧ v13 = .int .i64 x13_1 ∧ Aside0 (prop_Check.l0 kq a1 x5_1 l0 (l0.length : Int) x13_1 = some r) ∧ Aside0 (kq ≤ k) ∧ Aside0 (Below w.heap.size w w'))
 case atStart => exact ⟨((-1)), (0), aZ, aZ, H', ⟨Nat.le_refl _⟩, ⟨aL HB⟩⟩
 clear H'; obtain ⟨x5_1, x13_1, rfl, rfl, HA, HK1, HB⟩ := hrel; cases gk with
 | zero => exact absurd HA.out (by simp [prop_Check.l0])
 | succ k1 =>
  have H := HA.out; clear HA; simp only [prop_Check.l0] at H; by_cases c4 : x13_1 < (l0.length : Int)
  rotate_left
  ·rw [if_neg c4] at H
   have c4b0 : decide (x13_1 < (l0.length : Int)) = false := decide_eq_false c4
   clear c4; obtain rfl := Option.some.inj H
   go_wp2
   go_ret
   exact ⟨aX, aL HB⟩
  rw [if_pos c4] at H; have c4b0 : decide (x13_1 < (l0.length : Int)) = true := decide_eq_true c4
  clear c4; by_cases c5 : 0 ≤ x13_1
  rotate_left
  ·rw [if_neg c5] at H
   exact absurd H (by simp)
  rw [if_pos c5] at H; have c5b0 : decide (0 ≤ x13_1) = true := decide_eq_true c5
  clear c5; by_cases c6 : x13_1 < (l0.length : Int)
  rotate_left
  ·rw [if_neg c6] at H
   exact absurd H (by simp)
  rw [if_pos c6] at H; have c6b0 : decide (x13_1 < (l0.length : Int)) = true := decide_eq_true c6
  clear c6; by_cases c7 : ((rd_T33 l0 x13_1).f0) ≤ x5_1
  ·rw [if_pos c7] at H
   have c7b0 : decide (((rd_T33 l0 x13_1).f0) ≤ x5_1) = true := decide_eq_true c7
   clear c7; obtain rfl := Option.some.inj H
   have p101 : 0 ≤ (x13_1 : Int) := aD
   have q101 : x13_1 < (l0.length : Int) := aD
   obtain ⟨ad101, e101, hx101_0, hx101_1, hx101_2⟩ := at_T33 HR0.out x13_1 p101 q101; cases e101
   replace hx101_0 := (HB.out.cell (World.block_lt_of_cell? w _ hx101_0)).trans hx101_0; replace hx101_1 := (HB.out.cell (World.block_lt_of_cell? w _ hx101_1)).trans hx101_1; replace hx101_2 := (HB.out.cell (World.block_lt_of_cell? w _ hx101_2)).trans hx101_2; replace p101 := eq_true p101; replace q101 := eq_true q101; go_wp2_with (first | ((with_reducible refine gate_dst (N := 7) rfl ?_); refine box_event ?hg (N := 7) ?hd (cs := #[.int .i32 0, .int .i32 0, .int .i64 0]) (t := 33) ?hr ?_; (case hd => rfl); (case hg => rfl); (case hr => first | (go_simp; done) | (go_simp; rfl)); intro gb102 hg w8 hbox hb; have BK102 := Aside0.mk (hbox); have GW102 := Aside0.mk ((by rw [hg]; exact (below_size (aL HB)) : w.heap.size ≤ gb102)); replace HB := Aside0.mk (below_step (aL HB) hb); have GE102 := GW102; clear hb hbox hg; obtain ⟨hcz9_0, hcz9_1, hcz9_2, hfz9_0, hfz9_1, hfz9_2⟩ := aC3 BK102) | ((with_reducible refine gate_store (t := 33) (p := 7) rfl ?_); refine store_event (t := 33) (p := 7) (v := ?vo_w10) (w1 := (((w8.setCell ⟨gb102, 0, none⟩ (.int .i32 ((rd_T33 l0 x13_1).f0))).setCell ⟨gb102, 1, none⟩ (.int .i32 ((rd_T33 l0 x13_1).f1))).setCell ⟨gb102, 2, none⟩ (.int .i64 ((rd_T33 l0 x13_1).f2)))) ?hg ?ho ?hn ?hr ?_; (case ho => rfl); (case hg => rfl); (case hn => rfl); (case hr => first | (go_simp; done) | (go_simp; rfl)); intro w10 hw; have n0_ : Aside0 (w10.heap[gb102]? = some (.cells #[.int .i32 ((rd_T33 l0 x13_1).f0), .int .i32 ((rd_T33 l0 x13_1).f1), .int .i64 ((rd_T33 l0 x13_1).f2)] 33 (0, 0))) := ⟨(by rw [hw]; exact (by (with_reducible repeat (first | refine blk_drewN ?_ _ | refine blk_drew ?_ | refine blk_alloc ?_ _)); refine blk_put (cs := #[.int .i32 ((rd_T33 l0 x13_1).f0), .int .i32 ((rd_T33 l0 x13_1).f1), .int .i64 0]) ?_ 2 _ rfl; (with_reducible repeat (first | refine blk_drewN ?_ _ | refine blk_drew ?_ | refine blk_alloc ?_ _)); refine blk_put (cs := #[.int .i32 ((rd_T33 l0 x13_1).f0), .int .i32 0, .int .i64 0]) ?_ 1 _ rfl; (with_reducible repeat (first | refine blk_drewN ?_ _ | refine blk_drew ?_ | refine blk_alloc ?_ _)); refine blk_put (cs := #[.int .i32 0, .int .i32 0, .int .i64 0]) ?_ 0 _ rfl; (with_reducible repeat (first | refine blk_drewN ?_ _ | refine blk_drew ?_ | refine blk_alloc ?_ _)); exact BK102.out))⟩; have n1_ : Aside0 (Below w.heap.size w w10) := ⟨(by rw [hw]; exact (aL HB))⟩; clear hw; clear BK102; clear HB; have BK102 := n0_; have HB := n1_; clear n0_ n1_; obtain ⟨hcz11_0, hcz11_1, hcz11_2, hfz11_0, hfz11_1, hfz11_2⟩ := aC3 BK102))
   go_ret
   exact ⟨aX, aL HB⟩
  rw [if_neg c7] at H; have c7b0 : decide (((rd_T33 l0 x13_1).f0) ≤ x5_1) = false := decide_eq_false c7
  clear c7; by_cases c12 : ((rd_T33 l0 x13_1).f1) < ((rd_T33 l0 x13_1).f0)
  ·rw [if_pos c12] at H
   have c12b0 : decide (((rd_T33 l0 x13_1).f1) < ((rd_T33 l0 x13_1).f0)) = true := decide_eq_true c12
   clear c12; obtain rfl := Option.some.inj H
   have p101 : 0 ≤ (x13_1 : Int) := aD
   have q101 : x13_1 < (l0.length : Int) := aD
   obtain ⟨ad101, e101, hx101_0, hx101_1, hx101_2⟩ := at_T33 HR0.out x13_1 p101 q101; cases e101
   replace hx101_0 := (HB.out.cell (World.block_lt_of_cell? w _ hx101_0)).trans hx101_0; replace hx101_1 := (HB.out.cell (World.block_lt_of_cell? w _ hx101_1)).trans hx101_1; replace hx101_2 := (HB.out.cell (World.block_lt_of_cell? w _ hx101_2)).trans hx101_2; replace p101 := eq_true p101; replace q101 := eq_true q101; go_wp2_with (first | ((with_reducible refine gate_dst (N := 7) rfl ?_); refine box_event ?hg (N := 7) ?hd (cs := #[.int .i32 0, .int .i32 0, .int .i64 0]) (t := 33) ?hr ?_; (case hd => rfl); (case hg => rfl); (case hr => first | (go_simp; done) | (go_simp; rfl)); intro gb102 hg w13 hbox hb; have BK102 := Aside0.mk (hbox); have GW102 := Aside0.mk ((by rw [hg]; exact (below_size (aL HB)) : w.heap.size ≤ gb102)); replace HB := Aside0.mk (below_step (aL HB) hb); have GE102 := GW102; clear hb hbox hg; obtain ⟨hcz14_0, hcz14_1, hcz14_2, hfz14_0, hfz14_1, hfz14_2⟩ := aC3 BK102) | ((with_reducible refine gate_store (t := 33) (p := 7) rfl ?_); refine store_event (t := 33) (p := 7) (v := ?vo_w15) (w1 := (((w13.setCell ⟨gb102, 0, none⟩ (.int .i32 ((rd_T33 l0 x13_1).f0))).setCell ⟨gb102, 1, none⟩ (.int .i32 ((rd_T33 l0 x13_1).f1))).setCell ⟨gb102, 2, none⟩ (.int .i64 ((rd_T33 l0 x13_1).f2)))) ?hg ?ho ?hn ?hr ?_; (case ho => rfl); (case hg => rfl); (case hn => rfl); (case hr => first | (go_simp; done) | (go_simp; rfl)); intro w15 hw; have n0_ : Aside0 (w15.heap[gb102]? = some (.cells #[.int .i32 ((rd_T33 l0 x13_1).f0), .int .i32 ((rd_T33 l0 x13_1).f1), .int .i64 ((rd_T33 l0 x13_1).f2)] 33 (0, 0))) := ⟨(by rw [hw]; exact (by (with_reducible repeat (first | refine blk_drewN ?_ _ | refine blk_drew ?_ | refine blk_alloc ?_ _)); refine blk_put (cs := #[.int .i32 ((rd_T33 l0 x13_1).f0), .int .i32 ((rd_T33 l0 x13_1).f1), .int .i64 0]) ?_ 2 _ rfl; (with_reducible repeat (first | refine blk_drewN ?_ _ | refine blk_drew ?_ | refine blk_alloc ?_ _)); refine blk_put (cs := #[.int .i32 ((rd_T33 l0 x13_1).f0), .int .i32 0, .int .i64 0]) ?_ 1 _ rfl; (with_reducible repeat (first | refine blk_drewN ?_ _ | refine blk_drew ?_ | refine blk_alloc ?_ _)); refine blk_put (cs := #[.int .i32 0, .int .i32 0, .int .i64 0]) ?_ 0 _ rfl; (with_reducible repeat (first | refine blk_drewN ?_ _ | refine blk_drew ?_ | refine blk_alloc ?_ _)); exact BK102.out))⟩; have n1_ : Aside0 (Below w.heap.size w w15) := ⟨(by rw [hw]; exact (aL HB))⟩; clear hw; clear BK102; clear HB; have BK102 := n0_; have HB := n1_; clear n0_ n1_; obtain ⟨hcz16_0, hcz16_1, hcz16_2, hfz16_0, hfz16_1, hfz16_2⟩ := aC3 BK102))
   go_ret
   exact ⟨aX, aL HB⟩
  rw [if_neg c12] at H; have c12b0 : decide (((rd_T33 l0 x13_1).f1) < ((rd_T33 l0 x13_1).f0)) = false := decide_eq_false c12
  clear c12; by_cases c17 : ((rd_T33 l0 x13_1).f1) > 1114111
  ·rw [if_pos c17] at H
   have c17b0 : decide (1114111 < ((rd_T33 l0 x13_1).f1)) = true := decide_eq_true c17
   clear c17; obtain rfl := Option.some.inj H
   have p101 : 0 ≤ (x13_1 : Int) := aD
   have q101 : x13_1 < (l0.length : Int) := aD
   obtain ⟨ad101, e101, hx101_0, hx101_1, hx101_2⟩ := at_T33 HR0.out x13_1 p101 q101; cases e101
   replace hx101_0 := (HB.out.cell (World.block_lt_of_cell? w _ hx101_0)).trans hx101_0; replace hx101_1 := (HB.out.cell (World.block_lt_of_cell? w _ hx101_1)).trans hx101_1; replace hx101_2 := (HB.out.cell (World.block_lt_of_cell? w _ hx101_2)).trans hx101_2; replace p101 := eq_true p101; replace q101 := eq_true q101; go_wp2_with (first | ((with_reducible refine gate_dst (N := 7) rfl ?_); refine box_event ?hg (N := 7) ?hd (cs := #[.int .i32 0, .int .i32 0, .int .i64 0]) (t := 33) ?hr ?_; (case hd => rfl); (case hg => rfl); (case hr => first | (go_simp; done) | (go_simp; rfl)); intro gb102 hg w18 hbox hb; have BK102 := Aside0.mk (hbox); have GW102 := Aside0.mk ((by rw [hg]; exact (below_size (aL HB)) : w.heap.size ≤ gb102)); replace HB := Aside0.mk (below_step (aL HB) hb); have GE102 := GW102; clear hb hbox hg; obtain ⟨hcz19_0, hcz19_1, hcz19_2, hfz19_0, hfz19_1, hfz19_2⟩ := aC3 BK102) | ((with_reducible refine gate_store (t := 33) (p := 7) rfl ?_); refine store_event (t := 33) (p := 7) (v := ?vo_w20) (w1 := (((w18.setCell ⟨gb102, 0, none⟩ (.int .i32 ((rd_T33 l0 x13_1).f0))).setCell ⟨gb102, 1, none⟩ (.int .i32 ((rd_T33 l0 x13_1).f1))).setCell ⟨gb102, 2, none⟩ (.int .i64 ((rd_T33 l0 x13_1).f2)))) ?hg ?ho ?hn ?hr ?_; (case ho => rfl); (case hg => rfl); (case hn => rfl); (case hr => first | (go_simp; done) | (go_simp; rfl)); intro w20 hw; have n0_ : Aside0 (w20.heap[gb102]? = some (.cells #[.int .i32 ((rd_T33 l0 x13_1).f0), .int .i32 ((rd_T33 l0 x13_1).f1), .int .i64 ((rd_T33 l0 x13_1).f2)] 33 (0, 0))) := ⟨(by rw [hw]; exact (by (with_reducible repeat (first | refine blk_drewN ?_ _ | refine blk_drew ?_ | refine blk_alloc ?_ _)); refine blk_put (cs := #[.int .i32 ((rd_T33 l0 x13_1).f0), .int .i32 ((rd_T33 l0 x13_1).f1), .int .i64 0]) ?_ 2 _ rfl; (with_reducible repeat (first | refine blk_drewN ?_ _ | refine blk_drew ?_ | refine blk_alloc ?_ _)); refine blk_put (cs := #[.int .i32 ((rd_T33 l0 x13_1).f0), .int .i32 0, .int .i64 0]) ?_ 1 _ rfl; (with_reducible repeat (first | refine blk_drewN ?_ _ | refine blk_drew ?_ | refine blk_alloc ?_ _)); refine blk_put (cs := #[.int .i32 0, .int .i32 0, .int .i64 0]) ?_ 0 _ rfl; (with_reducible repeat (first | refine blk_drewN ?_ _ | refine blk_drew ?_ | refine blk_alloc ?_ _)); exact BK102.out))⟩; have n1_ : Aside0 (Below w.heap.size w w20) := ⟨(by rw [hw]; exact (aL HB))⟩; clear hw; clear BK102; clear HB; have BK102 := n0_; have HB := n1_; clear n0_ n1_; obtain ⟨hcz21_0, hcz21_1, hcz21_2, hfz21_0, hfz21_1, hfz21_2⟩ := aC3 BK102))
   go_ret
   exact ⟨aX, aL HB⟩
  rw [if_neg c17] at H; have c17b0 : decide (1114111 < ((rd_T33 l0 x13_1).f1)) = false := decide_eq_false c17
  clear c17; by_cases c22 : ((rd_T33 l0 x13_1).f2) < 0
  ·rw [if_pos c22] at H
   have c22b0 : decide (((rd_T33 l0 x13_1).f2) < 0) = true := decide_eq_true c22
   clear c22; obtain rfl := Option.some.inj H
   have p101 : 0 ≤ (x13_1 : Int) := aD
   have q101 : x13_1 < (l0.length : Int) := aD
   obtain ⟨ad101, e101, hx101_0, hx101_1, hx101_2⟩ := at_T33 HR0.out x13_1 p101 q101; cases e101
   replace hx101_0 := (HB.out.cell (World.block_lt_of_cell? w _ hx101_0)).trans hx101_0; replace hx101_1 := (HB.out.cell (World.block_lt_of_cell? w _ hx101_1)).trans hx101_1; replace hx101_2 := (HB.out.cell (World.block_lt_of_cell? w _ hx101_2)).trans hx101_2; replace p101 := eq_true p101; replace q101 := eq_true q101; go_wp2_with (first | ((with_reducible refine gate_dst (N := 7) rfl ?_); refine box_event ?hg (N := 7) ?hd (cs := #[.int .i32 0, .int .i32 0, .int .i64 0]) (t := 33) ?hr ?_; (case hd => rfl); (case hg => rfl); (case hr => first | (go_simp; done) | (go_simp; rfl)); intro gb102 hg w23 hbox hb; have BK102 := Aside0.mk (hbox); have GW102 := Aside0.mk ((by rw [hg]; exact (below_size (aL HB)) : w.heap.size ≤ gb102)); replace HB := Aside0.mk (below_step (aL HB) hb); have GE102 := GW102; clear hb hbox hg; obtain ⟨hcz24_0, hcz24_1, hcz24_2, hfz24_0, hfz24_1, hfz24_2⟩ := aC3 BK102) | ((with_reducible refine gate_store (t := 33) (p := 7) rfl ?_); refine store_event (t := 33) (p := 7) (v := ?vo_w25) (w1 := (((w23.setCell ⟨gb102, 0, none⟩ (.int .i32 ((rd_T33 l0 x13_1).f0))).setCell ⟨gb102, 1, none⟩ (.int .i32 ((rd_T33 l0 x13_1).f1))).setCell ⟨gb102, 2, none⟩ (.int .i64 ((rd_T33 l0 x13_1).f2)))) ?hg ?ho ?hn ?hr ?_; (case ho => rfl); (case hg => rfl); (case hn => rfl); (case hr => first | (go_simp; done) | (go_simp; rfl)); intro w25 hw; have n0_ : Aside0 (w25.heap[gb102]? = some (.cells #[.int .i32 ((rd_T33 l0 x13_1).f0), .int .i32 ((rd_T33 l0 x13_1).f1), .int .i64 ((rd_T33 l0 x13_1).f2)] 33 (0, 0))) := ⟨(by rw [hw]; exact (by (with_reducible repeat (first | refine blk_drewN ?_ _ | refine blk_drew ?_ | refine blk_alloc ?_ _)); refine blk_put (cs := #[.int .i32 ((rd_T33 l0 x13_1).f0), .int .i32 ((rd_T33 l0 x13_1).f1), .int .i64 0]) ?_ 2 _ rfl; (with_reducible repeat (first | refine blk_drewN ?_ _ | refine blk_drew ?_ | refine blk_alloc ?_ _)); refine blk_put (cs := #[.int .i32 ((rd_T33 l0 x13_1).f0), .int .i32 0, .int .i64 0]) ?_ 1 _ rfl; (with_reducible repeat (first | refine blk_drewN ?_ _ | refine blk_drew ?_ | refine blk_alloc ?_ _)); refine blk_put (cs := #[.int .i32 0, .int .i32 0, .int .i64 0]) ?_ 0 _ rfl; (with_reducible repeat (first | refine blk_drewN ?_ _ | refine blk_drew ?_ | refine blk_alloc ?_ _)); exact BK102.out))⟩; have n1_ : Aside0 (Below w.heap.size w w25) := ⟨(by rw [hw]; exact (aL HB))⟩; clear hw; clear BK102; clear HB; have BK102 := n0_; have HB := n1_; clear n0_ n1_; obtain ⟨hcz26_0, hcz26_1, hcz26_2, hfz26_0, hfz26_1, hfz26_2⟩ := aC3 BK102))
   go_ret
   exact ⟨aX, aL HB⟩
  rw [if_neg c22] at H; have c22b0 : decide (((rd_T33 l0 x13_1).f2) < 0) = false := decide_eq_false c22
  clear c22; by_cases c27 : ((rd_T33 l0 x13_1).f2) ≥ a1
  ·rw [if_pos c27] at H
   have c27b0 : decide (a1 ≤ ((rd_T33 l0 x13_1).f2)) = true := decide_eq_true c27
   clear c27; obtain rfl := Option.some.inj H
   have p101 : 0 ≤ (x13_1 : Int) := aD
   have q101 : x13_1 < (l0.length : Int) := aD
   obtain ⟨ad101, e101, hx101_0, hx101_1, hx101_2⟩ := at_T33 HR0.out x13_1 p101 q101; cases e101
   replace hx101_0 := (HB.out.cell (World.block_lt_of_cell? w _ hx101_0)).trans hx101_0; replace hx101_1 := (HB.out.cell (World.block_lt_of_cell? w _ hx101_1)).trans hx101_1; replace hx101_2 := (HB.out.cell (World.block_lt_of_cell? w _ hx101_2)).trans hx101_2; replace p101 := eq_true p101; replace q101 := eq_true q101; go_wp2_with (first | ((with_reducible refine gate_dst (N := 7) rfl ?_); refine box_event ?hg (N := 7) ?hd (cs := #[.int .i32 0, .int .i32 0, .int .i64 0]) (t := 33) ?hr ?_; (case hd => rfl); (case hg => rfl); (case hr => first | (go_simp; done) | (go_simp; rfl)); intro gb102 hg w28 hbox hb; have BK102 := Aside0.mk (hbox); have GW102 := Aside0.mk ((by rw [hg]; exact (below_size (aL HB)) : w.heap.size ≤ gb102)); replace HB := Aside0.mk (below_step (aL HB) hb); have GE102 := GW102; clear hb hbox hg; obtain ⟨hcz29_0, hcz29_1, hcz29_2, hfz29_0, hfz29_1, hfz29_2⟩ := aC3 BK102) | ((with_reducible refine gate_store (t := 33) (p := 7) rfl ?_); refine store_event (t := 33) (p := 7) (v := ?vo_w30) (w1 := (((w28.setCell ⟨gb102, 0, none⟩ (.int .i32 ((rd_T33 l0 x13_1).f0))).setCell ⟨gb102, 1, none⟩ (.int .i32 ((rd_T33 l0 x13_1).f1))).setCell ⟨gb102, 2, none⟩ (.int .i64 ((rd_T33 l0 x13_1).f2)))) ?hg ?ho ?hn ?hr ?_; (case ho => rfl); (case hg => rfl); (case hn => rfl); (case hr => first | (go_simp; done) | (go_simp; rfl)); intro w30 hw; have n0_ : Aside0 (w30.heap[gb102]? = some (.cells #[.int .i32 ((rd_T33 l0 x13_1).f0), .int .i32 ((rd_T33 l0 x13_1).f1), .int .i64 ((rd_T33 l0 x13_1).f2)] 33 (0, 0))) := ⟨(by rw [hw]; exact (by (with_reducible repeat (first | refine blk_drewN ?_ _ | refine blk_drew ?_ | refine blk_alloc ?_ _)); refine blk_put (cs := #[.int .i32 ((rd_T33 l0 x13_1).f0), .int .i32 ((rd_T33 l0 x13_1).f1), .int .i64 0]) ?_ 2 _ rfl; (with_reducible repeat (first | refine blk_drewN ?_ _ | refine blk_drew ?_ | refine blk_alloc ?_ _)); refine blk_put (cs := #[.int .i32 ((rd_T33 l0 x13_1).f0), .int .i32 0, .int .i64 0]) ?_ 1 _ rfl; (with_reducible repeat (first | refine blk_drewN ?_ _ | refine blk_drew ?_ | refine blk_alloc ?_ _)); refine blk_put (cs := #[.int .i32 0, .int .i32 0, .int .i64 0]) ?_ 0 _ rfl; (with_reducible repeat (first | refine blk_drewN ?_ _ | refine blk_drew ?_ | refine blk_alloc ?_ _)); exact BK102.out))⟩; have n1_ : Aside0 (Below w.heap.size w w30) := ⟨(by rw [hw]; exact (aL HB))⟩; clear hw; clear BK102; clear HB; have BK102 := n0_; have HB := n1_; clear n0_ n1_; obtain ⟨hcz31_0, hcz31_1, hcz31_2, hfz31_0, hfz31_1, hfz31_2⟩ := aC3 BK102))
   go_ret
   exact ⟨aX, aL HB⟩
  rw [if_neg c27] at H; have c27b0 : decide (a1 ≤ ((rd_T33 l0 x13_1).f2)) = false := decide_eq_false c27
  clear c27; by_cases c32 : ((rd_T33 l0 x13_1).f2) > 255
  ·rw [if_pos c32] at H
   have c32b0 : decide (255 < ((rd_T33 l0 x13_1).f2)) = true := decide_eq_true c32
   clear c32; obtain rfl := Option.some.inj H
   have p101 : 0 ≤ (x13_1 : Int) := aD
   have q101 : x13_1 < (l0.length : Int) := aD
   obtain ⟨ad101, e101, hx101_0, hx101_1, hx101_2⟩ := at_T33 HR0.out x13_1 p101 q101; cases e101
   replace hx101_0 := (HB.out.cell (World.block_lt_of_cell? w _ hx101_0)).trans hx101_0; replace hx101_1 := (HB.out.cell (World.block_lt_of_cell? w _ hx101_1)).trans hx101_1; replace hx101_2 := (HB.out.cell (World.block_lt_of_cell? w _ hx101_2)).trans hx101_2; replace p101 := eq_true p101; replace q101 := eq_true q101; go_wp2_with (first | ((with_reducible refine gate_dst (N := 7) rfl ?_); refine box_event ?hg (N := 7) ?hd (cs := #[.int .i32 0, .int .i32 0, .int .i64 0]) (t := 33) ?hr ?_; (case hd => rfl); (case hg => rfl); (case hr => first | (go_simp; done) | (go_simp; rfl)); intro gb102 hg w33 hbox hb; have BK102 := Aside0.mk (hbox); have GW102 := Aside0.mk ((by rw [hg]; exact (below_size (aL HB)) : w.heap.size ≤ gb102)); replace HB := Aside0.mk (below_step (aL HB) hb); have GE102 := GW102; clear hb hbox hg; obtain ⟨hcz34_0, hcz34_1, hcz34_2, hfz34_0, hfz34_1, hfz34_2⟩ := aC3 BK102) | ((with_reducible refine gate_store (t := 33) (p := 7) rfl ?_); refine store_event (t := 33) (p := 7) (v := ?vo_w35) (w1 := (((w33.setCell ⟨gb102, 0, none⟩ (.int .i32 ((rd_T33 l0 x13_1).f0))).setCell ⟨gb102, 1, none⟩ (.int .i32 ((rd_T33 l0 x13_1).f1))).setCell ⟨gb102, 2, none⟩ (.int .i64 ((rd_T33 l0 x13_1).f2)))) ?hg ?ho ?hn ?hr ?_; (case ho => rfl); (case hg => rfl); (case hn => rfl); (case hr => first | (go_simp; done) | (go_simp; rfl)); intro w35 hw; have n0_ : Aside0 (w35.heap[gb102]? = some (.cells #[.int .i32 ((rd_T33 l0 x13_1).f0), .int .i32 ((rd_T33 l0 x13_1).f1), .int .i64 ((rd_T33 l0 x13_1).f2)] 33 (0, 0))) := ⟨(by rw [hw]; exact (by (with_reducible repeat (first | refine blk_drewN ?_ _ | refine blk_drew ?_ | refine blk_alloc ?_ _)); refine blk_put (cs := #[.int .i32 ((rd_T33 l0 x13_1).f0), .int .i32 ((rd_T33 l0 x13_1).f1), .int .i64 0]) ?_ 2 _ rfl; (with_reducible repeat (first | refine blk_drewN ?_ _ | refine blk_drew ?_ | refine blk_alloc ?_ _)); refine blk_put (cs := #[.int .i32 ((rd_T33 l0 x13_1).f0), .int .i32 0, .int .i64 0]) ?_ 1 _ rfl; (with_reducible repeat (first | refine blk_drewN ?_ _ | refine blk_drew ?_ | refine blk_alloc ?_ _)); refine blk_put (cs := #[.int .i32 0, .int .i32 0, .int .i64 0]) ?_ 0 _ rfl; (with_reducible repeat (first | refine blk_drewN ?_ _ | refine blk_drew ?_ | refine blk_alloc ?_ _)); exact BK102.out))⟩; have n1_ : Aside0 (Below w.heap.size w w35) := ⟨(by rw [hw]; exact (aL HB))⟩; clear hw; clear BK102; clear HB; have BK102 := n0_; have HB := n1_; clear n0_ n1_; obtain ⟨hcz36_0, hcz36_1, hcz36_2, hfz36_0, hfz36_1, hfz36_2⟩ := aC3 BK102))
   go_ret
   exact ⟨aX, aL HB⟩
  rw [if_neg c32] at H; have c32b0 : decide (255 < ((rd_T33 l0 x13_1).f2)) = false := decide_eq_false c32
  clear c32; have H' := Aside0.mk H
  clear H; have p101 : 0 ≤ (x13_1 : Int) := aD
  have q101 : x13_1 < (l0.length : Int) := aD
  obtain ⟨ad101, e101, hx101_0, hx101_1, hx101_2⟩ := at_T33 HR0.out x13_1 p101 q101; cases e101
  replace hx101_0 := (HB.out.cell (World.block_lt_of_cell? w _ hx101_0)).trans hx101_0; replace hx101_1 := (HB.out.cell (World.block_lt_of_cell? w _ hx101_1)).trans hx101_1; replace hx101_2 := (HB.out.cell (World.block_lt_of_cell? w _ hx101_2)).trans hx101_2; replace p101 := eq_true p101; replace q101 := eq_true q101; go_wp2_with (first | ((with_reducible refine gate_dst (N := 7) rfl ?_); refine box_event ?hg (N := 7) ?hd (cs := #[.int .i32 0, .int .i32 0, .int .i64 0]) (t := 33) ?hr ?_; (case hd => rfl); (case hg => rfl); (case hr => first | (go_simp; done) | (go_simp; rfl)); intro gb102 hg w37 hbox hb; have BK102 := Aside0.mk (hbox); have GW102 := Aside0.mk ((by rw [hg]; exact (below_size (aL HB)) : w.heap.size ≤ gb102)); replace HB := Aside0.mk (below_step (aL HB) hb); have GE102 := GW102; clear hb hbox hg; obtain ⟨hcz38_0, hcz38_1, hcz38_2, hfz38_0, hfz38_1, hfz38_2⟩ := aC3 BK102) | ((with_reducible refine gate_store (t := 33) (p := 7) rfl ?_); refine store_event (t := 33) (p := 7) (v := ?vo_w39) (w1 := (((w37.setCell ⟨gb102, 0, none⟩ (.int .i32 ((rd_T33 l0 x13_1).f0))).setCell ⟨gb102, 1, none⟩ (.int .i32 ((rd_T33 l0 x13_1).f1))).setCell ⟨gb102, 2, none⟩ (.int .i64 ((rd_T33 l0 x13_1).f2)))) ?hg ?ho ?hn ?hr ?_; (case ho => rfl); (case hg => rfl); (case hn => rfl); (case hr => first | (go_simp; done) | (go_simp; rfl)); intro w39 hw; have n0_ : Aside0 (w39.heap[gb102]? = some (.cells #[.int .i32 ((rd_T33 l0 x13_1).f0), .int .i32 ((rd_T33 l0 x13_1).f1), .int .i64 ((rd_T33 l0 x13_1).f2)] 33 (0, 0))) := ⟨(by rw [hw]; exact (by (with_reducible repeat (first | refine blk_drewN ?_ _ | refine blk_drew ?_ | refine blk_alloc ?_ _)); refine blk_put (cs := #[.int .i32 ((rd_T33 l0 x13_1).f0), .int .i32 ((rd_T33 l0 x13_1).f1), .int .i64 0]) ?_ 2 _ rfl; (with_reducible repeat (first | refine blk_drewN ?_ _ | refine blk_drew ?_ | refine blk_alloc ?_ _)); refine blk_put (cs := #[.int .i32 ((rd_T33 l0 x13_1).f0), .int .i32 0, .int .i64 0]) ?_ 1 _ rfl; (with_reducible repeat (first | refine blk_drewN ?_ _ | refine blk_drew ?_ | refine blk_alloc ?_ _)); refine blk_put (cs := #[.int .i32 0, .int .i32 0, .int .i64 0]) ?_ 0 _ rfl; (with_reducible repeat (first | refine blk_drewN ?_ _ | refine blk_drew ?_ | refine blk_alloc ?_ _)); exact BK102.out))⟩; have n1_ : Aside0 (Below w.heap.size w w39) := ⟨(by rw [hw]; exact (aL HB))⟩; clear hw; clear BK102; clear HB; have BK102 := n0_; have HB := n1_; clear n0_ n1_; obtain ⟨hcz40_0, hcz40_1, hcz40_2, hfz40_0, hfz40_1, hfz40_2⟩ := aC3 BK102))
  go_roundg k1
  case measure => have := HK1.out; omega
  case rel => exact ⟨((rd_T33 l0 x13_1).f1), (wrap64 (x13_1 + 1)), aZ, aZ, H', ⟨by have := HK1.out; omega⟩, ⟨aL HB⟩⟩
def bcs (b : List Int) : List Value := b.map (Value.int .u8)
def bag (b : List Int) : Value := .agg (bcs b).toArray
def Byt (b : List Int) : Prop := b.length = 256 ∧ ∀ c ∈ b, 0 ≤ c ∧ c ≤ 255
theorem mapM_some {α β : Type} {f : α → Option β} {g : α → β} : ∀ l : List α, (∀ x ∈ l, f x = some (g x)) → l.mapM f = some (l.map g)
 | [], _ => rfl
 | x :: l, h => by
  rw [List.mapM_cons, h x (by simp), mapM_some l (fun y hy => h y (by simp [hy]))]
  rfl
theorem bcs_len (b : List Int) : (bcs b).length = b.length := by unfold bcs; rw [List.length_map]
theorem bcs_get (b : List Int) (i : Nat) (h : i < (bcs b).length) : (bcs b)[i] = Value.int .u8 (b.getD i 0) := by
 have h2 : i < b.length := by rw [bcs_len] at h; exact h
 have : (b.map (Value.int .u8))[i]'(by rw [List.length_map]; exact h2) = Value.int .u8 (b.getD i 0) := by
  rw [List.getElem_map, List.getD_eq_getElem?_getD, List.getElem?_eq_getElem h2]; rfl
 exact this
theorem bag_inj {a b : List Int} (h : bag a = bag b) : a = b := by
 unfold bag bcs at h
 injection h with h
 have h2 := congrArg Array.toList h; simp only at h2
 exact (List.map_inj_right (fun x y hxy => by injection hxy)).1 h2
theorem prop_Make.hkey {b : List Int} (h : Byt b) : ∃ kl, keyOf Try.prog 57 (bag b) = some kl := by
 obtain ⟨d, hd⟩ : ∃ d, Try.prog.types.size = d + 1 := ⟨Try.prog.types.size - 1, by have : 0 < Try.prog.types.size := of_decide_eq_true (by kernel_rfl); omega⟩
 have hc : Try.prog.cellsOf 57 = 256 := by kernel_rfl
 have hc5 : Try.prog.cellsOf 5 = 1 := by kernel_rfl
 have hk : Try.prog.keyType 57 = true := by kernel_rfl
 have hf : (bag b).formed Try.prog 57 = true := by
  unfold Value.formed bag
  simp only [Try.underlying57, hc, List.size_toArray, bcs_len, h.1]; rfl
 have hl : Try.prog.keyLits (Try.prog.types.size + 1) 57 (bag b).cells.toList = some (((List.range 256).map fun i => [Lit.int .u8 (b.getD i 0)]).flatten) := by
  rw [hd]; have hcells : (bag b).cells.toList = bcs b := rfl
  rw [hcells]; unfold Program.keyLits
  simp only [Try.underlying57, hc, bcs_len, h.1, if_true, hc5, Nat.mul_one]; rw [mapM_some (g := fun i => [Lit.int .u8 (b.getD i 0)]) (List.range 256)]
  ·rfl
  ·intro i hi
   have hi' : i < 256 := List.mem_range.1 hi
   have hb : i < (bcs b).length := by rw [bcs_len, h.1]; exact hi'
   have e : ((bcs b).drop i).take 1 = [Value.int .u8 (b.getD i 0)] := by
    rw [List.drop_eq_getElem_cons hb]; rw [bcs_get b i hb]; rfl
   rw [e]; have hw : (Lit.int .u8 (b.getD i 0)).wf = true := by
    have hm := h.2 (b.getD i 0) (by
     rw [List.getD_eq_getElem?_getD, List.getElem?_eq_getElem (show i < b.length by rw [h.1]; exact hi')]
     exact List.getElem_mem _)
    exact WalkArith.wf_u8 hm
   unfold Program.keyLits
   simp only [Try.underlying5, hw, and_self, if_true]
 refine ⟨.string (keyBytes (((List.range 256).map fun i => [Lit.int .u8 (b.getD i 0)]).flatten)), ?_⟩
 unfold keyOf
 simp only [Try.underlying57, hk, hf, Bool.and_self, if_true, hl, Option.map_some]
theorem prop_Make.laidOut : laidOutB Try.prog = true := by kernel_rfl
theorem prop_Make.wide : (match Try.prog.underlying 57 with | some (.array _ _) | some (.struct _) => true | _ => false) = true := by rw [Try.underlying57]
theorem prop_Make.law : Maps.Keyed Try.prog 57 := Maps.Keyed.of_law (deep_law_laid prop_Make.laidOut (m := 2) (by omega) (of_decide_eq_true (by kernel_rfl)) (by kernel_rfl) prop_Make.wide)
theorem prop_Make.zeroE (w : World) : (zeroValue 3).run Try.prog w = .ok (.int .i64 0) w := by kernel_rfl
theorem prop_Make.eq_run (w : World) {a b : List Int} (ha : Byt a) (hb : Byt b) : (Op.equal 57 (bag a) (bag b)).run Try.prog w = .ok (decide (a = b)) w := by
 obtain ⟨ka, hka⟩ := prop_Make.hkey ha; obtain ⟨kb, hkb⟩ := prop_Make.hkey hb; obtain ⟨r, hr, hiff⟩ := run_equal_deep (P := Try.prog) w (m := 2) (by omega) (k := 57) (by kernel_rfl) prop_Make.wide hka hkb
 rw [hr]; congr 1
 rw [Bool.eq_iff_iff, hiff, decide_eq_true_iff]; constructor
 ·rintro rfl; exact bag_inj (prop_Make.law.inj hka hkb)
 rintro rfl; rw [hka] at hkb; exact Option.some.inj hkb
def SeenR (P : Program) (K : TypeId) (D : DataW Unit) (bs : List (List Int)) : Prop :=
 ∀ (x : List Int) (kl : Lit), Byt x → keyOf P K (bag x) = some kl → Maps.has D kl = decide (x ∈ bs ∧ x ≠ zerosR) ∧ (x ∈ bs → x ≠ zerosR → ∀ z, D.atKey kl z = .lit (.int .i64 (bs.idxOf x : Int)))
theorem SeenR.start : SeenR Try.prog 57 (.map []) [zerosR] := by
 intro x kl hx hk
 refine ⟨?_, fun h1 h2 => absurd (List.mem_singleton.1 h1) h2⟩
 have : ¬ (x ∈ [zerosR] ∧ x ≠ zerosR) := fun h => h.2 (List.mem_singleton.1 h.1)
 rw [decide_eq_false this]; rfl
theorem SeenR.put {D : DataW Unit} {bs : List (List Int)} (h : SeenR Try.prog 57 D bs) (hm : Maps.IsMap D) (hz : zerosR ∈ bs) {y : List Int} {ky : Lit} (hy : Byt y) (hky : keyOf Try.prog 57 (bag y) = some ky) (hny : y ∉ bs) :
  SeenR Try.prog 57 (D.put ky (.lit (.int .i64 (bs.length : Int)))) (bs ++ [y]) := by
 have hyz : y ≠ zerosR := fun e => hny (e ▸ hz)
 intro x kl hx hk
 by_cases e : x = y
 ·subst e
  obtain rfl : kl = ky := by rw [hk] at hky; exact Option.some.inj hky
  refine ⟨?_, fun _ _ z => ?_⟩
  ·rw [Maps.has_put_same hm (prop_Make.law.key hk), decide_eq_true ⟨by simp, hyz⟩]
  rw [Maps.atKey_put_same hm (prop_Make.law.key hk), List.idxOf_append, if_neg hny, List.idxOf_cons_self, Nat.zero_add]
 have hne : kl ≠ ky := by
  rintro rfl
  exact e (bag_inj (prop_Make.law.inj hk hky))
 obtain ⟨h1, h2⟩ := h x kl hx hk; have hmem : x ∈ bs ++ [y] ↔ x ∈ bs := by simp [e]
 refine ⟨?_, fun a b z => ?_⟩
 ·rw [Maps.has_put_other hne, h1]
  simp only [hmem]
 rw [Maps.atKey_put_other hne, h2 (hmem.1 a) b z, List.idxOf_append, if_pos (hmem.1 a)]
def prop_Make.t (x : S33) : Int × Int × Int := (x.f0, x.f1, x.f2)
def prop_Make.c (l : List S33) (m : Int) : Bool := chkR (l.map prop_Make.t) m
def prop_MakeY.f (l : List S33) (m : Int) : Option (Option (List (Int × Int × Int))) := if prop_Make.c l m = true then some (some (l.map prop_Make.t)) else none
def prop_MakeN.f (l : List S33) (m : Int) : Option Unit := if prop_Make.c l m = true then none else some ()
theorem prop_Make.loop (m : Int) (xs : List S33) (hn : xs.length ≤ 256) (d : Nat) : ∀ (k i : Nat) (last : Int), i ≤ xs.length → xs.length - i = d → d < k →
  prop_Check.l0 k m last xs (xs.length : Int) (i : Int) = some (chkGo m last ((xs.drop i).map prop_Make.t)) := by
 induction d with
 | zero =>
  intro k i last hi hd hk
  obtain ⟨k, rfl⟩ : ∃ m, k = m + 1 := ⟨k - 1, by omega⟩
  simp only [prop_Check.l0]; rw [if_neg (by omega), List.drop_eq_nil_of_le (by omega)]
  rfl
 | succ d ih =>
  intro k i last hi hd hk
  obtain ⟨k, rfl⟩ : ∃ m, k = m + 1 := ⟨k - 1, by omega⟩
  have hlt : i < xs.length := by omega
  have hrd : rd_T33 xs (i : Int) = xs[i] := by
   unfold rd_T33
   rw [List.getD_eq_getElem?_getD, Int.toNat_natCast, List.getElem?_eq_getElem hlt]; rfl
  simp only [prop_Check.l0]; rw [if_pos (by omega), if_pos (by omega), if_pos (by omega), hrd, List.drop_eq_getElem_cons hlt, List.map_cons]
  rw [show ∀ r, chkGo m last (prop_Make.t xs[i] :: r) = if (xs[i]).f0 ≤ last ∨ (xs[i]).f1 < (xs[i]).f0 ∨ (xs[i]).f1 > 1114111 ∨ (xs[i]).f2 < 0 ∨ (xs[i]).f2 ≥ m ∨ (xs[i]).f2 > 255 then false else chkGo m (xs[i]).f1 r from fun _ => rfl]
  rw [show wrap64 ((i : Int) + 1) = ((i + 1 : Nat) : Int) by unfold wrap64; omega]
  have := ih k (i + 1) (xs[i]).f1 (by omega) (by omega) (by omega)
  by_cases c1 : (xs[i]).f0 ≤ last
  ·rw [if_pos c1, if_pos (by omega)]
  rw [if_neg c1]; by_cases c2 : (xs[i]).f1 < (xs[i]).f0
  ·rw [if_pos c2, if_pos (by omega)]
  rw [if_neg c2]; by_cases c3 : (xs[i]).f1 > 1114111
  ·rw [if_pos c3, if_pos (by omega)]
  rw [if_neg c3]; by_cases c4 : (xs[i]).f2 < 0
  ·rw [if_pos c4, if_pos (by omega)]
  rw [if_neg c4]; by_cases c5 : (xs[i]).f2 ≥ m
  ·rw [if_pos c5, if_pos (by omega)]
  rw [if_neg c5]; by_cases c6 : (xs[i]).f2 > 255
  ·rw [if_pos c6, if_pos (by omega)]
  rw [if_neg c6, if_neg (by omega)]
  exact this
theorem prop_Make.check (l : List S33) (m : Int) : ∃ k, prop_Check.f k l m = some (prop_Make.c l m) := by
 refine ⟨l.length + 1, ?_⟩
 unfold prop_Check.f prop_Make.c chkR
 rw [List.length_map]; by_cases h : (l.length : Int) > 256
 ·rw [if_pos h, if_pos h]
 rw [if_neg h, if_neg h]; have := prop_Make.loop m l (by omega) l.length (l.length + 1) 0 (-1) (by omega) (by omega) (by omega)
 simpa using this
set_option maxHeartbeats 400000 in
theorem prop_MakeN.calls (A0 : Option Addr) (c0 : Nat) (l0 : List S33) (a1 : Int) (w : World) (hr0 : Kd.C k33 w A0 l0.length l0) (hc0 : l0.length ≤ c0) (h : prop_MakeN.f l0 a1 = some ()) :
  Calls Try.prog 11 #[.slice A0 l0.length c0, .int .i64 a1] w fun e w' => e = .returned (.tuple #[.pointer none, .int .i64 10]) ∧ Below w.heap.size w w' := by
 obtain ⟨k, hk⟩ := prop_Make.check l0 a1; have hf : prop_Make.c l0 a1 = false := by
  unfold prop_MakeN.f at h
  split at h
  ·cases h
  ·simpa using (by assumption : ¬ prop_Make.c l0 a1 = true)
 rw [hf] at hk; clear h hf; go_enter Try.func11, Try.ntmps11
 go_wp2_with (go_at_call 12; refine (prop_Check.calls k A0 c0 l0 a1 false w hr0 hc0 hk).mono ?_; rintro e w1 ⟨rfl, hb⟩)
 go_ret2
 exact ⟨rfl, hb⟩
def tcs (f : Nat → Int) (v : Value) : List Value := (List.range 4352).map (fun i => .int .i64 (f i)) ++ [v]
theorem prop_Make.run_make : ∀ w : World, (Instr.makeSlice 51 (.int .i64 1) (.int .i64 1)).run Try.prog w = .ok (.slice (some ⟨w.heap.size, 0, none⟩) 1 1) (w.alloc (.cells (bcs zerosR).toArray 57)) := fun w => by kernel_rfl
theorem prop_Make.run_build (a : Option Addr) (n c : Nat) : ∀ w : World, (Instr.build 54 #[(1, .slice a n c)]).run Try.prog w = .ok (.agg (tcs (fun _ => 0) (.slice a n c)).toArray) w := fun w => by kernel_rfl
theorem prop_Make.run_zv : ∀ w : World, (zeroValue 57).run Try.prog w = .ok (bag zerosR) w := fun w => by kernel_rfl
theorem prop_Make.run_zero : ∀ w : World, (Instr.build 57 #[]).run Try.prog w = .ok (.agg (bcs zerosR).toArray) w := fun w => by kernel_rfl
theorem tcs_get (f : Nat → Int) (v : Value) (j : Nat) (h : j < 4352) : (tcs f v)[j]? = some (.int .i64 (f j)) := by
 unfold tcs
 rw [List.getElem?_append_left (by rw [List.length_map, List.length_range]; exact h), List.getElem?_map, List.getElem?_range h]
 rfl
theorem tcs_len (f : Nat → Int) (v : Value) : (tcs f v).length = 4353 := by
 unfold tcs
 rw [List.length_append, List.length_map, List.length_range]; rfl
theorem tcs_last (f : Nat → Int) (v : Value) : (tcs f v)[4352]? = some v := by
 unfold tcs
 rw [List.getElem?_append_right (by rw [List.length_map, List.length_range]; exact Nat.le_refl _), List.length_map, List.length_range]
 rfl
theorem tcs_out (f : Nat → Int) (v : Value) (j : Nat) (h : 4352 < j) : (tcs f v)[j]? = none := List.getElem?_eq_none (by rw [tcs_len]; exact h)
theorem tcs_ext {f g : Nat → Int} (v : Value) (h : ∀ m, m < 4352 → f m = g m) : tcs f v = tcs g v := by
 unfold tcs
 rw [List.map_congr_left (fun m hm => by rw [h m (List.mem_range.1 hm)])]
theorem tcs_set (f : Nat → Int) (v : Value) (i : Nat) (hi : i < 4352) (x : Int) : (tcs f v).set i (.int .i64 x) = tcs (fun m => if m = i then x else f m) v := by
 apply List.ext_getElem?
 intro j
 rw [List.getElem?_set]; by_cases e : i = j
 ·subst e
  rw [if_pos rfl, if_pos (by rw [tcs_len]; omega), tcs_get _ _ _ hi, if_pos rfl]
 rw [if_neg e]; rcases Nat.lt_trichotomy j 4352 with h | h | h
 ·rw [tcs_get _ _ _ h, tcs_get _ _ _ h, if_neg (fun x => e x.symm)]
 ·subst h; rw [tcs_last, tcs_last]
 rw [tcs_out _ _ _ h, tcs_out _ _ _ h]
theorem tcs_setv (f : Nat → Int) (v u : Value) : (tcs f v).set 4352 u = tcs f u := by
 apply List.ext_getElem?
 intro j
 rw [List.getElem?_set]; by_cases e : 4352 = j
 ·subst e
  rw [if_pos rfl, if_pos (by rw [tcs_len]; omega), tcs_last]
 rw [if_neg e]; rcases Nat.lt_trichotomy j 4352 with h | h | h
 ·rw [tcs_get _ _ _ h, tcs_get _ _ _ h]
 ·exact absurd h.symm e
 rw [tcs_out _ _ _ h, tcs_out _ _ _ h]
theorem grown_setCell (w : World) (a : Addr) (u : Value) : w.grownBy (w.setCell a u) (some a.block) :=
 ⟨rfl, rfl, rfl, by simp [World.setCell], fun k _ hne => heap_setCell_other w a k u (fun e => hne (by rw [e]))⟩
structure PI (w : World) (gt gm : Nat) (f : Nat → Int) (v vr : Value) (bs : List (List Int)) (n : Nat) (D : DataW Unit) (W : World) : Prop where
 tab : W.heap[gt]? = some (.cells (tcs f v).toArray 54)
 row : W.ownsRow w.heap.size 57 256 vr bs.length (bs.flatMap bcs)
 map : W.ownsMap Try.prog 57 (plainElem Try.prog 3) gm n D
 bel : Below w.heap.size w W
 gtb : w.heap.size ≤ gt
 gmb : w.heap.size ≤ gm
section
variable {w : World} {gt gm : Nat} {f : Nat → Int} {v vr : Value} {bs : List (List Int)} {n : Nat} {D : DataW Unit} {W : World}
theorem PI.gt_lt (h : PI w gt gm f v vr bs n D W) : gt < W.heap.size := (Array.getElem?_eq_some_iff.1 h.tab).1
theorem PI.gm_lt (h : PI w gt gm f v vr bs n D W) : gm < W.heap.size := h.map.lt
theorem PI.gm_ne (h : PI w gt gm f v vr bs n D W) : gm ≠ gt := by
 rintro rfl
 obtain ⟨es, c, hb, _⟩ := h.map; rw [h.tab] at hb; cases hb
theorem PI.row_ne (h : PI w gt gm f v vr bs n D W) : vr.ownBlock ≠ some gt := by
 intro e
 obtain ⟨cs, hc⟩ := own_typed h.row gt e; rw [h.tab] at hc; injection hc with hc
 injection hc with _ ht
 exact absurd ht (by decide)
theorem PI.row_ne2 (h : PI w gt gm f v vr bs n D W) : vr.ownBlock ≠ some gm := by
 intro e
 obtain ⟨cs, hc⟩ := own_typed h.row gm e; obtain ⟨es, c, hb, _⟩ := h.map; rw [hb] at hc; cases hc
theorem PI.grown (h : PI w gt gm f v vr bs n D W) {W' : World} {g : Nat} (hg : W.grownBy W' (some g)) (h1 : g ≠ gt) (h2 : g ≠ gm) (h3 : vr.ownBlock ≠ some g) (h4 : w.heap.size ≤ g) : PI w gt gm f v vr bs n D W' :=
 ⟨(hg.block gt h.gt_lt (fun e => h1 (Option.some.inj e).symm)).trans h.tab, h.row.kept hg (.inr h3), h.map.kept hg (fun e => h2 (Option.some.inj e).symm), pw_below_grown h.bel _ h.bel.size hg (fun k e => by obtain rfl := Option.some.inj e; exact h4), h.gtb, h.gmb⟩
theorem PI.fresh (h : PI w gt gm f v vr bs n D W) {W' : World} {g : Nat} (hg : W.grownBy W' (some g)) (hn : W.heap.size ≤ g) : PI w gt gm f v vr bs n D W' :=
 h.grown hg (fun e => by have := h.gt_lt; omega) (fun e => by have := h.gm_lt; omega) (fun e => by have := own_lt h.row _ e; omega) (Nat.le_trans h.bel.size hn)
theorem PI.alloc (h : PI w gt gm f v vr bs n D W) (o : Obj) : PI w gt gm f v vr bs n D (W.alloc o) := h.fresh (World.grownBy_alloc W o _) (Nat.le_refl _)
theorem PI.drewN (h : PI w gt gm f v vr bs n D W) (m : Nat) : PI w gt gm f v vr bs n D (W.drewN m) := ⟨h.tab, h.row, h.map, pw_below_drewN h.bel m, h.gtb, h.gmb⟩
theorem PI.drew (h : PI w gt gm f v vr bs n D W) : PI w gt gm f v vr bs n D W.drew := ⟨h.tab, h.row, h.map, below_drew h.bel, h.gtb, h.gmb⟩
theorem PI.setf (h : PI w gt gm f v vr bs n D W) (i : Nat) (hi : i < 4352) (x : Int) : PI w gt gm (fun m => if m = i then x else f m) v vr bs n D (W.setCell ⟨gt, i, none⟩ (.int .i64 x)) :=
 have hg := grown_setCell W ⟨gt, i, none⟩ (.int .i64 x)
 ⟨(heap_setCell_same W gt i _ 54 _ h.tab).trans (by rw [List.setIfInBounds_toArray, tcs_set f v i hi x]), h.row.kept hg (.inr h.row_ne), h.map.kept hg (fun e => h.gm_ne (Option.some.inj e)), pw_below_grown h.bel _ h.bel.size hg (fun k e => by obtain rfl := Option.some.inj e; exact h.gtb), h.gtb, h.gmb⟩
theorem PI.setv (h : PI w gt gm f v vr bs n D W) : PI w gt gm f vr vr bs n D (W.setCell ⟨gt, 4352, none⟩ vr) :=
 have hg := grown_setCell W ⟨gt, 4352, none⟩ vr
 ⟨(heap_setCell_same W gt 4352 _ 54 _ h.tab).trans (by rw [List.setIfInBounds_toArray, tcs_setv]), h.row.kept hg (.inr h.row_ne), h.map.kept hg (fun e => h.gm_ne (Option.some.inj e)), pw_below_grown h.bel _ h.bel.size hg (fun k e => by obtain rfl := Option.some.inj e; exact h.gtb), h.gtb, h.gmb⟩
theorem PI.append (h : PI w gt gm f v vr bs n D W) {W' : World} {vn : Value} {b : List Int} (hg : W.grownBy W' vr.ownBlock) (ho : W'.ownsRow w.heap.size 57 256 vn (bs ++ [b]).length ((bs ++ [b]).flatMap bcs)) : PI w gt gm f v vn (bs ++ [b]) n D W' :=
 ⟨(hg.block gt h.gt_lt (fun e => h.row_ne e.symm)).trans h.tab, ho, h.map.kept hg (fun e => h.row_ne2 e.symm), pw_below_grown h.bel _ h.bel.size hg (fun k e => own_base h.row k e), h.gtb, h.gmb⟩
theorem PI.put (h : PI w gt gm f v vr bs n D W) {W' : World} {n' : Nat} {D' : DataW Unit} (hg : W.grownBy W' (some gm)) (hm : W'.ownsMap Try.prog 57 (plainElem Try.prog 3) gm n' D') : PI w gt gm f v vr bs n' D' W' :=
 ⟨(hg.block gt h.gt_lt (fun e => h.gm_ne (Option.some.inj e).symm)).trans h.tab, h.row.kept hg (.inr h.row_ne2), hm, pw_below_grown h.bel _ h.bel.size hg (fun k e => by obtain rfl := Option.some.inj e; exact h.gmb), h.gtb, h.gmb⟩
theorem PI.more (h : PI w gt gm f v vr bs n D W) {m : Nat} (hm : n ≤ m) : PI w gt gm f v vr bs m D W := ⟨h.tab, h.row, h.map.mono hm, h.bel, h.gtb, h.gmb⟩
theorem PI.ext (h : PI w gt gm f v vr bs n D W) {g : Nat → Int} (e : ∀ m, m < 4352 → f m = g m) : PI w gt gm g v vr bs n D W := ⟨by rw [← tcs_ext v e]; exact h.tab, h.row, h.map, h.bel, h.gtb, h.gmb⟩
end
theorem prop_Make.infoB : (Try.prog.info? 57).map (fun i => (i.zero, i.size, i.bytes)) = some (some (bag zerosR), 256, 256) := by kernel_rfl
theorem prop_Make.run_slice (w : World) {b : List Int} (hb : b.length = 256) : (Instr.buildSlice 51 1 #[(0, bag b)]).run Try.prog w = .ok (.slice (some ⟨w.heap.size, 0, none⟩) 1 1) (w.alloc (.cells (bcs b).toArray 57)) := by
 obtain ⟨i0, hi, hz0, hz1, hz2⟩ := info_parts prop_Make.infoB; have hbs : (bag b).cells.size = 256 := by unfold bag; show (bcs b).toArray.size = 256; rw [List.size_toArray, bcs_len, hb]
 refine run_buildSlice (P := Try.prog) w 51 57 1 #[(0, bag b)] (bcs b).toArray i0 (bag zerosR) Try.underlying51 hi hz0 (by rw [hz1]; decide) (by rw [hz1]; decide) ?_
 rw [hz1]; have h := Great.fill_whole (s := 256) (by decide) [bag b] ((Array.range (1 * 256)).map ((bag zerosR).cells[· % (bag zerosR).cells.size]!)) (fun v hv => by rw [List.mem_singleton.1 hv]; exact hbs) (by simp)
 refine h.trans ?_
 simp [bag, Value.cells]
section
variable {P : Program} {ops : Array Oper} {o : Oper} {a : Act} {Q : Exit → Act → World → Prop} {K : Act → World → Prop}
theorem load_run {w : World} (ty : TypeId) (x : Operand) (ho : o.op = .load ty x) (g : Nat) (hx : a.eval x = .pointer (some ⟨g, 0, none⟩)) (t : TypeId) (cs : Array Value) (fr : Nat × Nat) (d : TypeDesc) (hg : w.heap[g]? = some (.cells cs t fr))
  (hu : P.underlying ty = some d) (hd : (match d with | .struct _ | .array _ _ => true | _ => false) = true) (hi : (P.info? ty).map (·.size) = some cs.size) : (execOp a.eval o).run P w = .ok (.value (.agg cs)) w := by
 unfold execOp
 simp only [ho, hx, Instr.loadAt, Instr.sureAddr, Sem.run_bind, Sem.run_pure, Result.andThen_ok, run_loadVar_row w g t ty cs fr d hg hu hd hi]
theorem slice_run {w : World} {v r : Value} {w1 : World} (t : TypeId) (x : Operand) (ho : o.op = .buildSlice t 1 #[(0, x)]) (hx : a.eval x = v) (h : (Instr.buildSlice t 1 #[(0, v)]).run P w = .ok r w1) : (execOp a.eval o).run P w = .ok (.value r) w1 := by
 unfold execOp
 simp only [ho, List.map_toArray, List.map_cons, List.map_nil, Sem.run_bind, hx, h]; rfl
theorem step_append_cb {w0 W : World} {cb : Array Value} {ys : List Value} (hcb : cb = ys.toArray) (base : Nat) (hw : Region.wanted o (yielded ops a.tmps) = true) (s x : Operand) (t e : TypeId) (z : Value) (size bytes : Nat)
  (ho : o.op = .call { callee := .builtin .append, args := #[s, x], argTypes := #[t, t] })
  (ht : P.underlying t = some (.slice e)) (hinfo : (P.info? e).map (fun i => (i.zero, i.size, i.bytes)) = some (some z, size, bytes)) (hz : z.cells.size = size) (hs0 : 0 < size) (hb0 : 0 < bytes)
  (v : Value) (n : Nat) (xs : List Value) (hs : a.eval s = v) (hx : a.eval x = .slice (some ⟨W.heap.size, 0, none⟩) 1 1) (hys : ys.length = size) (h1 : ∀ u ∈ ys, u.oneCell' = true)
  (HO : W.ownsRow base e size v n xs) (HB : Below base w0 W) (hbase : base ≤ W.heap.size) (hl : (n + 1) * bytes ≤ 140737488355328)
  (h : ∀ v1 w1, w1.ownsRow base e size v1 (n + 1) (xs ++ ys) → Below base w0 w1 → W.grownBy w1 v.ownBlock → (v1.ownBlock = v.ownBlock ∨ ∃ b, v1.ownBlock = some b ∧ W.heap.size ≤ b) → K (a.put o.dst v1) w1) :
  if Region.wanted o (yielded ops a.tmps) = true then Oper.wp P o a (W.alloc (.cells cb e)) K Q else K (a.put o.dst undef) (W.alloc (.cells cb e)) := by
 subst hcb; exact step_append_cells base hw s x t e z size bytes ho ht hinfo hz hs0 hb0 v n xs ys hs hx hys h1 HO HB hbase hl h
end
theorem bcs_one (b : List Int) : ∀ u ∈ bcs b, u.oneCell' = true := by
 intro u hu
 obtain ⟨x, _, rfl⟩ := List.mem_map.1 hu; rfl
theorem bcs_snoc (bs : List (List Int)) (b : List Int) : bs.flatMap bcs ++ bcs b = (bs ++ [b]).flatMap bcs := by rw [List.flatMap_append, List.flatMap_singleton]
theorem grown_refl (w : World) (row : Option Nat) : w.grownBy w row := ⟨rfl, rfl, rfl, Nat.le_refl _, fun _ _ _ => rfl⟩
def preR (L : List (Int × Int × Int)) (i n : Nat) : List Int := (List.range 256).map fun (j : Nat) => ofR (L.take n) ((i : Int) * 256 + (j : Int))
def midR (L : List (Int × Int × Int)) (i n : Nat) (lo hi tv r : Int) : List Int := (List.range 256).map fun (j : Nat) => if lo ≤ (i : Int) * 256 + (j : Int) ∧ (i : Int) * 256 + (j : Int) < r ∧ (i : Int) * 256 + (j : Int) ≤ hi then tv else ofR (L.take n) ((i : Int) * 256 + (j : Int))
theorem map_range_congr {f g : Nat → Int} (h : ∀ j, j < 256 → f j = g j) : (List.range 256).map f = (List.range 256).map g := List.map_congr_left (fun j hj => h j (List.mem_range.1 hj))
theorem preR_zero {L : List (Int × Int × Int)} {i k : Nat} (h : ∀ m y, m < k → L[m]? = some y → y.2.1 < (i : Int) * 256) : preR L i k = zerosR := by
 have e : zerosR = (List.range 256).map fun _ => 0 := by unfold zerosR; rw [List.map_const', List.length_range]
 rw [e]; refine map_range_congr fun j hj => ofR_none _ fun y hy => ?_
 obtain ⟨m, hm⟩ := List.mem_iff_getElem?.1 hy; rw [List.getElem?_take] at hm; split at hm
 ·have := h m y (by assumption) hm
  omega
 cases hm
theorem preR_len {L : List (Int × Int × Int)} {i n : Nat} (h : L.length = n) : preR L i n = rowR L i := by
 unfold preR rowR
 rw [List.take_of_length_le (by omega)]
theorem preR_stop {L : List (Int × Int × Int)} {i n : Nat} {most : Int} {y : Int × Int × Int} (hc : chkGo most (-1) L = true) (hy : L[n]? = some y) (h : (i : Int) * 256 + 255 < y.1) : preR L i n = rowR L i := by
 refine map_range_congr fun j hj => (ofR_stop _ fun m z hm hz => ?_).symm
 have h1 := chkGo_get hc m z hz; rcases Nat.eq_or_lt_of_le hm with e | e
 ·subst e
  rw [hy] at hz; obtain rfl := Option.some.inj hz
  omega
 have h2 := chkGo_lt hc n m y z e hy hz; have h3 := chkGo_get hc n y hy; omega
theorem midR_start {L : List (Int × Int × Int)} {i n : Nat} {lo hi tv r : Int} (h : r ≤ lo ∨ r ≤ (i : Int) * 256) : midR L i n lo hi tv r = preR L i n := map_range_congr fun j hj => if_neg (by omega)
theorem midR_end {L : List (Int × Int × Int)} {i n : Nat} {lo hi tv r : Int} (hy : L[n]? = some (lo, hi, tv)) (h : hi < r ∨ (i : Int) * 256 + 255 < r) : midR L i n lo hi tv r = preR L i (n + 1) :=
 map_range_congr fun j hj => by
  rw [ofR_take hy]; by_cases e : lo ≤ (i : Int) * 256 + (j : Int) ∧ (i : Int) * 256 + (j : Int) ≤ hi
  ·rw [if_pos ⟨e.1, by omega, e.2⟩, if_pos e]
  ·rw [if_neg (fun h => e ⟨h.1, h.2.2⟩), if_neg e]
theorem midR_set {L : List (Int × Int × Int)} {i n : Nat} {lo hi tv r : Int} (h1 : lo ≤ r) (h2 : (i : Int) * 256 ≤ r) (h3 : r ≤ hi) (h4 : r ≤ (i : Int) * 256 + 255) : (midR L i n lo hi tv r).set (r - (i : Int) * 256).toNat tv = midR L i n lo hi tv (r + 1) := by
 apply List.ext_getElem?
 intro j
 unfold midR
 rw [List.getElem?_set, List.length_map, List.length_range]; by_cases hj : j < 256
 rotate_left
 ·rw [List.getElem?_eq_none (l := List.map _ _) (by rw [List.length_map, List.length_range]; omega), List.getElem?_eq_none (l := List.map _ _) (by rw [List.length_map, List.length_range]; omega)]
  split
  ·split
   ·omega
   rfl
  rfl
 rw [List.getElem?_map, List.getElem?_map, List.getElem?_range hj]; simp only [Option.map_some]; by_cases e : (r - (i : Int) * 256).toNat = j
 ·rw [if_pos e, if_pos (by omega), if_pos (by omega)]
 rw [if_neg e]; congr 1
 by_cases e2 : lo ≤ (i : Int) * 256 + (j : Int) ∧ (i : Int) * 256 + (j : Int) < r ∧ (i : Int) * 256 + (j : Int) ≤ hi
 ·rw [if_pos e2, if_pos (by omega)]
 rw [if_neg e2, if_neg (by omega)]
theorem midR_len (L : List (Int × Int × Int)) (i n : Nat) (lo hi tv r : Int) : (midR L i n lo hi tv r).length = 256 := by unfold midR; rw [List.length_map, List.length_range]
theorem bcs_set (b : List Int) (q : Nat) (x : Int) : (bcs b).set q (.int .u8 x) = bcs (b.set q x) := by unfold bcs; rw [List.map_set]
theorem to_lt {a b : Int} (h : a < b) (h0 : 0 < b) : a.toNat < b.toNat := by omega
theorem rowR_byt {L : List (Int × Int × Int)} {most last : Int} (h : chkGo most last L = true) (i : Nat) : Byt (rowR L i) := ⟨rowR_len L i, fun c hc => by
 obtain ⟨j, _, rfl⟩ := List.mem_map.1 hc; exact ofR_byte h _⟩
theorem zerosR_byt : Byt zerosR := ⟨zerosR_len, fun c hc => by rw [List.eq_of_mem_replicate hc]; omega⟩
theorem prop_Make.guard (x y : Operand) (a b : Array Value) (w : World) : (eqGuard .eql 57 x y (.agg a) (.agg b)).run Try.prog w = .ok () w := by
 have h : Try.prog.eqGuardType Try.prog.depth 57 = false := by kernel_rfl
 unfold eqGuard
 simp [Sem.run_bind, h]
theorem prop_Make.eql (x y : Operand) {a b : List Int} (ha : Byt a) (hb : Byt b) (w : World) : (do eqGuard .eql 57 x y (bag a) (bag b); binOp .eql 57 (bag a) (bag b) : Sem Value).run Try.prog w = .ok (.bool (decide (a = b))) w := by
 rw [Sem.run_bind, show Sem.run Try.prog (eqGuard .eql 57 x y (bag a) (bag b)) w = .ok () w from prop_Make.guard ..]; show ((do pure (.bool (← Op.equal 57 (bag a) (bag b))) : Sem Value).run Try.prog w) = _
 rw [Sem.run_bind, prop_Make.eq_run w ha hb]; rfl
theorem zerosR_mem (L : List (Int × Int × Int)) (i : Nat) : zerosR ∈ blR L i := by
 obtain ⟨t, ht⟩ := blR_head L i; rw [ht]; simp
theorem ixR_skip {L : List (Int × Int × Int)} {i m : Nat} (hz : rowR L i = zerosR) : (if m < i then (ixR L m : Int) else 0) = if m < i + 1 then (ixR L m : Int) else 0 := by
 by_cases h : m < i
 ·rw [if_pos h, if_pos (by omega)]
 by_cases h2 : m = i
 ·subst h2
  rw [if_neg h, if_pos (by omega), ixR_zero hz]
  rfl
 rw [if_neg h, if_neg (by omega)]
theorem ixR_step {L : List (Int × Int × Int)} {i m : Nat} {x : Int} (hx : (ixR L i : Int) = x) : (if m = i then x else if m < i then (ixR L m : Int) else 0) = if m < i + 1 then (ixR L m : Int) else 0 := by
 by_cases h : m < i
 ·rw [if_neg (by omega), if_pos h, if_pos (by omega)]
 by_cases h2 : m = i
 ·subst h2
  rw [if_pos rfl, if_pos (by omega), hx]
 rw [if_neg h2, if_neg h, if_neg (by omega)]
theorem bag_size : (bag zerosR).cells.size = 256 := by
 show (bcs zerosR).toArray.size = 256
 rw [List.size_toArray, bcs_len, zerosR_len]
theorem flat_get : ∀ (bs : List (List Int)), (∀ b ∈ bs, b.length = 256) → ∀ (j q : Nat), j < bs.length → q < 256 → (bs.flatMap bcs)[j * 256 + q]? = some (.int .u8 ((bs.getD j []).getD q 0))
 | [], _, j, _, hj, _ => by simp at hj
 | b :: bs, h, j, q, hj, hq => by
  have hb := h b (by simp)
  rw [List.flatMap_cons]; cases j with
  | zero =>
   have hl : q < (bcs b).length := by rw [bcs_len, hb]; exact hq
   rw [Nat.zero_mul, Nat.zero_add, List.getElem?_append_left hl, List.getElem?_eq_getElem hl, bcs_get b q hl]; rfl
  | succ j =>
   rw [List.getElem?_append_right (by rw [bcs_len, hb]; omega), bcs_len, hb, show (j + 1) * 256 + q - 256 = j * 256 + q by omega, flat_get bs (fun b hb => h b (by simp [hb])) j q (by simpa using hj) hq]
   rfl
theorem PI.start {w w1 w2 : World} {zb : Array Value} {tc : Value → Array Value} {gt : Nat} (hzb : zb = (bcs zerosR).toArray) (htc : ∀ v, (tcs (fun _ => 0) v).toArray = tc v) (hb1 : Below w.heap.size w w1) (hgt : gt = (w1.alloc (.cells zb 57)).heap.size)
  (hc : w2.heap[gt]? = some (.cells (tc (.slice (some ⟨w1.heap.size, 0, none⟩) 1 1)) 54)) (hbt : Below (w1.alloc (.cells zb 57)).heap.size (w1.alloc (.cells zb 57)) w2) :
  PI w gt w2.heap.size (fun _ => 0) (.slice (some ⟨w1.heap.size, 0, none⟩) 1 1) (.slice (some ⟨w1.heap.size, 0, none⟩) 1 1) [zerosR] 0 (.map []) (w2.alloc (.map #[] 0)) := by
 have hb2 : Below w.heap.size w w2 := below_then (below_alloc hb1 _) (Nat.le_trans hb1.size (by simp)) hbt
 have hr : (w1.alloc (.cells zb 57)).ownsRow w.heap.size 57 256 (.slice (some ⟨w1.heap.size, 0, none⟩) 1 1) [zerosR].length ([zerosR].flatMap bcs) := by
  have := World.ownsRow_lit (base := w.heap.size) (e := 57) (size := 256) w1 zb 1 hb1.size (by decide) (by rw [hzb, List.size_toArray, bcs_len]; exact zerosR_len)
  rw [hzb] at this ⊢; simpa using this
 refine ⟨?_, (pw_own_below hr hbt).alloc _, World.ownsMap_made _ _ _ _, below_alloc hb2 _, by rw [hgt]; exact Nat.le_trans hb1.size (by simp), hb2.size⟩
 rw [htc]; exact (heap_alloc_old w2 (.map #[] 0) (Array.getElem?_eq_some_iff.1 hc).1).trans hc
theorem PI.done {w : World} {gt gm : Nat} {L : List (Int × Int × Int)} {v : Value} {D : DataW Unit} {W : World} {m : Int} (hm : chkGo m (-1) L = true) (h : PI w gt gm (fun m => if m < 4352 then (ixR L m : Int) else 0) v v (blR L 4352) 4352 D W) :
  ∃ (g1 : Nat) (o1 : Obj) (g2 : Nat) (o2 : Obj), (Ending.returned (.tuple #[.pointer (some ⟨gt, 0, none⟩), .int .i64 0])) = .returned (.tuple #[.pointer (some ⟨g1, 0, none⟩), .int .i64 0]) ∧ W.heap[g1]? = some o1 ∧ W.heap[g2]? = some o2 ∧ w.heap.size ≤ g1 ∧ w.heap.size ≤ g2 ∧ g1 ≠ g2 ∧ TabO (.pointer (some ⟨g1, 0, none⟩)) g1 o1 g2 o2 (some L) ∧ Below w.heap.size w W := by
 rcases h.row.2 with ⟨_, h0⟩ | ⟨g, cap, cur, rfl, hb, hg, hle, _, hsz, htake⟩
 ·have := blR_ne L 4352
  omega
 refine ⟨gt, _, g, _, rfl, h.tab, hg, h.gtb, hb, fun e => h.row_ne (by rw [e]; rfl), ⟨L, rfl, rfl, 54, 57, (0, 0), (0, 0), (tcs (fun m => if m < 4352 then (ixR L m : Int) else 0) (.slice (some ⟨g, 0, none⟩) (blR L 4352).length cap)).toArray, cur, cap, rfl, rfl, ?_, ?_, ?_, fun r => ofR_byte hm r⟩, h.bel⟩
 ·intro i hi
  rw [List.getElem?_toArray, tcs_get _ _ _ hi, if_pos hi]
 ·rw [List.getElem?_toArray, tcs_last]
 intro j q hj hq
 have h1 : (cur.toList.take ((blR L 4352).length * 256))[j * 256 + q]? = ((blR L 4352).flatMap bcs)[j * 256 + q]? := by rw [htake]
 have hlt : j * 256 + q < (blR L 4352).length * 256 := by
  have : (j + 1) * 256 ≤ (blR L 4352).length * 256 := Nat.mul_le_mul_right _ hj
  omega
 rw [List.getElem?_take, if_pos hlt, Array.getElem?_toList] at h1; rw [h1, flat_get (blR L 4352) (blR_256 L 4352) j q hj hq]
theorem prop_Make.at (l : List S33) (m : Nat) (h : m < l.length) : (l.map prop_Make.t)[m]? = some ((rd_T33 l (m : Int)).f0, (rd_T33 l (m : Int)).f1, (rd_T33 l (m : Int)).f2) := by
 unfold rd_T33
 rw [List.getElem?_map, List.getElem?_eq_getElem h, List.getD_eq_getElem?_getD, Int.toNat_natCast, List.getElem?_eq_getElem h]; rfl
set_option maxHeartbeats 400000 in
set_option maxRecDepth 100000 in
theorem prop_MakeY.calls (A0 : Option Addr) (c0 : Nat) (l0 : List S33) (a1 : Int) (r : Option (List (Int × Int × Int))) (w : World) (hr0 : Kd.C k33 w A0 l0.length l0) (hc0 : l0.length ≤ c0) (h : prop_MakeY.f l0 a1 = some r) :
  Calls Try.prog 11 #[.slice A0 l0.length c0, .int .i64 a1] w fun e w' => ∃ (g1 : Nat) (o1 : Obj) (g2 : Nat) (o2 : Obj), e = .returned (.tuple #[.pointer (some ⟨g1, 0, none⟩), .int .i64 0]) ∧ w'.heap[g1]? = some o1 ∧ w'.heap[g2]? = some o2 ∧ w.heap.size ≤ g1 ∧ w.heap.size ≤ g2 ∧ g1 ≠ g2 ∧ TabO (.pointer (some ⟨g1, 0, none⟩)) g1 o1 g2 o2 r ∧ Below w.heap.size w w' := by
 obtain ⟨k, hk⟩ := prop_Make.check l0 a1; have hf : prop_Make.c l0 a1 = true ∧ r = some (l0.map prop_Make.t) := by
  unfold prop_MakeY.f at h
  split at h
  ·exact ⟨by assumption, (Option.some.inj h).symm⟩
  ·cases h
 obtain ⟨hf, rfl⟩ := hf; rw [hf] at hk; have HF : Aside0 (chkGo a1 (-1) (l0.map prop_Make.t) = true) := ⟨chkR_go hf⟩
 have HLEN : Aside0 (l0.length ≤ 256) := ⟨by have := chkR_len hf; rwa [List.length_map] at this⟩
 clear h hf; obtain ⟨L, hL⟩ : ∃ L, L = l0.map prop_Make.t := ⟨_, rfl⟩; rw [← hL] at HF ⊢; have HL : Aside0 (∀ m, m < l0.length → L[m]? = some ((rd_T33 l0 (m : Int)).f0, (rd_T33 l0 (m : Int)).f1, (rd_T33 l0 (m : Int)).f2)) := ⟨fun m hm => by rw [hL]; exact prop_Make.at l0 m hm⟩
 have HLL : Aside0 (L.length = l0.length) := ⟨by rw [hL, List.length_map]⟩
 clear hL; have HR0 := Aside0.mk hr0; clear hr0; have hmm := @run_makeMap Try.prog; have hR1 := prop_Make.run_make; have hR2 := prop_Make.run_build; have hR3 := prop_Make.run_zv; have hR4 := prop_Make.run_zero; obtain ⟨zb, hzb⟩ : ∃ zb, zb = (bcs zerosR).toArray := ⟨_, rfl⟩; obtain ⟨tc, htc⟩ : ∃ tc : Value → Array Value, ∀ v, (tcs (fun _ => 0) v).toArray = tc v := ⟨_, fun _ => rfl⟩
 rw [show bag zerosR = .agg (bcs zerosR).toArray from rfl] at hR3; rw [← hzb] at hR1 hR3 hR4; replace hR2 : ∀ (a : Option Addr) (n c : Nat) (w : World), (Instr.build 54 #[(1, .slice a n c)]).run Try.prog w = .ok (.agg (tc (.slice a n c))) w := fun a n c w => by rw [← htc]; exact hR2 a n c w
 have HZB := Aside0.mk hzb; have HTC := Aside0.mk htc; clear hzb htc; go_enter Try.func11, Try.ntmps11
 go_wp2_with (first | (go_at_call 12; refine (prop_Check.calls k A0 c0 l0 a1 true w HR0.out hc0 hk).mono ?_; rintro e w1 ⟨rfl, hb1⟩) | ((with_reducible refine gate_dst (N := 21) rfl ?_); refine Kd.event_run rfl (v := .slice (some ⟨w1.heap.size, 0, none⟩) 1 1) (w1 := w1.alloc (.cells zb 57)) ?hr1 ?_; (case hr1 => show (Sem.run Try.prog (do pure (Next.value (← Instr.makeSlice 51 (.int .i64 1) (.int .i64 1)))) _) = _; rw [Sem.run_bind, hR1]; rfl)) | ((with_reducible refine gate_dst (N := 22) rfl ?_); refine Kd.event_run rfl (v := .agg (tc (.slice (some ⟨w1.heap.size, 0, none⟩) 1 1))) (w1 := w1.alloc (.cells zb 57)) ?hr2 ?_; (case hr2 => simp only [execOp, List.map_toArray, List.map_cons, List.map_nil, Sem.run_bind]; rw [show Act.eval _ (Operand.tmp 21) = Value.slice (some ⟨w1.heap.size, 0, none⟩) 1 1 from rfl, hR2]; rfl)) | ((with_reducible refine gate_dst (N := 23) rfl ?_); refine box_event rfl (N := 23) rfl (cs := tc (.slice (some ⟨w1.heap.size, 0, none⟩) 1 1)) (t := 54) ?hr3 ?_; (case hr3 => first | (go_simp; done) | (go_simp; rfl)); intro gt hgt w2 hgt2 hbt; have HP := Aside0.mk (PI.start HZB.out HTC.out hb1 hgt hgt2 hbt); clear hgt hgt2 hbt hb1))
 clear hR1 hR2 hmm HTC hk hc0; generalize w2.alloc (Obj.map #[] 0) = W0 at HP ⊢
 generalize w2.heap.size = gm at HP ⊢
 go_loopw [8, 25] (fun v8 v25 wr => ∃ (i k : Nat) (v : Value) (D : DataW Unit), v25 = .int .i64 (i : Int) ∧ v8 = .int .i64 (k : Int) ∧ i ≤ 4352 ∧ k ≤ l0.length ∧ Aside0 (∀ m y, m < k → L[m]? = some y → y.2.1 < (i : Int) * 256) ∧ Aside0 (PI w gt gm (fun m => if m < i then (ixR L m : Int) else 0) v v (blR L i) i D wr) ∧ Aside0 (SeenR Try.prog 57 D (blR L i))) (fun _ v25 _ => 4352 - (intOf v25).toNat)
 case atStart => exact ⟨0, 0, _, _, rfl, rfl, by omega, by omega, ⟨fun m _ hm => by omega⟩, HP, ⟨SeenR.start⟩⟩
 obtain ⟨i, k, v, D, rfl, rfl, hi, hk, HK, HP2, HS⟩ := hrel; clear HP; by_cases hlt : i < 4352
 rotate_left
 ·obtain rfl : i = 4352 := by omega
  go_wp2
  go_ret2
  exact PI.done HF.out HP2.out
 have bi : decide ((i : Int) < 4352) = true := decide_eq_true (by omega)
 go_upto_block 2 with (first | ((with_reducible refine gate_dst (N := 12) rfl ?_); refine box_event rfl (N := 12) rfl (cs := zb) (t := 57) ?hr4 ?_; (case hr4 => first | (go_simp; done) | (go_simp; rfl)); intro gb hgb w3 hgb2 hb3; have HP3 := Aside0.mk (HP2.out.fresh (grown_of_below hb3 (some gb)) (by rw [hgb]; exact Nat.le_refl _)); have HGB := Aside0.mk hgb2; have HNB := Aside0.mk (show gb ≠ gt ∧ gb ≠ gm ∧ v.ownBlock ≠ some gb ∧ w.heap.size ≤ gb from ⟨fun e => by have := HP2.out.gt_lt; omega, fun e => by have := HP2.out.gm_lt; omega, fun e => by have := own_lt HP2.out.row _ e; omega, by rw [hgb]; exact HP2.out.bel.size⟩); clear hgb hgb2 hb3 HP2))
 (try simp only [Act.put, sA_, sB_, sC_])
 go_cut [8] (fun v8 wc => ∃ k : Nat, v8 = .int .i64 (k : Int) ∧ k ≤ l0.length ∧ Aside0 (∀ m y, m < k → L[m]? = some y → y.2.1 < (i : Int) * 256) ∧ w3 = wc)
 case first =>
  go_wp2
  go_loop [8] (fun v8 => ∃ k : Nat, v8 = .int .i64 (k : Int) ∧ k ≤ l0.length ∧ Aside0 (∀ m y, m < k → L[m]? = some y → y.2.1 < (i : Int) * 256)) (fun v8 => l0.length - (intOf v8).toNat)
  case atStart => exact ⟨k, rfl, hk, HK⟩
  clear hk HK; obtain ⟨k, rfl, hk, HK⟩ := hrel; by_cases hkl : k < l0.length
  rotate_left
  ·go_wp2
   go_meet
   case rel => exact ⟨k, rfl, hk, HK, rfl⟩
  obtain ⟨ad, rfl, x0, x1, x2⟩ := at_T33 (Kd.zG HR0.out HP3.out.bel) (k : Int) (by omega) (by omega)
  have hLk := Aside0.mk (HL.out k hkl); simp only [Int.toNat_natCast] at x0 x1 x2; generalize rd_T33 l0 (k : Int) = y at x0 x1 x2 hLk
  clear x0 x2; have hlen := HLEN.out; have b1 : decide ((k : Int) < (l0.length : Int)) = true := decide_eq_true (by omega)
  by_cases hh : y.f1 < (i : Int) * 256
  rotate_left
  ·have b2 : decide (y.f1 < (i : Int) * 256) = false := decide_eq_false hh
   go_wp2
   go_meet
   case rel => exact ⟨k, rfl, hk, HK, rfl⟩
  have b2 : decide (y.f1 < (i : Int) * 256) = true := decide_eq_true hh
  go_wp2
  go_round
  case rel => exact ⟨k + 1, by go_num, by omega, ⟨fun m z hm hz => by
   rcases Nat.lt_or_ge m k with h1 | h1
   ·exact HK.out m z h1 hz
   ·obtain rfl : m = k := by omega
    rw [hLk.out] at hz; obtain rfl := Option.some.inj hz
    exact hh⟩⟩
  case measure => simp [intOf]; omega
 clear hk HK; obtain ⟨k, rfl, hk, HK, rfl⟩ := hcut; go_upto_block 4 with (fail)
 (try simp only [Act.put, sA_, sB_, sC_])
 go_cut [] (fun wc => Aside0 (w3.grownBy wc (some gb)) ∧ Aside0 (wc.heap[gb]? = some (.cells (bcs (rowR L i)).toArray 57)))
 case first =>
  go_wp2
  go_loopw [13] (fun v13 wr => ∃ n : Nat, v13 = .int .i64 (n : Int) ∧ k ≤ n ∧ n ≤ l0.length ∧ Aside0 (w3.grownBy wr (some gb)) ∧ Aside0 (wr.heap[gb]? = some (.cells (bcs (preR L i n)).toArray 57))) (fun v13 _ => l0.length - (intOf v13).toNat)
  case atStart => exact ⟨k, rfl, Nat.le_refl _, hk, ⟨grown_refl _ _⟩, ⟨by rw [preR_zero HK.out, ← HZB.out]; exact HGB.out⟩⟩
  obtain ⟨n, rfl, hkn, hn, HG, HB⟩ := hrel; have HBL := Aside0.mk (pw_below_grown HP3.out.bel (some gb) HP3.out.bel.size HG.out (fun q e => by obtain rfl := Option.some.inj e; exact HNB.out.2.2.2))
  by_cases hnl : n < l0.length
  rotate_left
  ·obtain rfl : n = l0.length := by omega
   go_wp2
   go_meet
   case rel => exact ⟨HG, ⟨by rw [← preR_len HLL.out]; exact HB.out⟩⟩
  obtain ⟨ad, rfl, x0, x1, x2⟩ := at_T33 (Kd.zG HR0.out HBL.out) (n : Int) (by omega) (by omega)
  have hLn := Aside0.mk (HL.out n hnl); simp only [Int.toNat_natCast] at x0 x1 x2; have hch := chkGo_get HF.out n _ hLn.out; obtain ⟨y, hy⟩ : ∃ y, rd_T33 l0 (n : Int) = y := ⟨_, rfl⟩; rw [hy] at x0 x1 x2 hLn hch; have HY := Aside0.mk hy; clear hy; simp only at hch
  obtain ⟨hc1, hc2, hc3, hc4, _, hc5⟩ := hch; have hlen := HLEN.out; have b1 : decide ((n : Int) < (l0.length : Int)) = true := decide_eq_true (by omega)
  by_cases hh : y.f0 ≤ (i : Int) * 256 + 255
  rotate_left
  ·have b2 : decide (y.f0 ≤ (i : Int) * 256 + 255) = false := decide_eq_false hh
   clear x1 x2; go_wp2
   go_meet
   case rel => exact ⟨HG, ⟨by rw [← preR_stop HF.out hLn.out (by omega)]; exact HB.out⟩⟩
  have b2 : decide (y.f0 ≤ (i : Int) * 256 + 255) = true := decide_eq_true hh
  go_upto_block 5 with (fail)
  (try simp only [Act.put, sA_, sB_, sC_])
  go_cut [] (fun wc => Aside0 (w3.grownBy wc (some gb)) ∧ Aside0 (wc.heap[gb]? = some (.cells (bcs (preR L i (n + 1))).toArray 57)))
  case first =>
   obtain ⟨r0, hr0⟩ : ∃ r0, (if y.f0 < (i : Int) * 256 then (i : Int) * 256 else y.f0) = r0 := ⟨_, rfl⟩; go_wp2
   have hr1 : y.f0 ≤ r0 ∧ (i : Int) * 256 ≤ r0 ∧ (r0 ≤ y.f0 ∨ r0 ≤ (i : Int) * 256) ∧ r0 ≤ 1114112 := by rw [← hr0]; split <;> omega
   clear hr0 b1 b2 x0 x1 x2; obtain ⟨wo, rfl⟩ : ∃ wo : World, wo = wr := ⟨_, rfl⟩; go_loopw [14] (fun v14 wq => ∃ r : Int, v14 = .int .i32 r ∧ y.f0 ≤ r ∧ (i : Int) * 256 ≤ r ∧ r ≤ 1114112 ∧ Aside0 (w3.grownBy wq (some gb)) ∧ Aside0 (wq.heap[gb]? = some (.cells (bcs (midR L i n y.f0 y.f1 y.f2 r)).toArray 57))) (fun v14 _ => (1114112 - intOf v14).toNat)
   case atStart => exact ⟨r0, rfl, hr1.1, hr1.2.1, hr1.2.2.2, HG, ⟨by rw [midR_start hr1.2.2.1]; exact HB.out⟩⟩
   clear HG HB HBL hr1; obtain ⟨r, rfl, hr1, hr2, hr3, HG, HB⟩ := hrel; obtain ⟨m, rfl⟩ := Int.eq_ofNat_of_zero_le (show 0 ≤ r by omega)
   have HBL := Aside0.mk (pw_below_grown HP3.out.bel (some gb) HP3.out.bel.size HG.out (fun q e => by obtain rfl := Option.some.inj e; exact HNB.out.2.2.2))
   obtain ⟨ad', e', x0, x1, x2⟩ := at_T33 (Kd.zG HR0.out HBL.out) (n : Int) (by omega) (by omega)
   obtain rfl : ad = ad' := by injection e'
   simp only [Int.toNat_natCast] at x0 x1 x2; rw [HY.out] at x0 x1 x2; clear x0 e'; have b1 : decide ((n : Int) < (l0.length : Int)) = true := decide_eq_true (by omega)
   by_cases hq : (m : Int) ≤ y.f1 ∧ (m : Int) ≤ (i : Int) * 256 + 255
   rotate_left
   ·obtain ⟨mn, hmn⟩ : ∃ mn, (if (i : Int) * 256 + 255 < y.f1 then (i : Int) * 256 + 255 else y.f1) = mn := ⟨_, rfl⟩
    have hm2 : decide ((m : Int) ≤ mn) = false := decide_eq_false (by rw [← hmn]; split <;> omega)
    go_wp2
    go_meet
    case rel => exact ⟨HG, ⟨by rw [← midR_end hLn.out (show y.f1 < (m : Int) ∨ (i : Int) * 256 + 255 < (m : Int) by omega)]; exact HB.out⟩⟩
   obtain ⟨mn, hmn⟩ : ∃ mn, (if (i : Int) * 256 + 255 < y.f1 then (i : Int) * 256 + 255 else y.f1) = mn := ⟨_, rfl⟩; have hm2 : decide ((m : Int) ≤ mn) = true := decide_eq_true (by rw [← hmn]; split <;> omega)
   obtain ⟨q, hqq⟩ : ∃ q, q = m % 256 := ⟨_, rfl⟩; have hand := i32_and255 m (by omega)
   rw [← hqq] at hand; have hq1 : (q : Int) < 256 := by omega
   have hq3 : q = ((m : Int) - (i : Int) * 256).toNat := by omega
   clear hqq; have HC := Aside0.mk hq3; clear hq3; have hfz : wr.frozen? ⟨gb, q, none⟩ = false := frozen_of_row wr gb q _ 57 HB.out
   have hcc : wr.cell? ⟨gb, q, none⟩ = some (.int .u8 ((midR L i n y.f0 y.f1 y.f2 (m : Int)).getD q 0)) := by
    rw [cell_of_row wr gb q _ 57 _ HB.out, List.getElem?_toArray, List.getElem?_eq_getElem (by rw [bcs_len, midR_len]; omega), bcs_get]
   generalize (midR L i n y.f0 y.f1 y.f2 (m : Int)).getD q 0 = old at hcc
   go_wp2
   go_roundw
   case rel => exact ⟨(m : Int) + 1, by go_num, by omega, by omega, by omega, ⟨HG.out.trans (grown_setCell wr ⟨gb, q, none⟩ _)⟩, ⟨(heap_setCell_same wr gb q _ 57 _ HB.out).trans (by rw [List.setIfInBounds_toArray, bcs_set, HC.out, midR_set (by omega) (by omega) (by omega) (by omega)])⟩⟩
   case measure => exact to_lt (show (1114112 : Int) - ((m : Int) + 1) < 1114112 - (m : Int) by omega) (show (0 : Int) < 1114112 - (m : Int) by omega)
  clear HG HB HBL; obtain ⟨HG, HB⟩ := hcut; go_wp2
  go_roundw
  case rel => exact ⟨n + 1, by go_num, by omega, by omega, HG, HB⟩
  case measure => simp [intOf]; omega
 obtain ⟨HG, HB⟩ := hcut; have HP4 := Aside0.mk (HP3.out.grown HG.out HNB.out.1 HNB.out.2.1 HNB.out.2.2.1 HNB.out.2.2.2); clear HG HP3 HGB; have HBY : Aside0 (Byt (rowR L i)) := ⟨rowR_byt HF.out i⟩
 obtain ⟨kl, hkl⟩ := prop_Make.hkey HBY.out; obtain ⟨cb, hcb⟩ : ∃ cb, cb = (bcs (rowR L i)).toArray := ⟨_, rfl⟩; rw [show bag (rowR L i) = .agg (bcs (rowR L i)).toArray from rfl, ← hcb] at hkl; rw [← hcb] at HB; have HSZ : Aside0 ((Try.prog.info? 57).map (·.size) = some cb.size) := ⟨by rw [hcb, List.size_toArray, bcs_len, rowR_len]; kernel_rfl⟩
 have HCB := Aside0.mk hcb; have HKL := Aside0.mk hkl; clear hcb hkl; by_cases hz : rowR L i = zerosR
 ·have HZ := Aside0.mk hz
  clear hz; go_wp2_with (first | ((with_reducible refine gate_dst (N := 93) rfl ?_); refine wpList_load_row rfl 57 (.tmp 12) rfl gb rfl 57 cb (0, 0) (.array 256 5) HB.out Try.underlying57 rfl HSZ.out ?_) | ((with_reducible refine gate_dst (N := 95) rfl ?_); refine Kd.event_run rfl (v := .bool true) (w1 := wc) ?he ?_; (case he => have e1 := prop_Make.eql (.tmp 93) (.tmp 94) HBY.out zerosR_byt wc; rw [show bag (rowR L i) = .agg (bcs (rowR L i)).toArray from rfl, ← HCB.out, show bag zerosR = .agg (bcs zerosR).toArray from rfl, ← HZB.out, decide_eq_true HZ.out] at e1; simp only [execOp]; exact (show Sem.run Try.prog (do let r_ ← (do eqGuard .eql 57 (.tmp 93) (.tmp 94) (.agg cb) (.agg zb); binOp .eql 57 (.agg cb) (.agg zb)); pure (Next.value r_)) wc = _ from by rw [Sem.run_bind, e1]; rfl))))
  go_roundw
  case rel => exact ⟨i + 1, k, v, D, by go_num, rfl, by omega, hk, ⟨fun m y hm hy => by have := HK.out m y hm hy; omega⟩, ⟨by rw [blR_old (by rw [HZ.out]; exact zerosR_mem L i)]; exact (HP4.out.more (Nat.le_succ i)).ext (fun m hm => ixR_skip HZ.out)⟩, ⟨by rw [blR_old (by rw [HZ.out]; exact zerosR_mem L i)]; exact HS.out⟩⟩
  case measure => simp [intOf]; omega
 have HZ := Aside0.mk hz; clear hz; obtain ⟨hh1, hh2⟩ := HS.out (rowR L i) kl HBY.out (by rw [show bag (rowR L i) = .agg (bcs (rowR L i)).toArray from rfl, ← HCB.out]; exact HKL.out)
 have HHA := Aside0.mk hh1; have HHB := Aside0.mk hh2; clear hh1 hh2; by_cases hm : rowR L i ∈ blR L i
 ·have hha : Maps.has D kl = true := by rw [HHA.out, decide_eq_true ⟨hm, HZ.out⟩]
  have HM := Aside0.mk hm; clear hm; have hci : wc.cell? ⟨gt, i, none⟩ = some (.int .i64 0) := by rw [cell_of_row wc gt i _ 54 _ HP4.out.tab, List.getElem?_toArray, tcs_get _ _ _ hlt, if_neg (Nat.lt_irrefl _)]
  have hfi : wc.frozen? ⟨gt, i, none⟩ = false := frozen_of_row wc gt i _ 54 HP4.out.tab
  go_wp2_with (first | ((with_reducible refine gate_dst (N := 93) rfl ?_); refine wpList_load_row rfl 57 (.tmp 12) rfl gb rfl 57 cb (0, 0) (.array 256 5) HB.out Try.underlying57 rfl HSZ.out ?_) | ((with_reducible refine gate_dst (N := 95) rfl ?_); refine Kd.event_run rfl (v := .bool false) (w1 := wc) ?he ?_; (case he => have e1 := prop_Make.eql (.tmp 93) (.tmp 94) HBY.out zerosR_byt wc; rw [show bag (rowR L i) = .agg (bcs (rowR L i)).toArray from rfl, ← HCB.out, show bag zerosR = .agg (bcs zerosR).toArray from rfl, ← HZB.out, decide_eq_false HZ.out] at e1; simp only [execOp]; exact (show Sem.run Try.prog (do let r_ ← (do eqGuard .eql 57 (.tmp 93) (.tmp 94) (.agg cb) (.agg zb); binOp .eql 57 (.agg cb) (.agg zb)); pure (Next.value r_)) wc = _ from by rw [Sem.run_bind, e1]; rfl))) | ((with_reducible refine gate_dst (N := 98) rfl ?_); refine wpList_load_row rfl 57 (.tmp 12) rfl gb rfl 57 cb (0, 0) (.array 256 5) HB.out Try.underlying57 rfl HSZ.out ?_) | (at_lookup; refine wpList_lookup_own_ok_int _ rfl _ _ 55 rfl 57 3 .i64 prop_Make.law Try.underlying55 Try.underlying3 (prop_Make.zeroE _) gm i D rfl HP4.out.map (.agg cb) kl rfl HKL.out ?_; intro c hat hwc))
  have HCX := Aside0.mk (show (ixR L i : Int) = c by
   have h2 := (HHB.out HM.out HZ.out _).symm.trans hat; injection h2 with h2
   injection h2 with _ h2
   rw [ixR_old HM.out]; exact h2)
  clear hat hci hfi; go_roundw
  case rel => exact ⟨i + 1, k, v, D, by go_num, rfl, by omega, hk, ⟨fun m y hm hy => by have := HK.out m y hm hy; omega⟩, ⟨by rw [blR_old HM.out]; exact ((HP4.out.setf i hlt c).more (Nat.le_succ i)).ext (fun m hm => ixR_step HCX.out)⟩, ⟨by rw [blR_old HM.out]; exact HS.out⟩⟩
  case measure => simp [intOf]; omega
 have hha : Maps.has D kl = false := by rw [HHA.out, decide_eq_false (fun h => hm h.1)]
 have HM := Aside0.mk hm; clear hm; obtain ⟨g, cap, hv, hg1, hg2⟩ := HP4.out.row.form (blR_ne L i); subst hv; have hcv : wc.cell? ⟨gt, 4352, none⟩ = some (.slice (some ⟨g, 0, none⟩) (blR L i).length cap) := by rw [cell_of_row wc gt _ _ 54 _ HP4.out.tab, List.getElem?_toArray, tcs_last]
 have hfv : wc.frozen? ⟨gt, 4352, none⟩ = false := frozen_of_row wc gt _ _ 54 HP4.out.tab
 go_wp2_with (first | ((with_reducible refine gate_dst (N := 93) rfl ?_); refine wpList_load_row rfl 57 (.tmp 12) rfl gb rfl 57 cb (0, 0) (.array 256 5) HB.out Try.underlying57 rfl HSZ.out ?_) | ((with_reducible refine gate_dst (N := 95) rfl ?_); refine Kd.event_run rfl (v := .bool false) (w1 := wc) ?he ?_; (case he => have e1 := prop_Make.eql (.tmp 93) (.tmp 94) HBY.out zerosR_byt wc; rw [show bag (rowR L i) = .agg (bcs (rowR L i)).toArray from rfl, ← HCB.out, show bag zerosR = .agg (bcs zerosR).toArray from rfl, ← HZB.out, decide_eq_false HZ.out] at e1; simp only [execOp]; exact (show Sem.run Try.prog (do let r_ ← (do eqGuard .eql 57 (.tmp 93) (.tmp 94) (.agg cb) (.agg zb); binOp .eql 57 (.agg cb) (.agg zb)); pure (Next.value r_)) wc = _ from by rw [Sem.run_bind, e1]; rfl))) | ((with_reducible refine gate_dst (N := 98) rfl ?_); refine wpList_load_row rfl 57 (.tmp 12) rfl gb rfl 57 cb (0, 0) (.array 256 5) HB.out Try.underlying57 rfl HSZ.out ?_) | (at_lookup; refine wpList_lookup_own_ok_int _ rfl _ _ 55 rfl 57 3 .i64 prop_Make.law Try.underlying55 Try.underlying3 (prop_Make.zeroE _) gm i D rfl HP4.out.map (.agg cb) kl rfl HKL.out ?_; intro c hat hwc))
 have HN1 := Aside0.mk (show gb < wc.heap.size from (Array.getElem?_eq_some_iff.1 HB.out).1); refine start_ (n := 11) (S := fun w' => w'.cell? ⟨gt, 4352, none⟩ = some (.slice (some ⟨g, 0, none⟩) (blR L i).length cap) ∧ w'.heap[gb]? = some (.cells cb 57)) (ds := [7, 10]) #[false, false, false, false, false, false, false, false, false, false, false] (by kernel_rfl) rfl rfl ⟨hcv, HB.out⟩ (fun hHeld => ?_)
 have HP5 := Aside0.mk HP4.out.drew; have HB5 := Aside0.mk (show wc.drew.heap[gb]? = some (.cells cb 57) from HB.out); clear HP4 HB hcv hfv HN1; generalize wc.drew = wd at hHeld HP5 HB5 ⊢
 refine pure_ (i := 0) (N := some 109) (v := ?_) (a' := ?_) (tf_ 1 11) rfl rfl (by kernel_rfl) (fun _ _ _ h => h) (Or.inl ⟨by rfl, ?_⟩) ?_ ?_
 rotate_left
 ·intro w'
  go_simp
  with_reducible rfl
 rotate_left
 ·simp only [Act.put, sA_, sB_, sC_]
  rfl
 refine pure_ (i := 1) (N := some 110) (v := ?_) (a' := ?_) (tf_ 2 11) rfl rfl (by kernel_rfl) (fun _ _ _ h => h) (Or.inl ⟨by rfl, ?_⟩) ?_ ?_
 rotate_left
 ·intro w'
  go_simp
  with_reducible rfl
 rotate_left
 ·simp only [Act.put, sA_, sB_, sC_]
  rfl
 refine pure_ (i := 2) (N := some 111) (v := ?_) (a' := ?_) (tf_ 3 11) rfl rfl (by kernel_rfl) (fun _ _ _ h => h) (Or.inl ⟨by rfl, ?_⟩) ?_ ?_
 rotate_left
 ·intro w'
  go_simp
  with_reducible rfl
 rotate_left
 ·simp only [Act.put, sA_, sB_, sC_]
  rfl
 refine pure_ (i := 3) (N := some 112) (v := ?_) (a' := ?_) (tf_ 4 11) rfl rfl (by kernel_rfl) (fun _ _ _ h => h) (Or.inl ⟨by rfl, ?_⟩) ?_ ?_
 rotate_left
 ·intro w'
  go_simp
  with_reducible rfl
 rotate_left
 ·simp only [Act.put, sA_, sB_, sC_]
  rfl
 refine take_ (i := 4) (N := some 113) (v := ?_) (a' := ?_) (tf_ 5 11) rfl rfl (by kernel_rfl) (fun _ _ _ h => h) (Or.inl ⟨by rfl, ?_⟩) hHeld ?_ ?_
 rotate_left
 ·rintro w' ⟨s0, s1⟩
  go_simp
  with_reducible rfl
 rotate_left
 ·simp only [Act.put, sA_, sB_, sC_]
  rfl
 refine take_ (i := 5) (N := some 114) (v := .agg cb) (a' := ?_) (tf_ 6 11) rfl rfl (by kernel_rfl) (fun _ _ _ h => h) (Or.inl ⟨by rfl, ?_⟩) hHeld ?_ ?_
 ·rintro w' ⟨s0, s1⟩
  exact load_run 57 (.tmp 12) rfl gb rfl 57 cb (0, 0) (.array 256 5) s1 Try.underlying57 rfl HSZ.out
 rotate_left
 ·simp only [Act.put, sA_, sB_, sC_]
  rfl
 refine one_ (i := 6) (N := some 115) (tb_ 127 11) rfl rfl (by kernel_rfl) (by decide) (fun K hK => ?_)
 refine value_ (w1 := wd.alloc (.cells cb 57)) (v := .slice (some ⟨wd.heap.size, 0, none⟩) 1 1) (by rfl) rfl ?_ ?_
 ·have e1 := prop_Make.run_slice wd (rowR_len L i)
  rw [show bag (rowR L i) = .agg (bcs (rowR L i)).toArray from rfl, ← HCB.out] at e1; exact slice_run 51 (.tmp 114) rfl rfl e1
 refine hK.out _ _ ⟨(World.cell?_alloc_lt _ _ _ (World.block_lt_of_cell? _ _ hHeld.1)).trans hHeld.1, blk_alloc hHeld.2 _⟩ (fun hHeld => ?_)
 clear hK K; refine norm_ (a' := ?_) ?_ ?_
 rotate_left
 ·show Act.put _ (some 115) _ = _
  simp only [Act.put, sA_, sB_, sC_]; rfl
 refine last_ (i := 7) (N := some 116) (tb_ 255 11) rfl rfl (by kernel_rfl) (by decide) (fun K hK => ?_)
 refine step_append_cb HCB.out (w0 := w) w.heap.size (by rfl) (.tmp 113) (.tmp 115) 51 57 (bag zerosR) 256 256 rfl Try.underlying51 prop_Make.infoB bag_size (by decide) (by decide) (.slice (some ⟨g, 0, none⟩) (blR L i).length cap) (blR L i).length _ rfl rfl (by rw [bcs_len, rowR_len]) (bcs_one _) HP5.out.row HP5.out.bel HP5.out.bel.size (by have := blR_len L i; omega) ?_
 intro vn w5 hown hbn hgn _
 rw [bcs_snoc, show (blR L i).length + 1 = (blR L i ++ [rowR L i]).length by rw [List.length_append]; rfl] at hown
 have HP6 := Aside0.mk (HP5.out.append hgn hown); have HB6 := Aside0.mk ((hgn.block gb (Array.getElem?_eq_some_iff.1 HB5.out).1 (fun e => HNB.out.2.2.1 e.symm)).trans HB5.out)
 obtain ⟨g5, cap5, hv5, _, _⟩ := HP6.out.row.form (by rw [List.length_append]; exact Nat.succ_pos _)
 subst hv5; have hcv5 : w5.cell? ⟨gt, 4352, none⟩ = some (.slice (some ⟨g, 0, none⟩) (blR L i).length cap) := by rw [cell_of_row w5 gt _ _ 54 _ HP6.out.tab, List.getElem?_toArray, tcs_last]
 have hfv5 : w5.frozen? ⟨gt, 4352, none⟩ = false := frozen_of_row w5 gt _ _ 54 HP6.out.tab
 clear hown hbn hgn HP5 HB5 hHeld; refine hK.out _ _ ?_
 clear hK K; refine norm_ (a' := ?_) ?_ ?_
 rotate_left
 ·show Act.put _ (some 116) _ = _
  simp only [Act.put, sA_, sB_, sC_]; rfl
 refine pure_ (i := 8) (N := some 117) (v := ?_) (a' := ?_) (tf_ 9 11) rfl rfl (by kernel_rfl) (fun _ _ _ h => h) (Or.inl ⟨by rfl, ?_⟩) ?_ ?_
 rotate_left
 ·intro w'
  go_simp
  with_reducible rfl
 rotate_left
 ·simp only [Act.put, sA_, sB_, sC_]
  rfl
 refine pure_ (i := 9) (N := some 118) (v := ?_) (a' := ?_) (tf_ 10 11) rfl rfl (by kernel_rfl) (fun _ _ _ h => h) (Or.inl ⟨by rfl, ?_⟩) ?_ ?_
 rotate_left
 ·intro w'
  go_simp
  with_reducible rfl
 rotate_left
 ·simp only [Act.put, sA_, sB_, sC_]
  rfl
 refine last_ (i := 10) (N := none) (tb_ 2047 11) rfl rfl (by kernel_rfl) (by decide) (fun K hK => ?_)
 refine skip_ (w1 := w5.setCell ⟨gt, 4352, none⟩ (.slice (some ⟨g5, 0, none⟩) (blR L i ++ [rowR L i]).length cap5)) (by rfl) rfl ?_ ?_
 ·first | (go_simp; done) | (go_simp; rfl)
 refine hK.out _ _ ?_
 clear hK K; refine done_ (by kernel_rfl) ?_
 have HP7 := Aside0.mk HP6.out.setv; have HB7 := Aside0.mk ((heap_setCell_other w5 ⟨gt, 4352, none⟩ gb (.slice (some ⟨g5, 0, none⟩) (blR L i ++ [rowR L i]).length cap5) HNB.out.1).trans HB6.out); clear HP6 HB6 hcv5 hfv5; generalize w5.setCell ⟨gt, 4352, none⟩ (.slice (some ⟨g5, 0, none⟩) (blR L i ++ [rowR L i]).length cap5) = w6 at HP7 HB7 ⊢
 go_wp2_with (first | ((with_reducible refine gate_dst (N := 120) rfl ?_); refine wpList_load_row rfl 57 (.tmp 12) rfl gb rfl 57 cb (0, 0) (.array 256 5) HB7.out Try.underlying57 rfl HSZ.out ?_) | (at_mapUpdate; refine wpList_mapUpdate_own _ rfl _ _ _ 55 rfl 57 3 prop_Make.law Try.underlying55 _ gm i D rfl HP7.out.map (by unfold maxLen; omega) (.agg cb) (.int .i64 ((blR L i).length : Int)) kl rfl rfl HKL.out (.lit (.int .i64 ((blR L i).length : Int))) [] (plainElem_int Try.underlying3 (WalkArith.wf_i64 (by have := blR_len L i; omega))) ?_; intro w7 hown7 hgn7; have HP8 := Aside0.mk (HP7.out.put hgn7 hown7); have hci : w7.cell? ⟨gt, i, none⟩ = some (.int .i64 0) := (by rw [cell_of_row w7 gt i _ 54 _ HP8.out.tab, List.getElem?_toArray, tcs_get _ _ _ hlt, if_neg (Nat.lt_irrefl _)]); have hfi : w7.frozen? ⟨gt, i, none⟩ = false := frozen_of_row w7 gt i _ 54 HP8.out.tab; have HIM := Aside0.mk HP7.out.map.isMap; clear hown7 hgn7 HP7 HB7))
 clear hci hfi; go_roundw
 case rel => exact ⟨i + 1, k, _, _, by go_num, rfl, by omega, hk, ⟨fun m y hm hy => by have := HK.out m y hm hy; omega⟩, ⟨by rw [blR_new HM.out]; exact (HP8.out.setf i hlt ((blR L i).length : Int)).ext (fun m hm => ixR_step (by rw [ixR_new HM.out]))⟩, ⟨by rw [blR_new HM.out]; exact HS.out.put HIM.out (zerosR_mem L i) HBY.out (by rw [show bag (rowR L i) = .agg (bcs (rowR L i)).toArray from rfl, ← HCB.out]; exact HKL.out) HM.out⟩⟩
 case measure => simp [intOf]; omega
def prop_Table_Of.f (a0 : Option (List (Int × Int × Int))) (a1 : Int) : Option (Int) := some (tabOf a0 a1)
set_option maxHeartbeats 8000000 in
set_option maxRecDepth 100000 in
theorem prop_Table_Of.calls (vt0_ : Value) (a0 : Option (List (Int × Int × Int))) (a1 : Int) (r : Int) (w : World) (hta0 : TabAt w a0 vt0_) (h : prop_Table_Of.f a0 a1 = some r) :
  Calls Try.prog 14 #[vt0_, .int .i32 a1] w fun e w' => e = .returned (.int .i64 r) ∧ Drawn0 w w' := by
 obtain rfl := Option.some.inj h
 clear h; cases a0 with
 | none =>
  obtain rfl : vt0_ = .pointer none := hta0
  have hr : tabOf none a1 = 0 := rfl
  rw [hr]; go_enter Try.func14, Try.ntmps14
  go_wp2
  go_ret
  exact ⟨rfl, Drawn0.refl _⟩
 | some l =>
  obtain ⟨g1, o1, g2, o2, h1, h2, rfl, t1, t2, f1, f2, cs1, cs2, c, rfl, rfl, hix, hsl, hbl, hby⟩ := hta0; by_cases c1 : a1 < 0
  ·rw [show tabOf (some l) a1 = 0 from if_pos (.inl c1)]
   have b1 : decide (a1 < 0) = true := decide_eq_true c1
   go_enter Try.func14, Try.ntmps14
   go_wp2
   go_ret
   exact ⟨rfl, Drawn0.refl _⟩
  have b1 : decide (a1 < 0) = false := decide_eq_false c1
  by_cases c2 : a1 > 1114111
  ·rw [show tabOf (some l) a1 = 0 from if_pos (.inr c2)]
   have b2 : decide (1114111 < a1) = true := decide_eq_true c2
   go_enter Try.func14, Try.ntmps14
   go_wp2
   go_ret
   exact ⟨rfl, Drawn0.refl _⟩
  have b2 : decide (1114111 < a1) = false := decide_eq_false c2
  obtain ⟨m, rfl⟩ := Int.eq_ofNat_of_zero_le (show 0 ≤ a1 by omega)
  have hm : m ≤ 1114111 := by omega
  have hlt : ixR l (m / 256) < (blR l 4352).length := ixR_lt l (by omega)
  have hget : (((blR l 4352).getD (ixR l (m / 256)) []).getD (m % 256) 0) = tabOf (some l) m := by
   rw [List.getD_eq_getElem?_getD (l := blR l 4352), ixR_get l (show m / 256 < 4352 by omega)]
   show (rowR l (m / 256)).getD (m % 256) 0 = _
   rw [rowR_get l _ _ (by omega), show tabOf (some l) (m : Int) = ofR l m from if_neg (by omega)]
   congr 1
   omega
  have hcS : w.cell? ⟨g1, 4352, none⟩ = some (.slice (some ⟨g2, 0, none⟩) (blR l 4352).length c) := (cell_of_row w g1 _ _ _ _ h1).trans hsl
  have hcI : w.cell? ⟨g1, m / 256, none⟩ = some (.int .i64 (ixR l (m / 256) : Int)) := (cell_of_row w g1 _ _ _ _ h1).trans (hix _ (by omega))
  have hcB : w.cell? ⟨g2, ixR l (m / 256) * 256 + m % 256, none⟩ = some (.int .u8 (tabOf (some l) m)) := (cell_of_row w g2 _ _ _ _ h2).trans ((hbl _ _ hlt (by omega)).trans (by rw [hget]))
  have hb0 := hby (m : Int); rw [← show tabOf (some l) (m : Int) = ofR l m from if_neg (by omega)] at hb0
  obtain ⟨hb0, hb1⟩ := hb0; generalize tabOf (some l) (m : Int) = r at hcB hb0 hb1 ⊢
  generalize ixR l (m / 256) = x at hcI hcB hlt
  generalize (blR l 4352).length = n at hcS hlt
  have hand := i32_and255 m (by omega)
  clear hget hix hsl hbl hby h1 h2 hm; go_enter Try.func14, Try.ntmps14
  go_wp2
  go_quiet (fail)
  go_wp2
  go_ret
  exact ⟨rfl, by repeat (first | exact Drawn0.refl _ | apply Drawn0.step)⟩
def prop_Table_Blocks.f (a0 : Option (List (Int × Int × Int))) : Option (Int) := some (tabBl a0)
set_option maxHeartbeats 8000000 in
set_option maxRecDepth 100000 in
theorem prop_Table_Blocks.calls (vt0_ : Value) (a0 : Option (List (Int × Int × Int))) (r : Int) (w : World) (hta0 : TabAt w a0 vt0_) (h : prop_Table_Blocks.f a0 = some r) :
  Calls Try.prog 16 #[vt0_] w fun e w' => e = .returned (.int .i64 r) ∧ Drawn0 w w' := by
 obtain rfl := Option.some.inj h
 clear h; cases a0 with
 | none =>
  obtain rfl : vt0_ = .pointer none := hta0
  rw [show tabBl none = 0 from rfl]; go_enter Try.func16, Try.ntmps16
  go_wp2
  go_ret
  exact ⟨rfl, Drawn0.refl _⟩
 | some l =>
  obtain ⟨g1, o1, g2, o2, h1, h2, rfl, t1, t2, f1, f2, cs1, cs2, c, rfl, rfl, hix, hsl, hbl, hby⟩ := hta0; rw [show tabBl (some l) = ((blR l 4352).length : Int) from rfl]; have hcS : w.cell? ⟨g1, 4352, none⟩ = some (.slice (some ⟨g2, 0, none⟩) (blR l 4352).length c) := (cell_of_row w g1 _ _ _ _ h1).trans hsl
  generalize (blR l 4352).length = n at hcS ⊢
  clear hix hsl hbl hby h1 h2; go_enter Try.func16, Try.ntmps16
  go_wp2
  go_ret
  exact ⟨rfl, Drawn0.refl _⟩
def stanzalaw02_Awake.f  : Option (Bool) := (some (([(⟨48, 57, 1⟩ : S33), (⟨65, 90, 2⟩ : S33)] : List (S33)) : List (S33))).bind fun y103 => (if prop_Make.c y103 3 = true then ((prop_MakeY.f y103 3).bind fun t108 => (if prop_Make.c ([] : List (S33)) 1 = true then ((prop_MakeY.f ([] : List (S33)) 1).bind fun t111 => ((prop_Table_Of.f t108 53).bind fun t112 => (if t112 = 1 then ((prop_Table_Of.f t108 64).bind fun t113 => (if t113 = 0 then ((prop_Table_Of.f t108 65).bind fun t114 => (if t114 = 2 then ((prop_Table_Blocks.f t108).bind fun t115 => (if t115 = 2 then ((prop_Table_Blocks.f t111).bind fun t116 => (some (t116 == 1))) else (some false))) else (some false))) else (some false))) else (some false)))) else ((prop_MakeN.f ([] : List (S33)) 1).bind fun _ => (some false)))) else ((prop_MakeN.f y103 3).bind fun _ => (if prop_Make.c ([] : List (S33)) 1 = true then ((prop_MakeY.f ([] : List (S33)) 1).bind fun t119 => (some false)) else ((prop_MakeN.f ([] : List (S33)) 1).bind fun _ => (some false)))))
set_option maxHeartbeats 8000000 in
set_option maxRecDepth 100000 in
theorem stanzalaw02_Awake.calls  (r : Bool) (w : World) (h : stanzalaw02_Awake.f  = some r) (hrt_ : Aside0 (r = true)) :
  Calls Try.prog 9 #[] w fun e w' => e = .returned (.bool r) ∧ Below w.heap.size w w' := by
 have hu33 := Try.underlying33; have HB := Aside0.mk (Below.refl w.heap.size w); have H : ((some (([(⟨48, 57, 1⟩ : S33), (⟨65, 90, 2⟩ : S33)] : List (S33)) : List (S33))).bind fun y103 => (if prop_Make.c y103 3 = true then ((prop_MakeY.f y103 3).bind fun t108 => (if prop_Make.c ([] : List (S33)) 1 = true then ((prop_MakeY.f ([] : List (S33)) 1).bind fun t111 => ((prop_Table_Of.f t108 53).bind fun t112 => (if t112 = 1 then ((prop_Table_Of.f t108 64).bind fun t113 => (if t113 = 0 then ((prop_Table_Of.f t108 65).bind fun t114 => (if t114 = 2 then ((prop_Table_Blocks.f t108).bind fun t115 => (if t115 = 2 then ((prop_Table_Blocks.f t111).bind fun t116 => (some (t116 == 1))) else (some false))) else (some false))) else (some false))) else (some false)))) else ((prop_MakeN.f ([] : List (S33)) 1).bind fun _ => (some false)))) else ((prop_MakeN.f y103 3).bind fun _ => (if prop_Make.c ([] : List (S33)) 1 = true then ((prop_MakeY.f ([] : List (S33)) 1).bind fun t119 => (some false)) else ((prop_MakeN.f ([] : List (S33)) 1).bind fun _ => (some false)))))) = some r := h
 clear h; obtain ⟨y103, hy103⟩ : ∃ y_ : List (S33), y_ = (([(⟨48, 57, 1⟩ : S33), (⟨65, 90, 2⟩ : S33)] : List (S33))) := ⟨_, rfl⟩; replace H : (if prop_Make.c y103 3 = true then ((prop_MakeY.f y103 3).bind fun t108 => (if prop_Make.c ([] : List (S33)) 1 = true then ((prop_MakeY.f ([] : List (S33)) 1).bind fun t111 => ((prop_Table_Of.f t108 53).bind fun t112 => (if t112 = 1 then ((prop_Table_Of.f t108 64).bind fun t113 => (if t113 = 0 then ((prop_Table_Of.f t108 65).bind fun t114 => (if t114 = 2 then ((prop_Table_Blocks.f t108).bind fun t115 => (if t115 = 2 then ((prop_Table_Blocks.f t111).bind fun t116 => (some (t116 == 1))) else (some false))) else (some false))) else (some false))) else (some false)))) else ((prop_MakeN.f ([] : List (S33)) 1).bind fun _ => (some false)))) else ((prop_MakeN.f y103 3).bind fun _ => (if prop_Make.c ([] : List (S33)) 1 = true then ((prop_MakeY.f ([] : List (S33)) 1).bind fun t119 => (some false)) else ((prop_MakeN.f ([] : List (S33)) 1).bind fun _ => (some false))))) = some r := by first | (rw [hy103]; with_reducible exact H) | (have H2_ := (Option.bind_some _ _).symm.trans H; rw [hy103]; with_reducible exact H2_) | (have H2_ := (Option.bind_some _ _).symm.trans H; with_reducible exact H2_) | with_reducible exact H | (rw [hy103]; exact H) | exact H
 have Ny103 := Aside0.mk hy103; clear hy103; by_cases c1 : prop_Make.c y103 3 = true
 rotate_left
 ·rw [if_neg c1] at H
  have c1b0 : prop_Make.c y103 3 = false := by simpa using c1
  clear c1; replace H := Option.bind_eq_some_iff.mp H; obtain ⟨_, A200, H⟩ := H; replace H : (if prop_Make.c ([] : List (S33)) 1 = true then ((prop_MakeY.f ([] : List (S33)) 1).bind fun t119 => (some false)) else ((prop_MakeN.f ([] : List (S33)) 1).bind fun _ => (some false))) = some r := H
  have A20 := Aside0.mk A200; clear A200; by_cases c21 : prop_Make.c ([] : List (S33)) 1 = true
  ·rw [if_pos c21] at H
   have c21b0 : prop_Make.c ([] : List (S33)) 1 = true := c21
   clear c21; replace H := Option.bind_eq_some_iff.mp H; obtain ⟨t119, A220, H⟩ := H; replace H : (some false) = some r := H; have A22 := Aside0.mk A220; clear A220; exact absurd ((Option.some.inj H).trans hrt_.out) (by decide)
  rw [if_neg c21] at H; have c21b0 : prop_Make.c ([] : List (S33)) 1 = false := by simpa using c21
  clear c21; replace H := Option.bind_eq_some_iff.mp H; obtain ⟨_, A230, H⟩ := H; replace H : (some false) = some r := H; have A23 := Aside0.mk A230; clear A230; exact absurd ((Option.some.inj H).trans hrt_.out) (by decide)
 rw [if_pos c1] at H; have c1b0 : prop_Make.c y103 3 = true := c1
 clear c1; replace H := Option.bind_eq_some_iff.mp H; obtain ⟨t108, A20, H⟩ := H; replace H : (if prop_Make.c ([] : List (S33)) 1 = true then ((prop_MakeY.f ([] : List (S33)) 1).bind fun t111 => ((prop_Table_Of.f t108 53).bind fun t112 => (if t112 = 1 then ((prop_Table_Of.f t108 64).bind fun t113 => (if t113 = 0 then ((prop_Table_Of.f t108 65).bind fun t114 => (if t114 = 2 then ((prop_Table_Blocks.f t108).bind fun t115 => (if t115 = 2 then ((prop_Table_Blocks.f t111).bind fun t116 => (some (t116 == 1))) else (some false))) else (some false))) else (some false))) else (some false)))) else ((prop_MakeN.f ([] : List (S33)) 1).bind fun _ => (some false))) = some r := H
 have A2 := Aside0.mk A20; clear A20; by_cases c3 : prop_Make.c ([] : List (S33)) 1 = true
 rotate_left
 ·rw [if_neg c3] at H
  have c3b0 : prop_Make.c ([] : List (S33)) 1 = false := by simpa using c3
  clear c3; replace H := Option.bind_eq_some_iff.mp H; obtain ⟨_, A190, H⟩ := H; replace H : (some false) = some r := H; have A19 := Aside0.mk A190; clear A190; exact absurd ((Option.some.inj H).trans hrt_.out) (by decide)
 rw [if_pos c3] at H; have c3b0 : prop_Make.c ([] : List (S33)) 1 = true := c3
 clear c3; replace H := Option.bind_eq_some_iff.mp H; obtain ⟨t111, A40, H⟩ := H; replace H : ((prop_Table_Of.f t108 53).bind fun t112 => (if t112 = 1 then ((prop_Table_Of.f t108 64).bind fun t113 => (if t113 = 0 then ((prop_Table_Of.f t108 65).bind fun t114 => (if t114 = 2 then ((prop_Table_Blocks.f t108).bind fun t115 => (if t115 = 2 then ((prop_Table_Blocks.f t111).bind fun t116 => (some (t116 == 1))) else (some false))) else (some false))) else (some false))) else (some false))) = some r := H
 have A4 := Aside0.mk A40; clear A40; replace H := Option.bind_eq_some_iff.mp H; obtain ⟨t112, A50, H⟩ := H; replace H : (if t112 = 1 then ((prop_Table_Of.f t108 64).bind fun t113 => (if t113 = 0 then ((prop_Table_Of.f t108 65).bind fun t114 => (if t114 = 2 then ((prop_Table_Blocks.f t108).bind fun t115 => (if t115 = 2 then ((prop_Table_Blocks.f t111).bind fun t116 => (some (t116 == 1))) else (some false))) else (some false))) else (some false))) else (some false)) = some r := H
 have A5 := Aside0.mk A50; clear A50; by_cases c6 : t112 = 1
 rotate_left
 ·rw [if_neg c6] at H
  have c6b0 : (t112 == 1) = false := beq_eq_false_iff_ne.mpr c6
  have c6b1 : (t112 != 1) = true := bne_iff_ne.mpr c6
  exact absurd ((Option.some.inj H).trans hrt_.out) (by decide)
 rw [if_pos c6] at H; have c6b0 : (t112 == 1) = true := beq_iff_eq.mpr c6
 have c6b1 : (t112 != 1) = false := bne_eq_false_iff_eq.mpr c6
 clear c6; replace H := Option.bind_eq_some_iff.mp H; obtain ⟨t113, A70, H⟩ := H; replace H : (if t113 = 0 then ((prop_Table_Of.f t108 65).bind fun t114 => (if t114 = 2 then ((prop_Table_Blocks.f t108).bind fun t115 => (if t115 = 2 then ((prop_Table_Blocks.f t111).bind fun t116 => (some (t116 == 1))) else (some false))) else (some false))) else (some false)) = some r := H
 have A7 := Aside0.mk A70; clear A70; by_cases c8 : t113 = 0
 rotate_left
 ·rw [if_neg c8] at H
  have c8b0 : (t113 == 0) = false := beq_eq_false_iff_ne.mpr c8
  have c8b1 : (t113 != 0) = true := bne_iff_ne.mpr c8
  exact absurd ((Option.some.inj H).trans hrt_.out) (by decide)
 rw [if_pos c8] at H; have c8b0 : (t113 == 0) = true := beq_iff_eq.mpr c8
 have c8b1 : (t113 != 0) = false := bne_eq_false_iff_eq.mpr c8
 clear c8; replace H := Option.bind_eq_some_iff.mp H; obtain ⟨t114, A90, H⟩ := H; replace H : (if t114 = 2 then ((prop_Table_Blocks.f t108).bind fun t115 => (if t115 = 2 then ((prop_Table_Blocks.f t111).bind fun t116 => (some (t116 == 1))) else (some false))) else (some false)) = some r := H
 have A9 := Aside0.mk A90; clear A90; by_cases c10 : t114 = 2
 rotate_left
 ·rw [if_neg c10] at H
  have c10b0 : (t114 == 2) = false := beq_eq_false_iff_ne.mpr c10
  have c10b1 : (t114 != 2) = true := bne_iff_ne.mpr c10
  exact absurd ((Option.some.inj H).trans hrt_.out) (by decide)
 rw [if_pos c10] at H; have c10b0 : (t114 == 2) = true := beq_iff_eq.mpr c10
 have c10b1 : (t114 != 2) = false := bne_eq_false_iff_eq.mpr c10
 clear c10; replace H := Option.bind_eq_some_iff.mp H; obtain ⟨t115, A110, H⟩ := H; replace H : (if t115 = 2 then ((prop_Table_Blocks.f t111).bind fun t116 => (some (t116 == 1))) else (some false)) = some r := H
 have A11 := Aside0.mk A110; clear A110; by_cases c12 : t115 = 2
 rotate_left
 ·rw [if_neg c12] at H
  have c12b0 : (t115 == 2) = false := beq_eq_false_iff_ne.mpr c12
  have c12b1 : (t115 != 2) = true := bne_iff_ne.mpr c12
  exact absurd ((Option.some.inj H).trans hrt_.out) (by decide)
 rw [if_pos c12] at H; have c12b0 : (t115 == 2) = true := beq_iff_eq.mpr c12
 have c12b1 : (t115 != 2) = false := bne_eq_false_iff_eq.mpr c12
 clear c12; replace H := Option.bind_eq_some_iff.mp H; obtain ⟨t116, A130, H⟩ := H; replace H : (some (t116 == 1)) = some r := H; have A13 := Aside0.mk A130; clear A130; obtain rfl := Option.some.inj H
 go_enter Try.func9, Try.ntmps9
 go_wp2_with (first | ((with_reducible refine gate_dst (N := 8) rfl ?_); refine Kd.R_lit k33 _ 33 ?hg (N := 8) ?hd (xs := ([(⟨48, 57, 1⟩ : S33), (⟨65, 90, 2⟩ : S33)] : List (S33))) (inner := [.int .i32 48, .int .i32 57, .int .i64 1, .int .i32 65, .int .i32 90, .int .i64 2]) (ok := fun _ => True) (okp := fun _ => True) ?hr ?hp (fun _ hk => hk) trivial (Below.refl _ _) (Nat.le_refl _) (by simp) ?_; (case hd => rfl); (case hg => rfl); (case hr => first | (go_simp; done) | (go_simp; rfl)); (case hp => exact (Reps.c3 (show Kd.M k33 _ _ _ (⟨48, 57, 1⟩ : S33) [.int .i32 48, .int .i32 57, .int .i64 1] from (k33_mkM _ _ _ (⟨48, 57, 1⟩ : S33) )) (Reps.c3 (show Kd.M k33 _ _ _ (⟨65, 90, 2⟩ : S33) [.int .i32 65, .int .i32 90, .int .i64 2] from (k33_mkM _ _ _ (⟨65, 90, 2⟩ : S33) )) (Reps.none _ _)))); intro v104 w14 ho15 hb hg_ hnew_; clear hg_ hnew_; (first | rw [← Ny103.out] at ho15 | (simp only [Int.reduceToNat] at ho15; rw [← Ny103.out] at ho15)); have HO105 := Aside0.mk (Kd.zL ho15 (below_size (aL HB))); replace HB := Aside0.mk (below_step (aL HB) hb); clear hb ho15; obtain ⟨Ao16, co16, eo16⟩ := Kd.zK HO105.out; subst eo16) | ((with_reducible refine gate_callee (f := 11) rfl ?_); refine goesL_ (some 9) rfl rfl Try.func11 (by kernel_rfl) rfl #[.slice Ao16 y103.length co16, .int .i64 3] rfl aT ?_; (with_reducible refine (prop_MakeY.calls _ _ y103 3 t108 _ ?side1 ?side2 A2.out).mono ?_); (case side1 => exact aF HO105); (case side2 => exact (Kd.zH HO105.out).2.1); rintro e w17 ⟨gb107, ob107, gb108, ob108, rfl, hx1, hx2, hg1, hg2, hne, htb, hb⟩; refine ⟨_, rfl, ?_⟩; replace HO105 := Aside0.mk (Kd.zI (Kd.R_elderB (Kd.R_elderB (aR HO105) gb107 hg1) gb108 hg2) hb); have BK107 := Aside0.mk (hx1); have GW107 := Aside0.mk ((Nat.le_trans (below_size (aL HB)) hg1 : w.heap.size ≤ gb107)); have GE107 := Aside0.mk ((Nat.le_trans (below_size (aL HB)) hg1 : w.heap.size ≤ gb107)); have NB107_108 := Aside0.mk (hne); have BK108 := Aside0.mk (hx2); have GW108 := Aside0.mk ((Nat.le_trans (below_size (aL HB)) hg2 : w.heap.size ≤ gb108)); have GE108 := Aside0.mk ((Nat.le_trans (below_size (aL HB)) hg2 : w.heap.size ≤ gb108)); replace HB := Aside0.mk (below_step (aL HB) hb); have NB108_107 := Aside0.mk (Ne.symm hne); have HTt108 := Aside0.mk (htb); clear hb hx1 hx2 hg1 hg2 hne htb) | ((with_reducible refine gate_callee (f := 11) rfl ?_); refine goesL_ (some 13) rfl rfl Try.func11 (by kernel_rfl) rfl #[.slice none 0 0, .int .i64 1] rfl aT ?_; (refine (prop_MakeY.calls _ _ ([] : List (S33)) 1 t111 _ ?side1 ?side2 A4.out).mono ?_); (case side1 => exact Kd.C_nil _ _); (case side2 => exact Nat.le_refl _); rintro e w18 ⟨gb110, ob110, gb111, ob111, rfl, hx1, hx2, hg1, hg2, hne, htb, hb⟩; refine ⟨_, rfl, ?_⟩; replace HO105 := Aside0.mk (Kd.zI (Kd.R_elderB (Kd.R_elderB (aR HO105) gb110 hg1) gb111 hg2) hb); have BK110 := Aside0.mk (hx1); have GW110 := Aside0.mk ((Nat.le_trans (below_size (aL HB)) hg1 : w.heap.size ≤ gb110)); have GE110 := Aside0.mk ((Nat.le_trans (below_size (aL HB)) hg1 : w.heap.size ≤ gb110)); have NB110_111 := Aside0.mk (hne); have NB107_110 := Aside0.mk ((Nat.ne_of_lt (Nat.lt_of_lt_of_le (blk_lt (g := gb107) (o := ob107) (aB BK107)) hg1) : gb107 ≠ gb110)); have NB110_107 := Aside0.mk ((Nat.ne_of_gt (Nat.lt_of_lt_of_le (blk_lt (g := gb107) (o := ob107) (aB BK107)) hg1) : gb110 ≠ gb107)); have NB108_110 := Aside0.mk ((Nat.ne_of_lt (Nat.lt_of_lt_of_le (blk_lt (g := gb108) (o := ob108) (aB BK108)) hg1) : gb108 ≠ gb110)); have NB110_108 := Aside0.mk ((Nat.ne_of_gt (Nat.lt_of_lt_of_le (blk_lt (g := gb108) (o := ob108) (aB BK108)) hg1) : gb110 ≠ gb108)); have BK111 := Aside0.mk (hx2); have GW111 := Aside0.mk ((Nat.le_trans (below_size (aL HB)) hg2 : w.heap.size ≤ gb111)); have GE111 := Aside0.mk ((Nat.le_trans (below_size (aL HB)) hg2 : w.heap.size ≤ gb111)); replace HB := Aside0.mk (below_step (aL HB) hb); have NB111_110 := Aside0.mk (Ne.symm hne); have NB107_111 := Aside0.mk ((Nat.ne_of_lt (Nat.lt_of_lt_of_le (blk_lt (g := gb107) (o := ob107) (aB BK107)) hg2) : gb107 ≠ gb111)); have NB111_107 := Aside0.mk ((Nat.ne_of_gt (Nat.lt_of_lt_of_le (blk_lt (g := gb107) (o := ob107) (aB BK107)) hg2) : gb111 ≠ gb107)); replace BK107 := Aside0.mk (blk_below (aB BK107) hb); have NB108_111 := Aside0.mk ((Nat.ne_of_lt (Nat.lt_of_lt_of_le (blk_lt (g := gb108) (o := ob108) (aB BK108)) hg2) : gb108 ≠ gb111)); have NB111_108 := Aside0.mk ((Nat.ne_of_gt (Nat.lt_of_lt_of_le (blk_lt (g := gb108) (o := ob108) (aB BK108)) hg2) : gb111 ≠ gb108)); replace BK108 := Aside0.mk (blk_below (aB BK108) hb); have HTt111 := Aside0.mk (htb); clear hb hx1 hx2 hg1 hg2 hne htb) | (go_at_call 14; (with_reducible refine (prop_Table_Of.calls (.pointer (some ⟨gb107, 0, none⟩)) t108 53 t112 _ ?side1 A5.out).mono ?_); (case side1 => exact TabO.at HTt108.out (aB BK107) (aB BK108)); rintro e w' ⟨rfl, ⟨nd, rfl⟩⟩) | (go_at_call 14; (with_reducible refine (prop_Table_Of.calls (.pointer (some ⟨gb107, 0, none⟩)) t108 64 t113 _ ?side1 A7.out).mono ?_); (case side1 => exact TabO.at HTt108.out (aB BK107) (aB BK108)); rintro e w' ⟨rfl, ⟨nd, rfl⟩⟩) | (go_at_call 14; (with_reducible refine (prop_Table_Of.calls (.pointer (some ⟨gb107, 0, none⟩)) t108 65 t114 _ ?side1 A9.out).mono ?_); (case side1 => exact TabO.at HTt108.out (aB BK107) (aB BK108)); rintro e w' ⟨rfl, ⟨nd, rfl⟩⟩) | (go_at_call 16; (with_reducible refine (prop_Table_Blocks.calls (.pointer (some ⟨gb107, 0, none⟩)) t108 t115 _ ?side1 A11.out).mono ?_); (case side1 => exact TabO.at HTt108.out (aB BK107) (aB BK108)); rintro e w' ⟨rfl, ⟨nd, rfl⟩⟩) | (go_at_call 16; (with_reducible refine (prop_Table_Blocks.calls (.pointer (some ⟨gb110, 0, none⟩)) t111 t116 _ ?side1 A13.out).mono ?_); (case side1 => exact TabO.at HTt111.out (aB BK110) (aB BK111)); rintro e w' ⟨rfl, ⟨nd, rfl⟩⟩))
 go_ret
 exact ⟨aX, aL HB⟩
mutual
def stanzalaw02_Right.l0 : Nat → List (S33) → Int → List (S33) → Int → Int → Option ((List (S33)))
 | 0, _, _, _, _, _ => none
 | k + 1, x0, x1, x5, x6, x7 => if x7 < (x0.length : Int) then (stanzalaw02_Right.j1 k x0 x1 x5 x6 x7 (decide (x7 < 200))) else (stanzalaw02_Right.j1 k x0 x1 x5 x6 x7 false)
def stanzalaw02_Right.j1 : Nat → List (S33) → Int → List (S33) → Int → Int → Bool → Option ((List (S33)))
 | 0, _, _, _, _, _, _ => none
 | k + 1, x0, x1, x5, x6, x7, x17 => if x17 = true then (if 0 ≤ x7 then (if x7 < (x0.length : Int) then (if (wrap64 ((wrap64 ((wrap64 (x6 + 1)) + ((((rd_T33 x0 x7).f0) % 4294967296) % 3000))) + ((((rd_T33 x0 x7).f1) % 4294967296) % 600))) > 1114111 then (some x5) else (if (IntKind.u64.wrap (x1)) = 0 then (none) else (if x5.length < 8796093022208 then (stanzalaw02_Right.l0 k x0 x1 (x5 ++ [(⟨wrap32 (wrap64 ((wrap64 (x6 + 1)) + ((((rd_T33 x0 x7).f0) % 4294967296) % 3000))), wrap32 (wrap64 ((wrap64 ((wrap64 (x6 + 1)) + ((((rd_T33 x0 x7).f0) % 4294967296) % 3000))) + ((((rd_T33 x0 x7).f1) % 4294967296) % 600))), wrap64 (Int.tmod (IntKind.u64.wrap ((rd_T33 x0 x7).f2)) (IntKind.u64.wrap (x1)))⟩ : S33)]) (wrap64 ((wrap64 ((wrap64 (x6 + 1)) + ((((rd_T33 x0 x7).f0) % 4294967296) % 3000))) + ((((rd_T33 x0 x7).f1) % 4294967296) % 600))) (wrap64 (x7 + 1))) else (none)))) else (none)) else (none)) else (some x5)
end
def stanzalaw02_Right.f (k : Nat) (l0 : List (S33)) (a1 : Int) : Option ((List (S33))) := stanzalaw02_Right.l0 k l0 a1 ([] : List (S33)) (-1) 0
theorem stanzalaw02_Right.mono_l : ∀ k, (∀ y0 y1 y2 y3 y4, LeO (stanzalaw02_Right.l0 k y0 y1 y2 y3 y4) (stanzalaw02_Right.l0 (k + 1) y0 y1 y2 y3 y4)) ∧ (∀ y0 y1 y2 y3 y4 y5, LeO (stanzalaw02_Right.j1 k y0 y1 y2 y3 y4 y5) (stanzalaw02_Right.j1 (k + 1) y0 y1 y2 y3 y4 y5))
 | 0 => ⟨fun _ _ _ _ _ r h => by simp [stanzalaw02_Right.l0] at h, fun _ _ _ _ _ _ r h => by simp [stanzalaw02_Right.j1] at h⟩
 | k + 1 => by
  obtain ⟨ih0, ih1⟩ := stanzalaw02_Right.mono_l k; refine ⟨?_, ?_⟩
  ·intro y0 y1 y2 y3 y4
   unfold stanzalaw02_Right.l0
   repeat' (with_reducible first | exact ih0 _ _ _ _ _ | exact ih1 _ _ _ _ _ _ | exact LeO.refl _ | exact LeO.none _ | refine LeO.ite ?_ ?_ | refine LeO.bind ?_ (fun _ => ?_))
  ·intro y0 y1 y2 y3 y4 y5
   unfold stanzalaw02_Right.j1
   repeat' (with_reducible first | exact ih0 _ _ _ _ _ | exact ih1 _ _ _ _ _ _ | exact LeO.refl _ | exact LeO.none _ | refine LeO.ite ?_ ?_ | refine LeO.bind ?_ (fun _ => ?_))
theorem stanzalaw02_Right.mono : ∀ a0 a1 k, LeO (stanzalaw02_Right.f k a0 a1) (stanzalaw02_Right.f (k + 1) a0 a1) := by
 intro a0 a1 k
 obtain ⟨ih0, ih1⟩ := stanzalaw02_Right.mono_l k; unfold stanzalaw02_Right.f
 repeat' (with_reducible first | exact ih0 _ _ _ _ _ | exact ih1 _ _ _ _ _ _ | exact LeO.refl _ | exact LeO.none _ | refine LeO.ite ?_ ?_ | refine LeO.bind ?_ (fun _ => ?_))
set_option maxHeartbeats 8000000 in
set_option maxRecDepth 100000 in
theorem stanzalaw02_Right.calls (k : Nat) (A0 : Option Addr) (c0 : Nat) (l0 : List (S33)) (a1 : Int) (r : List (S33)) (w : World) (hr0 : Kd.C k33 w A0 l0.length l0) (hc0 : l0.length ≤ c0) (h : stanzalaw02_Right.f k l0 a1 = some r) :
  Calls Try.prog 13 #[.slice A0 l0.length c0, .int .i64 a1] w fun e w' => ∃ v0_ : Value, e = .returned (v0_) ∧ Kd.R k33 33 w' w.heap.size (fun _ => True) v0_ r ∧ Below w.heap.size w w' := by
 have hu33 := Try.underlying33; have HR0 := Aside0.mk hr0; have HC0 := Aside0.mk hc0; clear hr0 hc0; have HB := Aside0.mk (Below.refl w.heap.size w); have H : (stanzalaw02_Right.l0 k l0 a1 ([] : List (S33)) (-1) 0) = some r := h
 clear h; have H' := Aside0.mk H
 clear H; go_enter Try.func13, Try.ntmps13
 go_wp2
 go_loopg [5, 6, 7] k (fun kq v5 v6 v7 w' => ∃ (x5_1 : List (S33)) (x6_1 : Int) (x7_1 : Int), v6 = .int .i64 x6_1 ∧ v7 = .int .i64 x7_1 ∧ Aside0 (stanzalaw02_Right.l0 kq l0 a1 x5_1 x6_1 x7_1 = some r) ∧ Aside0 (kq ≤ k) ∧ Aside0 (Kd.R k33 33 w' w.heap.size (fun _ => True) v5 x5_1) ∧ Aside0 (Below w.heap.size w w'))
 case atStart => exact ⟨(([] : List (S33))), ((-1)), (0), aZ, aZ, H', ⟨Nat.le_refl _⟩, ⟨by first | exact Kd.R_nil _ _ _ _ _ | exact Kd.N_nil _ _ _ _ _ | exact Kd.V_nil _ _ _ _ _ | exact Kd.Q_nil _ _ _ _ _ | exact Kd.S_nil _ _ _ _ _⟩, ⟨aL HB⟩⟩
 clear H'; obtain ⟨x5_1, x6_1, x7_1, rfl, rfl, HA, HK1, HO_5, HB⟩ := hrel; cases gk with
 | zero => exact absurd HA.out (by simp [stanzalaw02_Right.l0])
 | succ k1 =>
  have H := HA.out; clear HA; simp only [stanzalaw02_Right.l0] at H; have HC3 := Aside0.mk H; clear H; go_upto_region 4 with (fail)
  go_cut [17] (fun v17 wc => ∃ (kq : Nat) (x17_2 : Bool), v17 = .bool x17_2 ∧ Aside0 (stanzalaw02_Right.j1 kq l0 a1 x5_1 x6_1 x7_1 x17_2 = some r) ∧ Aside0 (kq ≤ k1) ∧ Aside0 (Kd.R k33 33 wc w.heap.size (fun _ => True) u5 x5_1) ∧ Aside0 (Below w.heap.size w wc))
  case first =>
   have H := HC3.out; clear HC3; by_cases c4 : x7_1 < (l0.length : Int)
   ·rw [if_pos c4] at H
    have c4b0 : decide (x7_1 < (l0.length : Int)) = true := decide_eq_true c4
    clear c4; (first | rw [c4b0] | (simp only [i64_w, i32_w]; rw [c4b0]) | skip)
    have H' := Aside0.mk H
    clear H; go_wp2
    go_meet
    case rel => exact ⟨_, (decide (x7_1 < 200)), aZ, H', ⟨by have := HK1.out; first | omega | exact Nat.le_refl _⟩, ⟨aR HO_5⟩, ⟨aL HB⟩⟩
   rw [if_neg c4] at H; have c4b0 : decide (x7_1 < (l0.length : Int)) = false := decide_eq_false c4
   clear c4; (first | rw [c4b0] | (simp only [i64_w, i32_w]; rw [c4b0]) | skip)
   have H' := Aside0.mk H
   clear H; go_wp2
   go_meet
   case rel => exact ⟨_, (false), aZ, H', ⟨by have := HK1.out; first | omega | exact Nat.le_refl _⟩, ⟨aR HO_5⟩, ⟨aL HB⟩⟩
  clear HC3; obtain ⟨kq, x17_2, rfl, HA, HJ2, HO_5, HB⟩ := hcut; cases kq with
  | zero => exact absurd HA.out (by simp [stanzalaw02_Right.j1])
  | succ kj2 =>
   have H := HA.out; clear HA; simp only [stanzalaw02_Right.j1] at H; by_cases c5 : x17_2 = true
   rotate_left
   ·replace c5 := Bool.eq_false_iff.mpr c5
    subst c5; have H1 : (some x5_1) = some r := by rw [if_neg (show ¬ (false = true) by decide)] at H; exact H
    clear H; have H := H1; clear H1; obtain rfl := Option.some.inj H
    go_wp2
    go_ret
    exact ⟨_, aX, aR HO_5, aL HB⟩
   subst c5; have H1 : (if 0 ≤ x7_1 then (if x7_1 < (l0.length : Int) then (if (wrap64 ((wrap64 ((wrap64 (x6_1 + 1)) + ((((rd_T33 l0 x7_1).f0) % 4294967296) % 3000))) + ((((rd_T33 l0 x7_1).f1) % 4294967296) % 600))) > 1114111 then (some x5_1) else (if (IntKind.u64.wrap (a1)) = 0 then (none) else (if x5_1.length < 8796093022208 then (stanzalaw02_Right.l0 kj2 l0 a1 (x5_1 ++ [(⟨wrap32 (wrap64 ((wrap64 (x6_1 + 1)) + ((((rd_T33 l0 x7_1).f0) % 4294967296) % 3000))), wrap32 (wrap64 ((wrap64 ((wrap64 (x6_1 + 1)) + ((((rd_T33 l0 x7_1).f0) % 4294967296) % 3000))) + ((((rd_T33 l0 x7_1).f1) % 4294967296) % 600))), wrap64 (Int.tmod (IntKind.u64.wrap ((rd_T33 l0 x7_1).f2)) (IntKind.u64.wrap (a1)))⟩ : S33)]) (wrap64 ((wrap64 ((wrap64 (x6_1 + 1)) + ((((rd_T33 l0 x7_1).f0) % 4294967296) % 3000))) + ((((rd_T33 l0 x7_1).f1) % 4294967296) % 600))) (wrap64 (x7_1 + 1))) else (none)))) else (none)) else (none)) = some r := by rw [if_pos rfl] at H; exact H
   clear H; have H := H1; clear H1; by_cases c6 : 0 ≤ x7_1
   rotate_left
   ·rw [if_neg c6] at H
    exact absurd H (by simp)
   rw [if_pos c6] at H; have c6b0 : decide (0 ≤ x7_1) = true := decide_eq_true c6
   clear c6; by_cases c7 : x7_1 < (l0.length : Int)
   rotate_left
   ·rw [if_neg c7] at H
    exact absurd H (by simp)
   rw [if_pos c7] at H; have c7b0 : decide (x7_1 < (l0.length : Int)) = true := decide_eq_true c7
   clear c7; by_cases c8 : (wrap64 ((wrap64 ((wrap64 (x6_1 + 1)) + ((((rd_T33 l0 x7_1).f0) % 4294967296) % 3000))) + ((((rd_T33 l0 x7_1).f1) % 4294967296) % 600))) > 1114111
   ·rw [if_pos c8] at H
    have c8b0 : decide (1114111 < (wrap64 ((wrap64 ((wrap64 (x6_1 + 1)) + ((((rd_T33 l0 x7_1).f0) % 4294967296) % 3000))) + ((((rd_T33 l0 x7_1).f1) % 4294967296) % 600)))) = true := decide_eq_true c8
    clear c8; obtain rfl := Option.some.inj H
    have p120 : 0 ≤ (x7_1 : Int) := aD
    have q120 : x7_1 < (l0.length : Int) := aD
    obtain ⟨ad120, e120, hx120_0, hx120_1, hx120_2⟩ := at_T33 HR0.out x7_1 p120 q120; cases e120
    replace hx120_0 := (HB.out.cell (World.block_lt_of_cell? w _ hx120_0)).trans hx120_0; replace hx120_1 := (HB.out.cell (World.block_lt_of_cell? w _ hx120_1)).trans hx120_1; replace hx120_2 := (HB.out.cell (World.block_lt_of_cell? w _ hx120_2)).trans hx120_2; replace p120 := eq_true p120; replace q120 := eq_true q120; have p121 : 0 ≤ (x7_1 : Int) := aD
    have q121 : x7_1 < (l0.length : Int) := aD
    obtain ⟨ad121, e121, hx121_0, hx121_1, hx121_2⟩ := at_T33 HR0.out x7_1 p121 q121; obtain rfl : ad120 = ad121 := (by injection e121)
    replace hx121_0 := (HB.out.cell (World.block_lt_of_cell? w _ hx121_0)).trans hx121_0; replace hx121_1 := (HB.out.cell (World.block_lt_of_cell? w _ hx121_1)).trans hx121_1; replace hx121_2 := (HB.out.cell (World.block_lt_of_cell? w _ hx121_2)).trans hx121_2; replace p121 := eq_true p121; replace q121 := eq_true q121; go_wp2
    go_ret
    exact ⟨_, aX, aR HO_5, aL HB⟩
   rw [if_neg c8] at H; have c8b0 : decide (1114111 < (wrap64 ((wrap64 ((wrap64 (x6_1 + 1)) + ((((rd_T33 l0 x7_1).f0) % 4294967296) % 3000))) + ((((rd_T33 l0 x7_1).f1) % 4294967296) % 600)))) = false := decide_eq_false c8
   clear c8; by_cases c9 : (IntKind.u64.wrap (a1)) = 0
   ·rw [if_pos c9] at H
    exact absurd H (by simp)
   rw [if_neg c9] at H; have c9b0 : ((IntKind.u64.wrap (a1)) == 0) = false := beq_eq_false_iff_ne.mpr c9
   have c9b1 : ((IntKind.u64.wrap (a1)) != 0) = true := bne_iff_ne.mpr c9
   by_cases c10 : x5_1.length < 8796093022208
   rotate_left
   ·rw [if_neg c10] at H
    exact absurd H (by simp)
   rw [if_pos c10] at H; have LMc10 := Aside0.mk c10; clear c10; obtain ⟨y123, hy123⟩ : ∃ y_ : List (S33), y_ = (x5_1 ++ [(⟨wrap32 (wrap64 ((wrap64 (x6_1 + 1)) + ((((rd_T33 l0 x7_1).f0) % 4294967296) % 3000))), wrap32 (wrap64 ((wrap64 ((wrap64 (x6_1 + 1)) + ((((rd_T33 l0 x7_1).f0) % 4294967296) % 3000))) + ((((rd_T33 l0 x7_1).f1) % 4294967296) % 600))), wrap64 (Int.tmod (IntKind.u64.wrap ((rd_T33 l0 x7_1).f2)) (IntKind.u64.wrap (a1)))⟩ : S33)]) := ⟨_, rfl⟩; replace H : (stanzalaw02_Right.l0 kj2 l0 a1 y123 (wrap64 ((wrap64 ((wrap64 (x6_1 + 1)) + ((((rd_T33 l0 x7_1).f0) % 4294967296) % 3000))) + ((((rd_T33 l0 x7_1).f1) % 4294967296) % 600))) (wrap64 (x7_1 + 1))) = some r := by first | (rw [hy123]; with_reducible exact H) | (have H2_ := (Option.bind_some _ _).symm.trans H; rw [hy123]; with_reducible exact H2_) | (have H2_ := (Option.bind_some _ _).symm.trans H; with_reducible exact H2_) | with_reducible exact H | (rw [hy123]; exact H) | exact H
   have Ny123 := Aside0.mk hy123; clear hy123; have H' := Aside0.mk H
   clear H; have p120 : 0 ≤ (x7_1 : Int) := aD
   have q120 : x7_1 < (l0.length : Int) := aD
   obtain ⟨ad120, e120, hx120_0, hx120_1, hx120_2⟩ := at_T33 HR0.out x7_1 p120 q120; cases e120
   replace hx120_0 := (HB.out.cell (World.block_lt_of_cell? w _ hx120_0)).trans hx120_0; replace hx120_1 := (HB.out.cell (World.block_lt_of_cell? w _ hx120_1)).trans hx120_1; replace hx120_2 := (HB.out.cell (World.block_lt_of_cell? w _ hx120_2)).trans hx120_2; replace p120 := eq_true p120; replace q120 := eq_true q120; have p121 : 0 ≤ (x7_1 : Int) := aD
   have q121 : x7_1 < (l0.length : Int) := aD
   obtain ⟨ad121, e121, hx121_0, hx121_1, hx121_2⟩ := at_T33 HR0.out x7_1 p121 q121; obtain rfl : ad120 = ad121 := (by injection e121)
   replace hx121_0 := (HB.out.cell (World.block_lt_of_cell? w _ hx121_0)).trans hx121_0; replace hx121_1 := (HB.out.cell (World.block_lt_of_cell? w _ hx121_1)).trans hx121_1; replace hx121_2 := (HB.out.cell (World.block_lt_of_cell? w _ hx121_2)).trans hx121_2; replace p121 := eq_true p121; replace q121 := eq_true q121; have p122 : 0 ≤ (x7_1 : Int) := aD
   have q122 : x7_1 < (l0.length : Int) := aD
   obtain ⟨ad122, e122, hx122_0, hx122_1, hx122_2⟩ := at_T33 HR0.out x7_1 p122 q122; obtain rfl : ad120 = ad122 := (by injection e122)
   replace hx122_0 := (HB.out.cell (World.block_lt_of_cell? w _ hx122_0)).trans hx122_0; replace hx122_1 := (HB.out.cell (World.block_lt_of_cell? w _ hx122_1)).trans hx122_1; replace hx122_2 := (HB.out.cell (World.block_lt_of_cell? w _ hx122_2)).trans hx122_2; replace p122 := eq_true p122; replace q122 := eq_true q122; go_wp2_with (first | ((with_reducible refine gate_builtin (b := .append) (xs := #[.tmp 43, .tmp 59]) rfl ?_); at_builtin; refine Kd.R_append k33 (w0 := w) w.heap.size rfl (.tmp 43) (.tmp 59) 22 33 (.agg #[(.int .i32 0), (.int .i32 0), (.int .i64 0)]) 16 rfl Try.underlying22 info33 rfl (by decide) (by omega) u5 x5_1 (⟨wrap32 (wrap64 ((wrap64 (x6_1 + 1)) + ((((rd_T33 l0 x7_1).f0) % 4294967296) % 3000))), wrap32 (wrap64 ((wrap64 ((wrap64 (x6_1 + 1)) + ((((rd_T33 l0 x7_1).f0) % 4294967296) % 3000))) + ((((rd_T33 l0 x7_1).f1) % 4294967296) % 600))), wrap64 (Int.tmod (IntKind.u64.wrap ((rd_T33 l0 x7_1).f2)) (IntKind.u64.wrap (a1)))⟩ : S33) [.int .i32 (wrap32 (wrap64 ((wrap64 (x6_1 + 1)) + ((((rd_T33 l0 x7_1).f0) % 4294967296) % 3000)))), .int .i32 (wrap32 (wrap64 ((wrap64 ((wrap64 (x6_1 + 1)) + ((((rd_T33 l0 x7_1).f0) % 4294967296) % 3000))) + ((((rd_T33 l0 x7_1).f1) % 4294967296) % 600)))), .int .i64 (wrap64 (Int.tmod (IntKind.u64.wrap ((rd_T33 l0 x7_1).f2)) (IntKind.u64.wrap (a1))))] (fun _ => True) (fun _ => False) rfl rfl ?aP (fun _ hk => hk.elim) ?aF ?aO ?aB ?aS ?aL ?_; (case aP => exact k33_mkM _ _ _ (⟨wrap32 (wrap64 ((wrap64 (x6_1 + 1)) + ((((rd_T33 l0 x7_1).f0) % 4294967296) % 3000))), wrap32 (wrap64 ((wrap64 ((wrap64 (x6_1 + 1)) + ((((rd_T33 l0 x7_1).f0) % 4294967296) % 3000))) + ((((rd_T33 l0 x7_1).f1) % 4294967296) % 600))), wrap64 (Int.tmod (IntKind.u64.wrap ((rd_T33 l0 x7_1).f2)) (IntKind.u64.wrap (a1)))⟩ : S33)); (case aB => exact (aL HB)); (case aF => exact (fun _ _ => trivial)); (case aO => exact (aR HO_5)); (case aS => exact (below_size (aL HB))); (case aL => have := LMc10.out; omega); intro v124 w11 ho hb hg hat; rw [← Ny123.out] at ho; replace HB := Aside0.mk (hb); have HO125 := Aside0.mk (ho); clear HO_5; clear ho hb hg hat))
   go_roundg kj2
   case measure => have := HK1.out; have := HJ2.out; omega
   case rel => exact ⟨(y123), (wrap64 ((wrap64 ((wrap64 (x6_1 + 1)) + ((((rd_T33 l0 x7_1).f0) % 4294967296) % 3000))) + ((((rd_T33 l0 x7_1).f1) % 4294967296) % 600))), (wrap64 (x7_1 + 1)), aZ, aZ, H', ⟨by have := HK1.out; have := HJ2.out; omega⟩, ⟨aR HO125⟩, ⟨aL HB⟩⟩
def sk_ (x : List Int) : Lit := .string (strOfNums x).data.toList
theorem sk_inj {a b : List Int} (ha : Byt a) (hb : Byt b) (h : sk_ a = sk_ b) : a = b := by
 unfold sk_ at h
 rw [strOfNums_data, strOfNums_data] at h; injection h with h
 refine List.ext_getElem (by rw [ha.1, hb.1]) (fun i h1 h2 => ?_)
 have e := congrArg (fun l => l[i]?) h
 simp only [List.getElem?_map, List.getElem?_eq_getElem h1, List.getElem?_eq_getElem h2, Option.map_some, Option.some.injEq] at e; have q1 := ha.2 _ (List.getElem_mem h1); have q2 := hb.2 _ (List.getElem_mem h2); have e2 := congrArg UInt8.toNat e; rw [UInt8.toNat_ofNat', UInt8.toNat_ofNat', Nat.mod_eq_of_lt (by omega), Nat.mod_eq_of_lt (by omega)] at e2
 omega
theorem sk_key {x : List Int} (h : Byt x) : keyOf Try.prog 9 (.string (strOfNums x)) = some (sk_ x) :=
 WideMaps.keyOf_string_mk Try.underlying9 (by rw [strOfNums_size, h.1]; decide)
theorem law9_ : Maps.Keyed Try.prog 9 := Maps.string_keyed Try.underlying9
structure SeenB (D : DataW Unit) (bs : List (List Int)) : Prop where
 size : Maps.size D = bs.length
 has : ∀ x, Byt x → Maps.has D (sk_ x) = decide (x ∈ bs)
theorem SeenB.put {D : DataW Unit} {bs : List (List Int)} (h : SeenB D bs) (ht : Maps.Tidy D) {y : List Int} (hy : Byt y) (u : DataW Unit) : SeenB (D.put (sk_ y) u) (if y ∈ bs then bs else bs ++ [y]) := by
 have hk := law9_.key (sk_key hy); refine ⟨?_, fun x hx => ?_⟩
 ·rw [Maps.size_put ht, h.has y hy, h.size]
  by_cases hm : y ∈ bs
  ·rw [decide_eq_true hm, if_pos hm]; rfl
  rw [decide_eq_false hm, if_neg hm, List.length_append]; rfl
 by_cases e : x = y
 ·subst e
  rw [Maps.has_put_same ht.isMap hk]; by_cases hm : x ∈ bs
  ·rw [if_pos hm, decide_eq_true hm]
  rw [if_neg hm, decide_eq_true (by simp)]
 rw [Maps.has_put_other (fun h2 => e (sk_inj hx hy h2)), h.has x hx]
 by_cases hm : y ∈ bs
 ·rw [if_pos hm]
 rw [if_neg hm]; have : x ∈ bs ++ [y] ↔ x ∈ bs := by simp [e]
 simp only [this]
theorem SeenB.start (u : DataW Unit) : SeenB ((Maps.setOf u []).put (sk_ zerosR) u) [zerosR] := by
 have h0 : SeenB (Maps.setOf u []) [] := ⟨rfl, fun x _ => by rw [decide_eq_false (by simp)]; rfl⟩
 have := h0.put Maps.tidy_empty zerosR_byt u
 rwa [if_neg (by simp)] at this
theorem SeenB.step {D : DataW Unit} {L : List (Int × Int × Int)} {i : Nat} (h : SeenB D (blR L i)) (ht : Maps.Tidy D) (hy : Byt (rowR L i)) (u : DataW Unit) : SeenB (D.put (sk_ (rowR L i)) u) (blR L (i + 1)) := by
 rw [blR_succ]; exact h.put ht hy u
theorem run_make256 : ∀ w : World, (Instr.makeSlice 36 (.int .i64 256) (.int .i64 256)).run Try.prog w = .ok (.slice (some ⟨w.heap.size, 0, none⟩) 256 256) (w.alloc (.cells (bcs zerosR).toArray 5)) := fun w => by kernel_rfl
section
variable {P : Program} {ops : Array Oper} {rest : List Oper} {o : Oper} {a : Act} {Q : Exit → Act → World → Prop}
theorem byt_C {w : World} {gb : Nat} {b : List Int} (h : Byt b) (hb : w.heap[gb]? = some (.cells (bcs b).toArray 5)) : (Kd.int .u8).C w (some ⟨gb, 0, none⟩) 256 b := by
 have := h.1
 refine Kd.C_of_reads (d := (0 : Int)) ⟨h.1, by decide, fun _ => ⟨_, rfl, fun j hj => ?_⟩⟩
 have e : (({ block := gb, off := 0 } : Addr).add j) = ⟨gb, j, none⟩ := by simp [Addr.add]; intro h; exact h.symm
 rw [e, cell_of_row w gb j _ 5 _ hb, List.getElem?_toArray, List.getElem?_eq_getElem (by rw [bcs_len]; omega), bcs_get]
theorem make256_event {W : World} (hgd : o.guard = none) {t : TypeId} {x y : Operand} (ho : o.op = .makeSlice t x y) (zb : Array Value)
  (hr : (Instr.makeSlice t (a.eval x) (a.eval y)).run P W = .ok (.slice (some ⟨W.heap.size, 0, none⟩) 256 256) (W.alloc (.cells zb 5)))
  (h : ∀ g w1, g = W.heap.size → w1.heap[g]? = some (.cells zb 5) → Below W.heap.size W w1 → wpList P ops Q rest (a.put o.dst (.slice (some ⟨g, 0, none⟩) 256 256)) w1) : wpList P ops Q (o :: rest) a W := by
 refine Kd.event_run hgd (v := .slice (some ⟨W.heap.size, 0, none⟩) 256 256) (w1 := W.alloc (.cells zb 5)) ?_ (h _ _ rfl (heap_alloc_new W _) (below_alloc (Below.refl _ _) _))
 unfold execOp
 simp only [ho, Sem.run_bind, hr]; rfl
theorem makemap_event {H : Type} {W : World} (hgd : o.guard = none) {t : TypeId} (ho : o.op = .makeMap t none) (k : TypeId) (R : Value → Option (DataW H × List MemPlace))
  (h : ∀ g w1, W.heap.size ≤ g → w1.ownsMap P k R g 0 (.map []) → Below W.heap.size W w1 → wpList P ops Q rest (a.put o.dst (.map (some g))) w1) : wpList P ops Q (o :: rest) a W := by
 have hr := run_makeMap (P := P) t W; refine Kd.event_run hgd (v := .map (some W.heap.size)) (w1 := W.alloc (.map #[] 0)) ?_ (h _ _ (Nat.le_refl _) (World.ownsMap_made _ _ _ _) (below_alloc (Below.refl _ _) _))
 unfold execOp
 simp only [ho, Option.map_none, Sem.run_bind, hr]; rfl
theorem insert_event {H : Type} {w : World} (hg : o.guard = none) (m x v : Operand) (t : TypeId) (hop : o.op = Op.insert t m x v)
  (k e : TypeId) (K : Maps.Keyed P k) (ht : P.underlying t = some (.map k e)) (R : Value → Option (DataW H × List MemPlace)) (b n : Nat) (D : DataW H)
  (hm : a.eval m = .map (some b)) (hown : w.ownsMap P k R b n D) (hn : n < maxLen) (key val : Value) (kl : Lit) (hx : a.eval x = key) (hv : a.eval v = val) (hkey : keyOf P k key = some kl)
  (d : DataW H) (ps : List MemPlace) (hval : R val = some (d, ps))
  (hK : ∀ w', w'.ownsMap P k R b (n + 1) (D.put kl d) → w.grownBy w' (some b) → wpList P ops Q rest (a.put o.dst undef) w') :
  wpList P ops Q (o :: rest) a w := by
 refine wpList_plain hg fun K' hK' => ?_
 obtain ⟨w', hrun, r1, r2⟩ := hown.update K ht hn hkey hval; unfold Oper.wp
 simp [execOp, hop, hm, hx, hv, hrun, Result.andThen]
 exact hK' _ _ (hK w' r1 r2)
end
theorem blR_stop {L : List (Int × Int × Int)} {i : Nat} (hi : i ≤ 4352) (h : ∀ m x, m < L.length → L[m]? = some x → x.2.1 < (i : Int) * 256) : tabBl (some L) = ((blR L i).length : Int) := by
 have hz : ∀ j, i ≤ j → rowR L j = zerosR := fun j hj => by
  rw [← preR_len (n := L.length) rfl]; exact preR_zero (fun m x hm hx => by have := h m x hm hx; omega)
 have h1 : ∀ d, blR L (i + d) = blR L i := by
  intro d
  induction d with
  | zero => rfl
  | succ d ih => rw [← Nat.add_assoc, blR_succ, if_pos (by rw [hz _ (by omega)]; exact zerosR_mem L _), ih]
 have h2 := h1 (4352 - i); rw [Nat.add_sub_cancel' hi] at h2; unfold tabBl
 show ((blR L 4352).length : Int) = _
 rw [h2]
structure BI (w3 : World) (gm gb n : Nat) (D : DataW Unit) (b : List Int) (W : World) : Prop where
 map : W.ownsMap Try.prog 9 (plainElem Try.prog 4) gm n D
 row : W.heap[gb]? = some (.cells (bcs b).toArray 5)
 bel : Below w3.heap.size w3 W
 gbb : w3.heap.size ≤ gb
section
variable {w3 : World} {gm gb n : Nat} {D : DataW Unit} {b : List Int} {W : World}
theorem BI.lt (h : BI w3 gm gb n D b W) : gb < W.heap.size := (Array.getElem?_eq_some_iff.1 h.row).1
theorem BI.ne (h : BI w3 gm gb n D b W) : gm ≠ gb := by
 rintro rfl
 obtain ⟨es, c, hb, _⟩ := h.map; rw [h.row] at hb; cases hb
theorem BI.fresh (h : BI w3 gm gb n D b W) {W' : World} (hb : Below W.heap.size W W') : BI w3 gm gb n D b W' := ⟨h.map.kept (grown_of_below hb none) (by simp), blk_below h.row hb, below_step h.bel hb, h.gbb⟩
theorem BI.far (h : BI w3 gm gb n D b W) {g : Nat} (h1 : w3.heap.size ≤ g) (h2 : g ≠ gm) (h3 : g ≠ gb) (q : Nat) (u : Value) : BI w3 gm gb n D b (W.setCell ⟨g, q, none⟩ u) :=
 have hg := grown_setCell W ⟨g, q, none⟩ u
 ⟨h.map.kept hg (fun e => h2 (Option.some.inj e).symm), (hg.block gb h.lt (fun e => h3 (Option.some.inj e).symm)).trans h.row, below_set h.bel h1, h.gbb⟩
theorem BI.set (h : BI w3 gm gb n D b W) (q : Nat) (x : Int) : BI w3 gm gb n D (b.set q x) (W.setCell ⟨gb, q, none⟩ (.int .u8 x)) :=
 have hg := grown_setCell W ⟨gb, q, none⟩ (.int .u8 x)
 ⟨h.map.kept hg (fun e => h.ne (Option.some.inj e)), (heap_setCell_same W gb q _ 5 _ h.row).trans (by rw [List.setIfInBounds_toArray, bcs_set]), below_set h.bel h.gbb, h.gbb⟩
end
def stanzalaw02_PropBlocks.f (k : Nat) (l0 : List (S33)) : Option Bool := (stanzalaw02_Awake.f).bind fun t => if t = true then (stanzalaw02_Right.f k l0 3).bind fun y => if prop_Make.c y 3 = true then some true else some false else some false
theorem stanzalaw02_PropBlocks.mono : ∀ a0 k, LeO (stanzalaw02_PropBlocks.f k a0) (stanzalaw02_PropBlocks.f (k + 1) a0) := by
 intro a0 k
 unfold stanzalaw02_PropBlocks.f
 refine LeO.bind (LeO.refl _) (fun _ => ?_)
 refine LeO.ite ?_ (LeO.refl _)
 exact LeO.bind (stanzalaw02_Right.mono _ _ _) (fun _ => LeO.refl _)
set_option maxHeartbeats 8000000 in
set_option maxRecDepth 100000 in
theorem stanzalaw02_PropBlocks.calls (k : Nat) (A0 : Option Addr) (c0 : Nat) (l0 : List (S33)) (r : Bool) (w : World) (hr0 : Kd.C k33 w A0 l0.length l0) (hc0 : l0.length ≤ c0) (h : stanzalaw02_PropBlocks.f k l0 = some r) (hrt_ : Aside0 (r = true)) :
  Calls Try.prog 5 #[.slice A0 l0.length c0] w fun e w' => e = .returned (.bool r) ∧ Below w.heap.size w w' := by
 obtain rfl : r = true := hrt_.out
 unfold stanzalaw02_PropBlocks.f at h
 obtain ⟨t1, A10, H⟩ := Option.bind_eq_some_iff.mp h; clear h; have A1 := Aside0.mk A10; clear A10; cases t1 with
 | false => exact absurd (Option.some.inj (show some false = some true from H)) (by decide)
 | true =>
 obtain ⟨y, A20, H⟩ := Option.bind_eq_some_iff.mp (show (stanzalaw02_Right.f k l0 3).bind _ = some true from H); have A2 := Aside0.mk A20; clear A20; by_cases hc : prop_Make.c y 3 = true
 rotate_left
 ·rw [if_neg hc] at H
  exact absurd (Option.some.inj H) (by decide)
 clear H; have A3 : Aside0 (prop_MakeY.f y 3 = some (some (y.map prop_Make.t))) := ⟨by unfold prop_MakeY.f; rw [if_pos hc]⟩
 have HF : Aside0 (chkGo 3 (-1) (y.map prop_Make.t) = true) := ⟨chkR_go hc⟩
 have HLEN : Aside0 (y.length ≤ 256) := ⟨by have := chkR_len hc; rwa [List.length_map] at this⟩
 clear hc; obtain ⟨L, hL⟩ : ∃ L, L = y.map prop_Make.t := ⟨_, rfl⟩; rw [← hL] at A3 HF; have HL : Aside0 (∀ m, m < y.length → L[m]? = some ((rd_T33 y (m : Int)).f0, (rd_T33 y (m : Int)).f1, (rd_T33 y (m : Int)).f2)) := ⟨fun m hm => by rw [hL]; exact prop_Make.at y m hm⟩
 have HLL : Aside0 (L.length = y.length) := ⟨by rw [hL, List.length_map]⟩
 clear hL; have HR0 := Aside0.mk hr0; clear hr0; have HB := Aside0.mk (Below.refl w.heap.size w); obtain ⟨zb, hzb⟩ : ∃ zb, zb = (bcs zerosR).toArray := ⟨_, rfl⟩; have hR1 := run_make256; rw [← hzb] at hR1; have HZB := Aside0.mk hzb; clear hzb; go_enter Try.func5, Try.ntmps5
 go_wp2_with (first
  | (go_at_call 9; refine (stanzalaw02_Awake.calls true _ A1.out ⟨rfl⟩).mono ?_; rintro e w1 ⟨rfl, hb⟩; have n0_ := Aside0.mk (below_step HB.out hb); clear HB; have HB := n0_; clear n0_ hb)
  | (go_at_call 13; refine (stanzalaw02_Right.calls k _ _ l0 3 y _ (Kd.zG HR0.out HB.out) hc0 A2.out).mono ?_; rintro e w2 ⟨v2, rfl, ho0, hb⟩; have HO := Aside0.mk (Kd.zL ho0 (below_size HB.out)); have n1_ := Aside0.mk (below_step HB.out hb); clear HB hb ho0; have HB := n1_; clear n1_; obtain ⟨Ao, co, eo⟩ := Kd.zK HO.out; subst eo)
  | (go_at_call 11; refine (prop_MakeY.calls _ _ y 3 (some L) _ (Kd.zH HO.out).2.2 (Kd.zH HO.out).2.1 A3.out).mono ?_; rintro e w3 ⟨g1, o1, g2, o2, rfl, hx1, hx2, hg1, hg2, hne, htb, hb⟩; have HT := Aside0.mk (htb.at hx1 hx2); have HC := Aside0.mk (Kd.zG (Kd.zH HO.out).2.2 hb); have n1_ := Aside0.mk (below_step HB.out hb); clear HB hb hx1 hx2 hg1 hg2 hne htb HO; have HB := n1_; clear n1_)
  | (refine makemap_event (H := Unit) rfl rfl 9 (plainElem Try.prog 4) ?_; intro gm w4 hgm hom hb; have HGM := Aside0.mk hgm; have HM := Aside0.mk hom; have HW := Aside0.mk hb; clear hgm hom hb)
  | (refine make256_event rfl rfl zb (hR1 _) ?_; intro gb w5 hgb hgb2 hb5; have n1_ := Aside0.mk (HM.out.kept (grown_of_below hb5 none) (by simp)); have n2_ := Aside0.mk (below_step HW.out hb5); have hcv := Kd.C_string (P := Try.prog) (c := 256) (src := 36) (dst := 9) Try.underlying36 Try.underlying5 Try.underlying9 (byt_C zerosR_byt (by rw [hgb2, HZB.out])); clear HM HW hgb hgb2 hb5; have HM := n1_; have HW := n2_; clear n1_ n2_)
  | (refine insert_event rfl _ _ _ 37 rfl 9 4 law9_ Try.underlying37 (plainElem (H := Unit) Try.prog 4) gm 0 _ rfl HM.out (by decide) _ _ (sk_ zerosR) rfl rfl (sk_key zerosR_byt) (.lit (.bool true)) [] (plainElem_bool Try.underlying4 true) ?_; intro w6 hown hgr; have n1_ := Aside0.mk hown; have n2_ := Aside0.mk (pw_below_grown HW.out (some gm) HW.out.size hgr (fun q e => by obtain rfl := Option.some.inj e; exact HGM.out)); clear HM HW hown hgr; have HM := n1_; have HW := n2_; clear n1_ n2_))
 clear H hrt_ hcv A1 A2 A3 HR0 hc0; have HS0 := Aside0.mk (SeenB.start (.lit (.bool true))); generalize hD : (DataW.map []).put (sk_ zerosR) (DataW.lit (Lit.bool true)) = D0 at HM
 have HS : Aside0 (SeenB D0 (blR L 0)) := ⟨by rw [← hD, blR_zero]; exact HS0.out⟩
 clear HS0 hD; go_loopw [6] (fun v6 wr => ∃ (i : Nat) (D : DataW Unit), v6 = .int .i32 (i : Int) ∧ i ≤ 4352 ∧ Aside0 (wr.ownsMap Try.prog 9 (plainElem Try.prog 4) gm (i + 1) D) ∧ Aside0 (SeenB D (blR L i)) ∧ Aside0 (Below w3.heap.size w3 wr)) (fun v6 _ => 4352 - (intOf v6).toNat)
 case atStart => exact ⟨0, D0, rfl, by omega, HM, HS, HW⟩
 clear HM HS HW; obtain ⟨i, D, rfl, hi, HM, HS, HW⟩ := hrel; by_cases hlt : i < 4352
 rotate_left
 ·have bi : decide ((i : Int) < 4352) = false := decide_eq_false (by omega)
  obtain rfl : i = 4352 := by omega
  have HZ := Aside0.mk (show tabBl (some L) = (Maps.size D : Int) by rw [HS.out.size]; rfl)
  clear hi hlt; go_wp2_with (first
   | (go_at_call 16; refine (prop_Table_Blocks.calls _ (some L) _ _ (HT.out.below HW.out) rfl).mono ?_; rintro e w' ⟨rfl, ⟨nd, rfl⟩⟩; rw [HZ.out])
   | (at_len; refine wpList_len_own _ rfl _ 37 rfl 9 4 Try.underlying37 (plainElem Try.prog 4) gm (4352 + 1) D rfl HM.out ?_))
  go_ret
  exact ⟨by simp, pw_below_drewN (below_then HB.out HB.out.size HW.out) nd⟩
 have bi : decide ((i : Int) < 4352) = true := decide_eq_true (by omega)
 by_cases hn0 : y.length = 0
 ·have HZ := Aside0.mk (show tabBl (some L) = (Maps.size D : Int) by rw [HS.out.size]; exact blR_stop hi (fun m x hm => by rw [HLL.out, hn0] at hm; omega))
  rw [hn0] at *; go_wp2_with         (first
  | (go_at_call 16; refine (prop_Table_Blocks.calls _ (some L) _ _ (HT.out.below HW.out) rfl).mono ?_; rintro e w' ⟨rfl, ⟨nd, rfl⟩⟩; rw [HZ.out])
  | (at_len; refine wpList_len_own _ rfl _ 37 rfl 9 4 Try.underlying37 (plainElem Try.prog 4) gm (i + 1) D rfl HM.out ?_))
  go_ret
  exact ⟨by simp, pw_below_drewN (below_then HB.out HB.out.size HW.out) nd⟩
 obtain ⟨q, hq⟩ : ∃ q, y.length = q + 1 := ⟨y.length - 1, by omega⟩
 have hq2 : q < 256 := by have := HLEN.out; omega
 have hql : q < y.length := by omega
 have hq0 : ((y.length : Int) == 0) = false := beq_eq_false_iff_ne.2 (by omega)
 have hqw : wrap64 ((y.length : Int) - 1) = (q : Int) := by unfold wrap64; omega
 have HQ := Aside0.mk hq; clear hq; obtain ⟨ad, rfl, x0, x1, x2⟩ := at_T33 (Kd.zG HC.out HW.out) (q : Int) (by omega) (by omega)
 have hLq := Aside0.mk (HL.out q (by omega))
 simp only [Int.toNat_natCast] at x0 x1 x2; generalize rd_T33 y (q : Int) = z at x0 x1 x2 hLq
 clear x0 x2; by_cases hz : z.f1 < (i : Int) * 256
 ·have hzb : decide (z.f1 < (i : Int) * 256) = true := decide_eq_true hz
  have HZ := Aside0.mk (show tabBl (some L) = (Maps.size D : Int) by
   rw [HS.out.size]; refine blR_stop hi (fun m x hm hx => ?_)
   rw [HLL.out] at hm; rcases Nat.lt_or_ge m q with h1 | h1
   ·have h2 := chkGo_lt HF.out m q x _ h1 hx hLq.out
    have h3 := chkGo_get HF.out q _ hLq.out; simp only at h2 h3
    omega
   ·obtain rfl : m = q := by have := HQ.out; omega
    rw [hLq.out] at hx; obtain rfl := Option.some.inj hx
    exact hz)
  go_wp2_with         (first
 | (go_at_call 16; refine (prop_Table_Blocks.calls _ (some L) _ _ (HT.out.below HW.out) rfl).mono ?_; rintro e w' ⟨rfl, ⟨nd, rfl⟩⟩; rw [HZ.out])
 | (at_len; refine wpList_len_own _ rfl _ 37 rfl 9 4 Try.underlying37 (plainElem Try.prog 4) gm (i + 1) D rfl HM.out ?_))
  go_ret
  exact ⟨by simp, pw_below_drewN (below_then HB.out HB.out.size HW.out) nd⟩
 have hzb : decide (z.f1 < (i : Int) * 256) = false := decide_eq_false hz
 go_upto_block 2 with (refine make256_event rfl rfl zb (hR1 _) ?_; intro gb w7 hgb hgb2 hb7; have HI := Aside0.mk (BI.mk (HM.out.kept (grown_of_below hb7 none) (by simp)) (by rw [hgb2, HZB.out]) (below_step HW.out hb7) (by rw [hgb]; exact HW.out.size)); clear hgb hgb2 hb7 HM HW)
 clear x1 hLq hzb hz hn0; (try simp only [Act.put, sA_, sB_, sC_])
 go_cut [] (fun wc => Aside0 (BI w3 gm gb (i + 1) D (rowR L i) wc))
 case first =>
  go_wp2
  go_loopw [48] (fun v48 wr => ∃ n : Nat, v48 = .int .i64 (n : Int) ∧ n ≤ y.length ∧ Aside0 (BI w3 gm gb (i + 1) D (preR L i n) wr)) (fun v48 _ => y.length - (intOf v48).toNat)
  case atStart => exact ⟨0, rfl, by omega, ⟨by rw [preR_zero (fun m x hm => absurd hm (Nat.not_lt_zero m))]; exact HI.out⟩⟩
  clear HI; obtain ⟨n, rfl, hn, HI⟩ := hrel; by_cases hnq : n < y.length
  rotate_left
  ·obtain rfl : n = y.length := by omega
   go_wp2
   go_meet
   case rel => exact ⟨by rw [← preR_len HLL.out]; exact HI.out⟩
  have b1 : decide ((n : Int) < (y.length : Int)) = true := decide_eq_true (by omega)
  obtain ⟨ad', e', x0, x1, x2⟩ := at_T33 (Kd.zG HC.out HI.out.bel) (n : Int) (by omega) (by omega)
  obtain rfl : ad = ad' := by injection e'
  simp only [Int.toNat_natCast] at x0 x1 x2; have hLn := Aside0.mk (HL.out n (by omega))
  have hch := Aside0.mk (chkGo_get HF.out n _ hLn.out); generalize rd_T33 y (n : Int) = z2 at x0 x1 x2 hLn hch
  clear e'; go_upto_block 3 with (fail)
  (try simp only [Act.put, sA_, sB_, sC_])
  go_cut [] (fun wc => Aside0 (BI w3 gm gb (i + 1) D (preR L i (n + 1)) wc))
  case first =>
   obtain ⟨r0, hr0⟩ : ∃ r0, (if z2.f0 < (i : Int) * 256 then (i : Int) * 256 else z2.f0) = r0 := ⟨_, rfl⟩; go_wp2_with (first
    | ((with_reducible refine gate_dst (N := 9) rfl ?_); refine box_event rfl (N := 9) rfl (cs := #[.int .i32 0, .int .i32 0, .int .i64 0]) (t := 33) ?hr ?_; (case hr => first | (go_simp; done) | (go_simp; rfl)); intro gx hgx w8 hgx2 hb8; have n1_ := Aside0.mk (HI.out.fresh hb8); have HX := Aside0.mk hgx2; have HNX := Aside0.mk (show w3.heap.size ≤ gx ∧ gx ≠ gm ∧ gx ≠ gb from ⟨by rw [hgx]; exact HI.out.bel.size, fun e => by have := HI.out.map.lt; omega, fun e => by have := HI.out.lt; omega⟩); clear hgx hgx2 hb8 HI; have HI := n1_; clear n1_; have hcz0 : w8.cell? ⟨gx, 0, none⟩ = some (.int .i32 0) := (blk_cell HX.out 0).trans rfl; have hcz1 : w8.cell? ⟨gx, 1, none⟩ = some (.int .i32 0) := (blk_cell HX.out 1).trans rfl; have hcz2 : w8.cell? ⟨gx, 2, none⟩ = some (.int .i64 0) := (blk_cell HX.out 2).trans rfl; have hfz0 := blk_frozen HX.out 0; have hfz1 := blk_frozen HX.out 1; have hfz2 := blk_frozen HX.out 2)
    | ((with_reducible refine gate_store (t := 33) (p := 9) rfl ?_); refine store_event (t := 33) (p := 9) (v := ?vo_) (w1 := (((w8.setCell ⟨gx, 0, none⟩ (.int .i32 z2.f0)).setCell ⟨gx, 1, none⟩ (.int .i32 z2.f1)).setCell ⟨gx, 2, none⟩ (.int .i64 z2.f2))) ?hg ?ho ?hn ?hr ?_; (case ho => rfl); (case hg => rfl); (case hn => rfl); (case hr => first | (go_simp; done) | (go_simp; rfl)); intro w9 hw9; have n1_ : Aside0 (BI w3 gm gb (i + 1) D (preR L i n) w9) := ⟨by rw [hw9]; exact ((HI.out.far HNX.out.1 HNX.out.2.1 HNX.out.2.2 0 _).far HNX.out.1 HNX.out.2.1 HNX.out.2.2 1 _).far HNX.out.1 HNX.out.2.1 HNX.out.2.2 2 _⟩; have n2_ : Aside0 (w9.heap[gx]? = some (.cells #[.int .i32 z2.f0, .int .i32 z2.f1, .int .i64 z2.f2] 33)) := ⟨by rw [hw9]; exact blk_put (blk_put (blk_put HX.out 0 _ rfl) 1 _ rfl) 2 _ rfl⟩; clear HI HX hw9 hcz0 hcz1 hcz2 hfz0 hfz1 hfz2; have HI := n1_; have HX := n2_; clear n1_ n2_; have hx0 : w9.cell? ⟨gx, 0, none⟩ = some (.int .i32 z2.f0) := (blk_cell HX.out 0).trans rfl))
   clear x0 x1 x2 hx0; obtain ⟨hc1, hc2, hc3, hc4, _, hc5⟩ := hch.out; have hr1 : z2.f0 ≤ r0 ∧ (i : Int) * 256 ≤ r0 ∧ (r0 ≤ z2.f0 ∨ r0 ≤ (i : Int) * 256) ∧ r0 ≤ 1114112 := by rw [← hr0]; split <;> omega
   clear hr0 b1; go_loopw [10] (fun v10 wq => ∃ r : Int, v10 = .int .i32 r ∧ z2.f0 ≤ r ∧ (i : Int) * 256 ≤ r ∧ r ≤ 1114112 ∧ Aside0 (BI w3 gm gb (i + 1) D (midR L i n z2.f0 z2.f1 z2.f2 r) wq) ∧ Aside0 (wq.heap[gx]? = some (.cells #[.int .i32 z2.f0, .int .i32 z2.f1, .int .i64 z2.f2] 33))) (fun v10 _ => (1114112 - intOf v10).toNat)
   case atStart => exact ⟨r0, rfl, hr1.1, hr1.2.1, hr1.2.2.2, ⟨by rw [midR_start hr1.2.2.1]; exact HI.out⟩, HX⟩
   clear HI HX hr1; obtain ⟨r, rfl, hr1, hr2, hr3, HI, HX⟩ := hrel; obtain ⟨m, rfl⟩ := Int.eq_ofNat_of_zero_le (show 0 ≤ r by omega)
   have hx1 : wr.cell? ⟨gx, 1, none⟩ = some (.int .i32 z2.f1) := (blk_cell HX.out 1).trans rfl
   have hx2 : wr.cell? ⟨gx, 2, none⟩ = some (.int .i64 z2.f2) := (blk_cell HX.out 2).trans rfl
   obtain ⟨mn, hmn⟩ : ∃ mn, (if (i : Int) * 256 + 255 < z2.f1 then (i : Int) * 256 + 255 else z2.f1) = mn := ⟨_, rfl⟩; by_cases hq' : (m : Int) ≤ z2.f1 ∧ (m : Int) ≤ (i : Int) * 256 + 255
   rotate_left
   ·have hm2 : decide ((m : Int) ≤ mn) = false := decide_eq_false (by rw [← hmn]; split <;> omega)
    go_wp2
    go_meet
    case rel => exact ⟨by rw [← midR_end hLn.out (show z2.f1 < (m : Int) ∨ (i : Int) * 256 + 255 < (m : Int) by omega)]; exact HI.out⟩
   have hm2 : decide ((m : Int) ≤ mn) = true := decide_eq_true (by rw [← hmn]; split <;> omega)
   obtain ⟨p, hpp⟩ : ∃ p, p = m % 256 := ⟨_, rfl⟩; have hand := i32_and255 m (by omega)
   rw [← hpp] at hand; have hp1 : (p : Int) < 256 := by omega
   have hp3 : p = ((m : Int) - (i : Int) * 256).toNat := by omega
   clear hpp; have HC3 := Aside0.mk hp3; clear hp3; have hfz : wr.frozen? ⟨gb, p, none⟩ = false := frozen_of_row wr gb p _ 5 HI.out.row
   have hcc : wr.cell? ⟨gb, p, none⟩ = some (.int .u8 ((midR L i n z2.f0 z2.f1 z2.f2 (m : Int)).getD p 0)) := by
    rw [cell_of_row wr gb p _ 5 _ HI.out.row, List.getElem?_toArray, List.getElem?_eq_getElem (by rw [bcs_len, midR_len]; omega), bcs_get]
   generalize (midR L i n z2.f0 z2.f1 z2.f2 (m : Int)).getD p 0 = old at hcc
   go_wp2
   go_roundw
   case rel => exact ⟨(m : Int) + 1, by go_num, by omega, by omega, by omega, ⟨by have := HI.out.set p z2.f2; rw [HC3.out, midR_set (by omega) (by omega) (by omega) (by omega)] at this; rw [HC3.out]; exact this⟩, ⟨blk_farO HX.out HNX.out.2.2 _⟩⟩
   case measure => exact to_lt (show (1114112 : Int) - ((m : Int) + 1) < 1114112 - (m : Int) by omega) (show (0 : Int) < 1114112 - (m : Int) by omega)
  clear HI; have HI := hcut; clear hcut hqw; have hlen := HLEN.out; go_wp2
  go_roundw
  case rel => exact ⟨n + 1, by go_num, by omega, HI⟩
  case measure => simp [intOf]; omega
 clear HI; have HI := hcut; clear hcut; have HBY : Aside0 (Byt (rowR L i)) := ⟨rowR_byt HF.out i⟩
 have hcv := Kd.C_string (P := Try.prog) (c := 256) (src := 36) (dst := 9) Try.underlying36 Try.underlying5 Try.underlying9 (byt_C HBY.out HI.out.row); go_wp2_with (first
  | (at_mapUpdate; refine wpList_mapUpdate_own _ rfl _ _ _ 37 rfl 9 4 law9_ Try.underlying37 (plainElem Try.prog 4) gm (i + 1) D rfl HI.out.map (by unfold maxLen; omega) _ _ (sk_ (rowR L i)) rfl rfl (sk_key HBY.out) (.lit (.bool true)) [] (plainElem_bool Try.underlying4 true) ?_; intro w9 hown hgr))
 go_roundw
 case rel => exact ⟨i + 1, D.put (sk_ (rowR L i)) (.lit (.bool true)), by go_num, by omega, ⟨hown⟩, ⟨HS.out.step (HI.out.map.tidy law9_) HBY.out _⟩, ⟨pw_below_grown HI.out.bel (some gm) HI.out.bel.size hgr (fun q e => by obtain rfl := Option.some.inj e; exact HGM.out)⟩⟩
 case measure => simp [intOf]; omega
def stanzalaw02_PropBlocks.Pure : Prop := ∀ (l0 : List (S33)), (l0.length * 16 ≤ 140737488351232 ∧ ∀ y0 ∈ l0, ((Lit.int .i32 y0.f0).wf = true ∧ ((Lit.int .i32 y0.f1).wf = true ∧ (Lit.int .i64 y0.f2).wf = true))) → ∃ k, stanzalaw02_PropBlocks.f k l0 = some true
end Go.Proofs.Ytcgbndojpcaboaa.F
end
