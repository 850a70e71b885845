/- Printed by a program: Lean functions that answer as the Go functions do, and the proofs of it. -/
import Derived.Test.YtcgbndojpcaboaaProg
import Derived.Below
import Derived.Deep.Draws
import Derived.Deep.AppendLies
import Derived.Maps.AppendAt
import Derived.OwnWalk
import Derived.Laws.BytesArg
import Derived.Laws.MakeOwn
import Derived.Laws.OwnMore
import Derived.Deep.OwnRows
import Derived.Tactics
import Derived.Lib.ConvBytes
import Derived.Laws.Slices
import Derived.WalkKit
import Derived.KernelRfl
import Derived.RowKit3
import Derived.Deep.LoopGhost
import Derived.Deep.QuietTactic
import Derived.BigQuiet
import Derived.WideLaws
import Derived.Deep.DeepCutAuto
import Derived.Deep.CutBlock
import Derived.Deep.RegionHeld3
import Derived.Laws.Rows
import Derived.Lib.AppendStr
import Derived.ArgAppend
import Derived.Laws.IdiomCopy
import Derived.OrdersHeld
import Derived.Laws.BitsLemmas
import Derived.RowKit
import Derived.Laws.FloatArith
import Derived.Laws.CopyOwn
import Derived.Deep.RegionLaw
import Derived.Laws.MathBits
import Derived.Test.YtcgbndojpcaboaaXPropSplits0
section
namespace Go.Proofs.Ytcgbndojpcaboaa.F
open Go.RowKit Go.Proofs.YtcgbndojpcaboaaW.PrintWords Go.Proofs.YtcgbndojpcaboaaW.PrintLast Go.Proofs.YtcgbndojpcaboaaW.PrintMore
attribute [local go_sem] max2_int min2_int max_two min_two max_three min_three max_four min_four   -- for this text's walks alone
set_option linter.unusedVariables false
set_option linter.unusedSimpArgs false
def errW : Option Int → Value
 | none => .nilIface
 | some c => .iface 0 (.int .i64 c)
theorem errW_none : errW none = .nilIface := rfl
theorem errW_some (c : Int) : errW (some c) = .iface 0 (.int .i64 c) := rfl
theorem info3 : (Try.prog.info? 3).map (fun i => (i.zero, i.size, i.bytes)) = some (some (.int .i64 0), 1, 8) := by kernel_rfl
theorem info21 : (Try.prog.info? 21).map (fun i => (i.zero, i.size, i.bytes)) = some (some (.int .i32 0), 1, 4) := by kernel_rfl
theorem info33 : (Try.prog.info? 33).map (fun i => (i.zero, i.size, i.bytes)) = some (some (.agg #[(.int .i32 0), (.int .i32 0), (.int .i64 0)]), 3, 16) := by kernel_rfl
theorem info45 : (Try.prog.info? 45).map (fun i => (i.zero, i.size, i.bytes)) = some (some (.agg #[(.int .i32 0), (.int .i64 0), (.int .i64 0)]), 3, 24) := by kernel_rfl
structure S33 where
 f0 : Int
 f1 : Int
 f2 : Int
def z33 : S33 := ⟨(0 : Int), (0 : Int), (0 : Int)⟩
def k33 : Kd S33 := Kd.iso (Kd.pair (Kd.int .i32) (Kd.pair (Kd.int .i32) (Kd.int .i64))) (fun x : S33 => (x.f0, x.f1, x.f2))
theorem k33_open {w : World} {x : S33} {cs : List Value} (h : k33.K w x cs) : cs = [.int .i32 x.f0, .int .i32 x.f1, .int .i64 x.f2] := by
 obtain ⟨_, _, rfl, rfl, ⟨_, _, rfl, rfl, rfl⟩⟩ := h; exact rfl
theorem k33_openM {w : World} {base : Nat} {ok : Nat → Prop} {x : S33} {cs : List Value} (h : k33.M w base ok x cs) : cs = [.int .i32 x.f0, .int .i32 x.f1, .int .i64 x.f2] := by
 obtain ⟨_, _, rfl, rfl, ⟨_, _, rfl, rfl, rfl⟩⟩ := h; exact rfl
theorem k33_mk (w : World) (x : S33)  : k33.K w x [.int .i32 x.f0, .int .i32 x.f1, .int .i64 x.f2] := ⟨[.int .i32 x.f0], [.int .i32 x.f1, .int .i64 x.f2], rfl, rfl, ⟨[.int .i32 x.f1], [.int .i64 x.f2], rfl, rfl, rfl⟩⟩
theorem k33_mkM (w : World) (base : Nat) (ok : Nat → Prop) (x : S33)  : k33.M w base ok x [.int .i32 x.f0, .int .i32 x.f1, .int .i64 x.f2] := ⟨[.int .i32 x.f0], [.int .i32 x.f1, .int .i64 x.f2], rfl, rfl, ⟨[.int .i32 x.f1], [.int .i64 x.f2], rfl, rfl, rfl⟩⟩
def rd_T33 (xs : List S33) (i : Int) : S33 := xs.getD i.toNat z33
theorem at_T33 {w : World} {A : Option Addr} {n : Nat} {xs : List S33} (h : Kd.C k33 w A n xs) (i : Int) (h0 : 0 ≤ i) (h1 : i < n) : ∃ ad , A = some ad ∧ w.cell? (ad.add (i.toNat * 3)) = some (.int .i32 (rd_T33 xs i).f0) ∧ w.cell? ⟨(ad.add (i.toNat * 3)).block, (ad.add (i.toNat * 3)).off + 1, none⟩ = some (.int .i32 (rd_T33 xs i).f1) ∧ w.cell? ⟨(ad.add (i.toNat * 3)).block, (ad.add (i.toNat * 3)).off + 2, none⟩ = some (.int .i64 (rd_T33 xs i).f2) := by
 obtain ⟨ad, c, e, _, hK, hc0⟩ := Kd.C_get h z33 i h0 h1; have hc : ∀ j u, c[j]? = some u → w.cell? (ad.add (i.toNat * 3 + j)) = some u := hc0
 obtain rfl := k33_open hK
 exact ⟨ad, e, hc 0 _ rfl, by rw [← add_field _ _ 1 (by omega)]; exact hc 1 _ rfl, by rw [← add_field _ _ 2 (by omega)]; exact hc 2 _ rfl⟩
def rd_L3 (xs : List (List S33)) (i : Int) : (List S33) := xs.getD i.toNat ([] : List S33)
theorem at_L3 {w : World} {A : Option Addr} {n : Nat} {xs : List (List S33)} (h : Kd.C (Kd.slice 33 k33) w A n xs) (i : Int) (h0 : 0 ≤ i) (h1 : i < n) : ∃ ad A0 c0, A = some ad ∧ w.cell? (ad.add i.toNat) = some (.slice A0 (rd_L3 xs i).length c0) ∧ (rd_L3 xs i).length ≤ c0 ∧ k33.C w A0 (rd_L3 xs i).length (rd_L3 xs i) := by
 obtain ⟨ad, c, e, _, hK, hc0⟩ := Kd.C_get h ([] : List S33) i h0 h1; have hc : ∀ j u, c[j]? = some u → w.cell? (ad.add (i.toNat * 1 + j)) = some u := hc0
 obtain ⟨A0, c0, rfl, l0, g0⟩ := hK; exact ⟨ad, A0, c0, e, by have hq := hc 0 _ rfl; rwa [Nat.mul_one, Nat.add_zero] at hq, l0, g0⟩
structure S45 where
 f0 : Int
 f1 : Int
 f2 : Int
def z45 : S45 := ⟨(0 : Int), (0 : Int), (0 : Int)⟩
def k45 : Kd S45 := Kd.iso (Kd.pair (Kd.int .i32) (Kd.pair (Kd.int .i64) (Kd.int .i64))) (fun x : S45 => (x.f0, x.f1, x.f2))
theorem k45_open {w : World} {x : S45} {cs : List Value} (h : k45.K w x cs) : cs = [.int .i32 x.f0, .int .i64 x.f1, .int .i64 x.f2] := by
 obtain ⟨_, _, rfl, rfl, ⟨_, _, rfl, rfl, rfl⟩⟩ := h; exact rfl
theorem k45_openM {w : World} {base : Nat} {ok : Nat → Prop} {x : S45} {cs : List Value} (h : k45.M w base ok x cs) : cs = [.int .i32 x.f0, .int .i64 x.f1, .int .i64 x.f2] := by
 obtain ⟨_, _, rfl, rfl, ⟨_, _, rfl, rfl, rfl⟩⟩ := h; exact rfl
theorem k45_mk (w : World) (x : S45)  : k45.K w x [.int .i32 x.f0, .int .i64 x.f1, .int .i64 x.f2] := ⟨[.int .i32 x.f0], [.int .i64 x.f1, .int .i64 x.f2], rfl, rfl, ⟨[.int .i64 x.f1], [.int .i64 x.f2], rfl, rfl, rfl⟩⟩
theorem k45_mkM (w : World) (base : Nat) (ok : Nat → Prop) (x : S45)  : k45.M w base ok x [.int .i32 x.f0, .int .i64 x.f1, .int .i64 x.f2] := ⟨[.int .i32 x.f0], [.int .i64 x.f1, .int .i64 x.f2], rfl, rfl, ⟨[.int .i64 x.f1], [.int .i64 x.f2], rfl, rfl, rfl⟩⟩
def rd_T45 (xs : List S45) (i : Int) : S45 := xs.getD i.toNat z45
theorem at_T45 {w : World} {A : Option Addr} {n : Nat} {xs : List S45} (h : Kd.C k45 w A n xs) (i : Int) (h0 : 0 ≤ i) (h1 : i < n) : ∃ ad , A = some ad ∧ w.cell? (ad.add (i.toNat * 3)) = some (.int .i32 (rd_T45 xs i).f0) ∧ w.cell? ⟨(ad.add (i.toNat * 3)).block, (ad.add (i.toNat * 3)).off + 1, none⟩ = some (.int .i64 (rd_T45 xs i).f1) ∧ w.cell? ⟨(ad.add (i.toNat * 3)).block, (ad.add (i.toNat * 3)).off + 2, none⟩ = some (.int .i64 (rd_T45 xs i).f2) := by
 obtain ⟨ad, c, e, _, hK, hc0⟩ := Kd.C_get h z45 i h0 h1; have hc : ∀ j u, c[j]? = some u → w.cell? (ad.add (i.toNat * 3 + j)) = some u := hc0
 obtain rfl := k45_open hK
 exact ⟨ad, e, hc 0 _ rfl, by rw [← add_field _ _ 1 (by omega)]; exact hc 1 _ rfl, by rw [← add_field _ _ 2 (by omega)]; exact hc 2 _ rfl⟩
def rd_L5 (xs : List (List Int)) (i : Int) : (List Int) := xs.getD i.toNat ([] : List Int)
theorem at_L5 {w : World} {A : Option Addr} {n : Nat} {xs : List (List Int)} (h : Kd.C (Kd.slice 21 (Kd.int .i32)) w A n xs) (i : Int) (h0 : 0 ≤ i) (h1 : i < n) : ∃ ad A0 c0, A = some ad ∧ w.cell? (ad.add i.toNat) = some (.slice A0 (rd_L5 xs i).length c0) ∧ (rd_L5 xs i).length ≤ c0 ∧ (Kd.int .i32).C w A0 (rd_L5 xs i).length (rd_L5 xs i) := by
 obtain ⟨ad, c, e, _, hK, hc0⟩ := Kd.C_get h ([] : List Int) i h0 h1; have hc : ∀ j u, c[j]? = some u → w.cell? (ad.add (i.toNat * 1 + j)) = some u := hc0
 obtain ⟨A0, c0, rfl, l0, g0⟩ := hK; exact ⟨ad, A0, c0, e, by have hq := hc 0 _ rfl; rwa [Nat.mul_one, Nat.add_zero] at hq, l0, g0⟩
def prop_Check.l0 : Nat → Int → Int → List (S33) → Int → Int → Option (Bool)
 | 0, _, _, _, _, _ => none
 | k + 1, x1, x5, x11, x12, x13 => if x13 < x12 then (if 0 ≤ x13 then (if x13 < (x11.length : Int) then (if ((rd_T33 x11 x13).f0) ≤ x5 then (some false) else (if ((rd_T33 x11 x13).f1) < ((rd_T33 x11 x13).f0) then (some false) else (if ((rd_T33 x11 x13).f1) > 1114111 then (some false) else (if ((rd_T33 x11 x13).f2) < 0 then (some false) else (if ((rd_T33 x11 x13).f2) ≥ x1 then (some false) else (if ((rd_T33 x11 x13).f2) > 255 then (some false) else (prop_Check.l0 k x1 ((rd_T33 x11 x13).f1) x11 x12 (wrap64 (x13 + 1))))))))) else (none)) else (none)) else (some true)
def prop_Check.f (k : Nat) (l0 : List (S33)) (a1 : Int) : Option (Bool) := if (l0.length : Int) > 256 then (some false) else (prop_Check.l0 k a1 (-1) l0 (l0.length : Int) 0)
theorem prop_Check.mono_l : ∀ k, (∀ y0 y1 y2 y3 y4, LeO (prop_Check.l0 k y0 y1 y2 y3 y4) (prop_Check.l0 (k + 1) y0 y1 y2 y3 y4))
 | 0 => fun _ _ _ _ _ r h => by simp [prop_Check.l0] at h
 | k + 1 => by
  have ih0 := prop_Check.mono_l k
  ·intro y0 y1 y2 y3 y4
   unfold prop_Check.l0
   repeat' (with_reducible first | exact ih0 _ _ _ _ _ | exact LeO.refl _ | exact LeO.none _ | refine LeO.ite ?_ ?_ | refine LeO.bind ?_ (fun _ => ?_))
theorem prop_Check.mono : ∀ a0 a1 k, LeO (prop_Check.f k a0 a1) (prop_Check.f (k + 1) a0 a1) := by
 intro a0 a1 k
 have ih0 := prop_Check.mono_l k; unfold prop_Check.f
 repeat' (with_reducible first | exact ih0 _ _ _ _ _ | exact LeO.refl _ | exact LeO.none _ | refine LeO.ite ?_ ?_ | refine LeO.bind ?_ (fun _ => ?_))
set_option maxHeartbeats 8000000 in
set_option maxRecDepth 100000 in
theorem prop_Check.calls (k : Nat) (A0 : Option Addr) (c0 : Nat) (l0 : List (S33)) (a1 : Int) (r : Bool) (w : World) (hr0 : Kd.C k33 w A0 l0.length l0) (hc0 : l0.length ≤ c0) (h : prop_Check.f k l0 a1 = some r) :
  Calls Try.prog 12 #[.slice A0 l0.length c0, .int .i64 a1] w fun e w' => e = .returned (.bool r) ∧ Below w.heap.size w w' := by
 have hu33 := Try.underlying33; have HR0 := zA.mk hr0; have HC0 := zA.mk hc0; clear hr0 hc0; have HB := zA.mk (Below.refl w.heap.size w); have H : (if (l0.length : Int) > 256 then (some false) else (prop_Check.l0 k a1 (-1) l0 (l0.length : Int) 0)) = some r := h
 clear h; by_cases c3 : (l0.length : Int) > 256
 ·rw [if_pos c3] at H
  have c3b0 : decide (256 < (l0.length : Int)) = true := decide_eq_true c3
  have c3b1 : decide (256 < l0.length) = true := decide_eq_true (by omega)
  clear c3; obtain rfl := Option.some.inj H
  go_enter Try.func12, Try.ntmps12
  go_wp2
  go_ret
  exact ⟨aX, aL HB⟩
 rw [if_neg c3] at H; have c3b0 : decide (256 < (l0.length : Int)) = false := decide_eq_false c3
 have c3b1 : decide (256 < l0.length) = false := decide_eq_false (by omega)
 clear c3; have H' := zA.mk H
 clear H; go_enter Try.func12, Try.ntmps12
 go_wp2
 go_loopg [5, 13] k (fun kq v5 v13 w' => ∃ (x5_1 : Int) (x13_1 : Int), v5 = .int .i32 x5_1 ∧ v13 = .int .i64 x13_1 ∧ zA (prop_Check.l0 kq a1 x5_1 l0 (l0.length : Int) x13_1 = some r) ∧ zA (kq ≤ k) ∧ zA (Below w.heap.size w w'))
 case atStart => exact ⟨((-1)), (0), aZ, aZ, H', ⟨Nat.le_refl _⟩, ⟨aL HB⟩⟩
 clear H'; obtain ⟨x5_1, x13_1, rfl, rfl, HA, HK1, HB⟩ := hrel; cases gk with
 | zero => exact absurd HA.out (by simp [prop_Check.l0])
 | succ k1 =>
  have H := HA.out; clear HA; simp only [prop_Check.l0] at H; by_cases c4 : x13_1 < (l0.length : Int)
  rotate_left
  ·rw [if_neg c4] at H
   have c4b0 : decide (x13_1 < (l0.length : Int)) = false := decide_eq_false c4
   clear c4; obtain rfl := Option.some.inj H
   go_wp2
   go_ret
   exact ⟨aX, aL HB⟩
  rw [if_pos c4] at H; have c4b0 : decide (x13_1 < (l0.length : Int)) = true := decide_eq_true c4
  clear c4; by_cases c5 : 0 ≤ x13_1
  rotate_left
  ·rw [if_neg c5] at H
   exact absurd H (by simp)
  rw [if_pos c5] at H; have c5b0 : decide (0 ≤ x13_1) = true := decide_eq_true c5
  clear c5; by_cases c6 : x13_1 < (l0.length : Int)
  rotate_left
  ·rw [if_neg c6] at H
   exact absurd H (by simp)
  rw [if_pos c6] at H; have c6b0 : decide (x13_1 < (l0.length : Int)) = true := decide_eq_true c6
  clear c6; by_cases c7 : ((rd_T33 l0 x13_1).f0) ≤ x5_1
  ·rw [if_pos c7] at H
   have c7b0 : decide (((rd_T33 l0 x13_1).f0) ≤ x5_1) = true := decide_eq_true c7
   clear c7; obtain rfl := Option.some.inj H
   have p101 : 0 ≤ (x13_1 : Int) := aD
   have q101 : x13_1 < (l0.length : Int) := aD
   obtain ⟨ad101, e101, hx101_0, hx101_1, hx101_2⟩ := at_T33 HR0.out x13_1 p101 q101; cases e101
   replace hx101_0 := (HB.out.cell (World.block_lt_of_cell? w _ hx101_0)).trans hx101_0; replace hx101_1 := (HB.out.cell (World.block_lt_of_cell? w _ hx101_1)).trans hx101_1; replace hx101_2 := (HB.out.cell (World.block_lt_of_cell? w _ hx101_2)).trans hx101_2; replace p101 := eq_true p101; replace q101 := eq_true q101; go_wp2_with (first | ((with_reducible refine gate_dst (N := 7) rfl ?_); refine box_event ?hg (N := 7) ?hd (cs := #[.int .i32 0, .int .i32 0, .int .i64 0]) (t := 33) ?hr ?_; (case hd => rfl); (case hg => rfl); (case hr => first | (go_simp; done) | (go_simp; rfl)); intro gb102 hg w8 hbox hb; have BK102 := zA.mk (hbox); have GW102 := zA.mk ((by rw [hg]; exact (below_size (aL HB)) : w.heap.size ≤ gb102)); replace HB := zA.mk (below_step (aL HB) hb); have GE102 := GW102; clear hb hbox hg; obtain ⟨hcz9_0, hcz9_1, hcz9_2, hfz9_0, hfz9_1, hfz9_2⟩ := aC3 BK102) | ((with_reducible refine gate_store (t := 33) (p := 7) rfl ?_); refine store_event (t := 33) (p := 7) (v := ?vo_w10) (w1 := (((w8.setCell ⟨gb102, 0, none⟩ (.int .i32 ((rd_T33 l0 x13_1).f0))).setCell ⟨gb102, 1, none⟩ (.int .i32 ((rd_T33 l0 x13_1).f1))).setCell ⟨gb102, 2, none⟩ (.int .i64 ((rd_T33 l0 x13_1).f2)))) ?hg ?ho ?hn ?hr ?_; (case ho => rfl); (case hg => rfl); (case hn => rfl); (case hr => first | (go_simp; done) | (go_simp; rfl)); intro w10 hw; have n0_ : zA (w10.heap[gb102]? = some (.cells #[.int .i32 ((rd_T33 l0 x13_1).f0), .int .i32 ((rd_T33 l0 x13_1).f1), .int .i64 ((rd_T33 l0 x13_1).f2)] 33 (0, 0))) := ⟨(by rw [hw]; exact (by (with_reducible repeat (first | refine blk_drewN ?_ _ | refine blk_drew ?_ | refine blk_alloc ?_ _)); refine blk_put (cs := #[.int .i32 ((rd_T33 l0 x13_1).f0), .int .i32 ((rd_T33 l0 x13_1).f1), .int .i64 0]) ?_ 2 _ rfl; (with_reducible repeat (first | refine blk_drewN ?_ _ | refine blk_drew ?_ | refine blk_alloc ?_ _)); refine blk_put (cs := #[.int .i32 ((rd_T33 l0 x13_1).f0), .int .i32 0, .int .i64 0]) ?_ 1 _ rfl; (with_reducible repeat (first | refine blk_drewN ?_ _ | refine blk_drew ?_ | refine blk_alloc ?_ _)); refine blk_put (cs := #[.int .i32 0, .int .i32 0, .int .i64 0]) ?_ 0 _ rfl; (with_reducible repeat (first | refine blk_drewN ?_ _ | refine blk_drew ?_ | refine blk_alloc ?_ _)); exact BK102.out))⟩; have n1_ : zA (Below w.heap.size w w10) := ⟨(by rw [hw]; exact (aL HB))⟩; clear hw; clear BK102; clear HB; have BK102 := n0_; have HB := n1_; clear n0_ n1_; obtain ⟨hcz11_0, hcz11_1, hcz11_2, hfz11_0, hfz11_1, hfz11_2⟩ := aC3 BK102))
   go_ret
   exact ⟨aX, aL HB⟩
  rw [if_neg c7] at H; have c7b0 : decide (((rd_T33 l0 x13_1).f0) ≤ x5_1) = false := decide_eq_false c7
  clear c7; by_cases c12 : ((rd_T33 l0 x13_1).f1) < ((rd_T33 l0 x13_1).f0)
  ·rw [if_pos c12] at H
   have c12b0 : decide (((rd_T33 l0 x13_1).f1) < ((rd_T33 l0 x13_1).f0)) = true := decide_eq_true c12
   clear c12; obtain rfl := Option.some.inj H
   have p101 : 0 ≤ (x13_1 : Int) := aD
   have q101 : x13_1 < (l0.length : Int) := aD
   obtain ⟨ad101, e101, hx101_0, hx101_1, hx101_2⟩ := at_T33 HR0.out x13_1 p101 q101; cases e101
   replace hx101_0 := (HB.out.cell (World.block_lt_of_cell? w _ hx101_0)).trans hx101_0; replace hx101_1 := (HB.out.cell (World.block_lt_of_cell? w _ hx101_1)).trans hx101_1; replace hx101_2 := (HB.out.cell (World.block_lt_of_cell? w _ hx101_2)).trans hx101_2; replace p101 := eq_true p101; replace q101 := eq_true q101; go_wp2_with (first | ((with_reducible refine gate_dst (N := 7) rfl ?_); refine box_event ?hg (N := 7) ?hd (cs := #[.int .i32 0, .int .i32 0, .int .i64 0]) (t := 33) ?hr ?_; (case hd => rfl); (case hg => rfl); (case hr => first | (go_simp; done) | (go_simp; rfl)); intro gb102 hg w13 hbox hb; have BK102 := zA.mk (hbox); have GW102 := zA.mk ((by rw [hg]; exact (below_size (aL HB)) : w.heap.size ≤ gb102)); replace HB := zA.mk (below_step (aL HB) hb); have GE102 := GW102; clear hb hbox hg; obtain ⟨hcz14_0, hcz14_1, hcz14_2, hfz14_0, hfz14_1, hfz14_2⟩ := aC3 BK102) | ((with_reducible refine gate_store (t := 33) (p := 7) rfl ?_); refine store_event (t := 33) (p := 7) (v := ?vo_w15) (w1 := (((w13.setCell ⟨gb102, 0, none⟩ (.int .i32 ((rd_T33 l0 x13_1).f0))).setCell ⟨gb102, 1, none⟩ (.int .i32 ((rd_T33 l0 x13_1).f1))).setCell ⟨gb102, 2, none⟩ (.int .i64 ((rd_T33 l0 x13_1).f2)))) ?hg ?ho ?hn ?hr ?_; (case ho => rfl); (case hg => rfl); (case hn => rfl); (case hr => first | (go_simp; done) | (go_simp; rfl)); intro w15 hw; have n0_ : zA (w15.heap[gb102]? = some (.cells #[.int .i32 ((rd_T33 l0 x13_1).f0), .int .i32 ((rd_T33 l0 x13_1).f1), .int .i64 ((rd_T33 l0 x13_1).f2)] 33 (0, 0))) := ⟨(by rw [hw]; exact (by (with_reducible repeat (first | refine blk_drewN ?_ _ | refine blk_drew ?_ | refine blk_alloc ?_ _)); refine blk_put (cs := #[.int .i32 ((rd_T33 l0 x13_1).f0), .int .i32 ((rd_T33 l0 x13_1).f1), .int .i64 0]) ?_ 2 _ rfl; (with_reducible repeat (first | refine blk_drewN ?_ _ | refine blk_drew ?_ | refine blk_alloc ?_ _)); refine blk_put (cs := #[.int .i32 ((rd_T33 l0 x13_1).f0), .int .i32 0, .int .i64 0]) ?_ 1 _ rfl; (with_reducible repeat (first | refine blk_drewN ?_ _ | refine blk_drew ?_ | refine blk_alloc ?_ _)); refine blk_put (cs := #[.int .i32 0, .int .i32 0, .int .i64 0]) ?_ 0 _ rfl; (with_reducible repeat (first | refine blk_drewN ?_ _ | refine blk_drew ?_ | refine blk_alloc ?_ _)); exact BK102.out))⟩; have n1_ : zA (Below w.heap.size w w15) := ⟨(by rw [hw]; exact (aL HB))⟩; clear hw; clear BK102; clear HB; have BK102 := n0_; have HB := n1_; clear n0_ n1_; obtain ⟨hcz16_0, hcz16_1, hcz16_2, hfz16_0, hfz16_1, hfz16_2⟩ := aC3 BK102))
   go_ret
   exact ⟨aX, aL HB⟩
  rw [if_neg c12] at H; have c12b0 : decide (((rd_T33 l0 x13_1).f1) < ((rd_T33 l0 x13_1).f0)) = false := decide_eq_false c12
  clear c12; by_cases c17 : ((rd_T33 l0 x13_1).f1) > 1114111
  ·rw [if_pos c17] at H
   have c17b0 : decide (1114111 < ((rd_T33 l0 x13_1).f1)) = true := decide_eq_true c17
   clear c17; obtain rfl := Option.some.inj H
   have p101 : 0 ≤ (x13_1 : Int) := aD
   have q101 : x13_1 < (l0.length : Int) := aD
   obtain ⟨ad101, e101, hx101_0, hx101_1, hx101_2⟩ := at_T33 HR0.out x13_1 p101 q101; cases e101
   replace hx101_0 := (HB.out.cell (World.block_lt_of_cell? w _ hx101_0)).trans hx101_0; replace hx101_1 := (HB.out.cell (World.block_lt_of_cell? w _ hx101_1)).trans hx101_1; replace hx101_2 := (HB.out.cell (World.block_lt_of_cell? w _ hx101_2)).trans hx101_2; replace p101 := eq_true p101; replace q101 := eq_true q101; go_wp2_with (first | ((with_reducible refine gate_dst (N := 7) rfl ?_); refine box_event ?hg (N := 7) ?hd (cs := #[.int .i32 0, .int .i32 0, .int .i64 0]) (t := 33) ?hr ?_; (case hd => rfl); (case hg => rfl); (case hr => first | (go_simp; done) | (go_simp; rfl)); intro gb102 hg w18 hbox hb; have BK102 := zA.mk (hbox); have GW102 := zA.mk ((by rw [hg]; exact (below_size (aL HB)) : w.heap.size ≤ gb102)); replace HB := zA.mk (below_step (aL HB) hb); have GE102 := GW102; clear hb hbox hg; obtain ⟨hcz19_0, hcz19_1, hcz19_2, hfz19_0, hfz19_1, hfz19_2⟩ := aC3 BK102) | ((with_reducible refine gate_store (t := 33) (p := 7) rfl ?_); refine store_event (t := 33) (p := 7) (v := ?vo_w20) (w1 := (((w18.setCell ⟨gb102, 0, none⟩ (.int .i32 ((rd_T33 l0 x13_1).f0))).setCell ⟨gb102, 1, none⟩ (.int .i32 ((rd_T33 l0 x13_1).f1))).setCell ⟨gb102, 2, none⟩ (.int .i64 ((rd_T33 l0 x13_1).f2)))) ?hg ?ho ?hn ?hr ?_; (case ho => rfl); (case hg => rfl); (case hn => rfl); (case hr => first | (go_simp; done) | (go_simp; rfl)); intro w20 hw; have n0_ : zA (w20.heap[gb102]? = some (.cells #[.int .i32 ((rd_T33 l0 x13_1).f0), .int .i32 ((rd_T33 l0 x13_1).f1), .int .i64 ((rd_T33 l0 x13_1).f2)] 33 (0, 0))) := ⟨(by rw [hw]; exact (by (with_reducible repeat (first | refine blk_drewN ?_ _ | refine blk_drew ?_ | refine blk_alloc ?_ _)); refine blk_put (cs := #[.int .i32 ((rd_T33 l0 x13_1).f0), .int .i32 ((rd_T33 l0 x13_1).f1), .int .i64 0]) ?_ 2 _ rfl; (with_reducible repeat (first | refine blk_drewN ?_ _ | refine blk_drew ?_ | refine blk_alloc ?_ _)); refine blk_put (cs := #[.int .i32 ((rd_T33 l0 x13_1).f0), .int .i32 0, .int .i64 0]) ?_ 1 _ rfl; (with_reducible repeat (first | refine blk_drewN ?_ _ | refine blk_drew ?_ | refine blk_alloc ?_ _)); refine blk_put (cs := #[.int .i32 0, .int .i32 0, .int .i64 0]) ?_ 0 _ rfl; (with_reducible repeat (first | refine blk_drewN ?_ _ | refine blk_drew ?_ | refine blk_alloc ?_ _)); exact BK102.out))⟩; have n1_ : zA (Below w.heap.size w w20) := ⟨(by rw [hw]; exact (aL HB))⟩; clear hw; clear BK102; clear HB; have BK102 := n0_; have HB := n1_; clear n0_ n1_; obtain ⟨hcz21_0, hcz21_1, hcz21_2, hfz21_0, hfz21_1, hfz21_2⟩ := aC3 BK102))
   go_ret
   exact ⟨aX, aL HB⟩
  rw [if_neg c17] at H; have c17b0 : decide (1114111 < ((rd_T33 l0 x13_1).f1)) = false := decide_eq_false c17
  clear c17; by_cases c22 : ((rd_T33 l0 x13_1).f2) < 0
  ·rw [if_pos c22] at H
   have c22b0 : decide (((rd_T33 l0 x13_1).f2) < 0) = true := decide_eq_true c22
   clear c22; obtain rfl := Option.some.inj H
   have p101 : 0 ≤ (x13_1 : Int) := aD
   have q101 : x13_1 < (l0.length : Int) := aD
   obtain ⟨ad101, e101, hx101_0, hx101_1, hx101_2⟩ := at_T33 HR0.out x13_1 p101 q101; cases e101
   replace hx101_0 := (HB.out.cell (World.block_lt_of_cell? w _ hx101_0)).trans hx101_0; replace hx101_1 := (HB.out.cell (World.block_lt_of_cell? w _ hx101_1)).trans hx101_1; replace hx101_2 := (HB.out.cell (World.block_lt_of_cell? w _ hx101_2)).trans hx101_2; replace p101 := eq_true p101; replace q101 := eq_true q101; go_wp2_with (first | ((with_reducible refine gate_dst (N := 7) rfl ?_); refine box_event ?hg (N := 7) ?hd (cs := #[.int .i32 0, .int .i32 0, .int .i64 0]) (t := 33) ?hr ?_; (case hd => rfl); (case hg => rfl); (case hr => first | (go_simp; done) | (go_simp; rfl)); intro gb102 hg w23 hbox hb; have BK102 := zA.mk (hbox); have GW102 := zA.mk ((by rw [hg]; exact (below_size (aL HB)) : w.heap.size ≤ gb102)); replace HB := zA.mk (below_step (aL HB) hb); have GE102 := GW102; clear hb hbox hg; obtain ⟨hcz24_0, hcz24_1, hcz24_2, hfz24_0, hfz24_1, hfz24_2⟩ := aC3 BK102) | ((with_reducible refine gate_store (t := 33) (p := 7) rfl ?_); refine store_event (t := 33) (p := 7) (v := ?vo_w25) (w1 := (((w23.setCell ⟨gb102, 0, none⟩ (.int .i32 ((rd_T33 l0 x13_1).f0))).setCell ⟨gb102, 1, none⟩ (.int .i32 ((rd_T33 l0 x13_1).f1))).setCell ⟨gb102, 2, none⟩ (.int .i64 ((rd_T33 l0 x13_1).f2)))) ?hg ?ho ?hn ?hr ?_; (case ho => rfl); (case hg => rfl); (case hn => rfl); (case hr => first | (go_simp; done) | (go_simp; rfl)); intro w25 hw; have n0_ : zA (w25.heap[gb102]? = some (.cells #[.int .i32 ((rd_T33 l0 x13_1).f0), .int .i32 ((rd_T33 l0 x13_1).f1), .int .i64 ((rd_T33 l0 x13_1).f2)] 33 (0, 0))) := ⟨(by rw [hw]; exact (by (with_reducible repeat (first | refine blk_drewN ?_ _ | refine blk_drew ?_ | refine blk_alloc ?_ _)); refine blk_put (cs := #[.int .i32 ((rd_T33 l0 x13_1).f0), .int .i32 ((rd_T33 l0 x13_1).f1), .int .i64 0]) ?_ 2 _ rfl; (with_reducible repeat (first | refine blk_drewN ?_ _ | refine blk_drew ?_ | refine blk_alloc ?_ _)); refine blk_put (cs := #[.int .i32 ((rd_T33 l0 x13_1).f0), .int .i32 0, .int .i64 0]) ?_ 1 _ rfl; (with_reducible repeat (first | refine blk_drewN ?_ _ | refine blk_drew ?_ | refine blk_alloc ?_ _)); refine blk_put (cs := #[.int .i32 0, .int .i32 0, .int .i64 0]) ?_ 0 _ rfl; (with_reducible repeat (first | refine blk_drewN ?_ _ | refine blk_drew ?_ | refine blk_alloc ?_ _)); exact BK102.out))⟩; have n1_ : zA (Below w.heap.size w w25) := ⟨(by rw [hw]; exact (aL HB))⟩; clear hw; clear BK102; clear HB; have BK102 := n0_; have HB := n1_; clear n0_ n1_; obtain ⟨hcz26_0, hcz26_1, hcz26_2, hfz26_0, hfz26_1, hfz26_2⟩ := aC3 BK102))
   go_ret
   exact ⟨aX, aL HB⟩
  rw [if_neg c22] at H; have c22b0 : decide (((rd_T33 l0 x13_1).f2) < 0) = false := decide_eq_false c22
  clear c22; by_cases c27 : ((rd_T33 l0 x13_1).f2) ≥ a1
  ·rw [if_pos c27] at H
   have c27b0 : decide (a1 ≤ ((rd_T33 l0 x13_1).f2)) = true := decide_eq_true c27
   clear c27; obtain rfl := Option.some.inj H
   have p101 : 0 ≤ (x13_1 : Int) := aD
   have q101 : x13_1 < (l0.length : Int) := aD
   obtain ⟨ad101, e101, hx101_0, hx101_1, hx101_2⟩ := at_T33 HR0.out x13_1 p101 q101; cases e101
   replace hx101_0 := (HB.out.cell (World.block_lt_of_cell? w _ hx101_0)).trans hx101_0; replace hx101_1 := (HB.out.cell (World.block_lt_of_cell? w _ hx101_1)).trans hx101_1; replace hx101_2 := (HB.out.cell (World.block_lt_of_cell? w _ hx101_2)).trans hx101_2; replace p101 := eq_true p101; replace q101 := eq_true q101; go_wp2_with (first | ((with_reducible refine gate_dst (N := 7) rfl ?_); refine box_event ?hg (N := 7) ?hd (cs := #[.int .i32 0, .int .i32 0, .int .i64 0]) (t := 33) ?hr ?_; (case hd => rfl); (case hg => rfl); (case hr => first | (go_simp; done) | (go_simp; rfl)); intro gb102 hg w28 hbox hb; have BK102 := zA.mk (hbox); have GW102 := zA.mk ((by rw [hg]; exact (below_size (aL HB)) : w.heap.size ≤ gb102)); replace HB := zA.mk (below_step (aL HB) hb); have GE102 := GW102; clear hb hbox hg; obtain ⟨hcz29_0, hcz29_1, hcz29_2, hfz29_0, hfz29_1, hfz29_2⟩ := aC3 BK102) | ((with_reducible refine gate_store (t := 33) (p := 7) rfl ?_); refine store_event (t := 33) (p := 7) (v := ?vo_w30) (w1 := (((w28.setCell ⟨gb102, 0, none⟩ (.int .i32 ((rd_T33 l0 x13_1).f0))).setCell ⟨gb102, 1, none⟩ (.int .i32 ((rd_T33 l0 x13_1).f1))).setCell ⟨gb102, 2, none⟩ (.int .i64 ((rd_T33 l0 x13_1).f2)))) ?hg ?ho ?hn ?hr ?_; (case ho => rfl); (case hg => rfl); (case hn => rfl); (case hr => first | (go_simp; done) | (go_simp; rfl)); intro w30 hw; have n0_ : zA (w30.heap[gb102]? = some (.cells #[.int .i32 ((rd_T33 l0 x13_1).f0), .int .i32 ((rd_T33 l0 x13_1).f1), .int .i64 ((rd_T33 l0 x13_1).f2)] 33 (0, 0))) := ⟨(by rw [hw]; exact (by (with_reducible repeat (first | refine blk_drewN ?_ _ | refine blk_drew ?_ | refine blk_alloc ?_ _)); refine blk_put (cs := #[.int .i32 ((rd_T33 l0 x13_1).f0), .int .i32 ((rd_T33 l0 x13_1).f1), .int .i64 0]) ?_ 2 _ rfl; (with_reducible repeat (first | refine blk_drewN ?_ _ | refine blk_drew ?_ | refine blk_alloc ?_ _)); refine blk_put (cs := #[.int .i32 ((rd_T33 l0 x13_1).f0), .int .i32 0, .int .i64 0]) ?_ 1 _ rfl; (with_reducible repeat (first | refine blk_drewN ?_ _ | refine blk_drew ?_ | refine blk_alloc ?_ _)); refine blk_put (cs := #[.int .i32 0, .int .i32 0, .int .i64 0]) ?_ 0 _ rfl; (with_reducible repeat (first | refine blk_drewN ?_ _ | refine blk_drew ?_ | refine blk_alloc ?_ _)); exact BK102.out))⟩; have n1_ : zA (Below w.heap.size w w30) := ⟨(by rw [hw]; exact (aL HB))⟩; clear hw; clear BK102; clear HB; have BK102 := n0_; have HB := n1_; clear n0_ n1_; obtain ⟨hcz31_0, hcz31_1, hcz31_2, hfz31_0, hfz31_1, hfz31_2⟩ := aC3 BK102))
   go_ret
   exact ⟨aX, aL HB⟩
  rw [if_neg c27] at H; have c27b0 : decide (a1 ≤ ((rd_T33 l0 x13_1).f2)) = false := decide_eq_false c27
  clear c27; by_cases c32 : ((rd_T33 l0 x13_1).f2) > 255
  ·rw [if_pos c32] at H
   have c32b0 : decide (255 < ((rd_T33 l0 x13_1).f2)) = true := decide_eq_true c32
   clear c32; obtain rfl := Option.some.inj H
   have p101 : 0 ≤ (x13_1 : Int) := aD
   have q101 : x13_1 < (l0.length : Int) := aD
   obtain ⟨ad101, e101, hx101_0, hx101_1, hx101_2⟩ := at_T33 HR0.out x13_1 p101 q101; cases e101
   replace hx101_0 := (HB.out.cell (World.block_lt_of_cell? w _ hx101_0)).trans hx101_0; replace hx101_1 := (HB.out.cell (World.block_lt_of_cell? w _ hx101_1)).trans hx101_1; replace hx101_2 := (HB.out.cell (World.block_lt_of_cell? w _ hx101_2)).trans hx101_2; replace p101 := eq_true p101; replace q101 := eq_true q101; go_wp2_with (first | ((with_reducible refine gate_dst (N := 7) rfl ?_); refine box_event ?hg (N := 7) ?hd (cs := #[.int .i32 0, .int .i32 0, .int .i64 0]) (t := 33) ?hr ?_; (case hd => rfl); (case hg => rfl); (case hr => first | (go_simp; done) | (go_simp; rfl)); intro gb102 hg w33 hbox hb; have BK102 := zA.mk (hbox); have GW102 := zA.mk ((by rw [hg]; exact (below_size (aL HB)) : w.heap.size ≤ gb102)); replace HB := zA.mk (below_step (aL HB) hb); have GE102 := GW102; clear hb hbox hg; obtain ⟨hcz34_0, hcz34_1, hcz34_2, hfz34_0, hfz34_1, hfz34_2⟩ := aC3 BK102) | ((with_reducible refine gate_store (t := 33) (p := 7) rfl ?_); refine store_event (t := 33) (p := 7) (v := ?vo_w35) (w1 := (((w33.setCell ⟨gb102, 0, none⟩ (.int .i32 ((rd_T33 l0 x13_1).f0))).setCell ⟨gb102, 1, none⟩ (.int .i32 ((rd_T33 l0 x13_1).f1))).setCell ⟨gb102, 2, none⟩ (.int .i64 ((rd_T33 l0 x13_1).f2)))) ?hg ?ho ?hn ?hr ?_; (case ho => rfl); (case hg => rfl); (case hn => rfl); (case hr => first | (go_simp; done) | (go_simp; rfl)); intro w35 hw; have n0_ : zA (w35.heap[gb102]? = some (.cells #[.int .i32 ((rd_T33 l0 x13_1).f0), .int .i32 ((rd_T33 l0 x13_1).f1), .int .i64 ((rd_T33 l0 x13_1).f2)] 33 (0, 0))) := ⟨(by rw [hw]; exact (by (with_reducible repeat (first | refine blk_drewN ?_ _ | refine blk_drew ?_ | refine blk_alloc ?_ _)); refine blk_put (cs := #[.int .i32 ((rd_T33 l0 x13_1).f0), .int .i32 ((rd_T33 l0 x13_1).f1), .int .i64 0]) ?_ 2 _ rfl; (with_reducible repeat (first | refine blk_drewN ?_ _ | refine blk_drew ?_ | refine blk_alloc ?_ _)); refine blk_put (cs := #[.int .i32 ((rd_T33 l0 x13_1).f0), .int .i32 0, .int .i64 0]) ?_ 1 _ rfl; (with_reducible repeat (first | refine blk_drewN ?_ _ | refine blk_drew ?_ | refine blk_alloc ?_ _)); refine blk_put (cs := #[.int .i32 0, .int .i32 0, .int .i64 0]) ?_ 0 _ rfl; (with_reducible repeat (first | refine blk_drewN ?_ _ | refine blk_drew ?_ | refine blk_alloc ?_ _)); exact BK102.out))⟩; have n1_ : zA (Below w.heap.size w w35) := ⟨(by rw [hw]; exact (aL HB))⟩; clear hw; clear BK102; clear HB; have BK102 := n0_; have HB := n1_; clear n0_ n1_; obtain ⟨hcz36_0, hcz36_1, hcz36_2, hfz36_0, hfz36_1, hfz36_2⟩ := aC3 BK102))
   go_ret
   exact ⟨aX, aL HB⟩
  rw [if_neg c32] at H; have c32b0 : decide (255 < ((rd_T33 l0 x13_1).f2)) = false := decide_eq_false c32
  clear c32; have H' := zA.mk H
  clear H; have p101 : 0 ≤ (x13_1 : Int) := aD
  have q101 : x13_1 < (l0.length : Int) := aD
  obtain ⟨ad101, e101, hx101_0, hx101_1, hx101_2⟩ := at_T33 HR0.out x13_1 p101 q101; cases e101
  replace hx101_0 := (HB.out.cell (World.block_lt_of_cell? w _ hx101_0)).trans hx101_0; replace hx101_1 := (HB.out.cell (World.block_lt_of_cell? w _ hx101_1)).trans hx101_1; replace hx101_2 := (HB.out.cell (World.block_lt_of_cell? w _ hx101_2)).trans hx101_2; replace p101 := eq_true p101; replace q101 := eq_true q101; go_wp2_with (first | ((with_reducible refine gate_dst (N := 7) rfl ?_); refine box_event ?hg (N := 7) ?hd (cs := #[.int .i32 0, .int .i32 0, .int .i64 0]) (t := 33) ?hr ?_; (case hd => rfl); (case hg => rfl); (case hr => first | (go_simp; done) | (go_simp; rfl)); intro gb102 hg w37 hbox hb; have BK102 := zA.mk (hbox); have GW102 := zA.mk ((by rw [hg]; exact (below_size (aL HB)) : w.heap.size ≤ gb102)); replace HB := zA.mk (below_step (aL HB) hb); have GE102 := GW102; clear hb hbox hg; obtain ⟨hcz38_0, hcz38_1, hcz38_2, hfz38_0, hfz38_1, hfz38_2⟩ := aC3 BK102) | ((with_reducible refine gate_store (t := 33) (p := 7) rfl ?_); refine store_event (t := 33) (p := 7) (v := ?vo_w39) (w1 := (((w37.setCell ⟨gb102, 0, none⟩ (.int .i32 ((rd_T33 l0 x13_1).f0))).setCell ⟨gb102, 1, none⟩ (.int .i32 ((rd_T33 l0 x13_1).f1))).setCell ⟨gb102, 2, none⟩ (.int .i64 ((rd_T33 l0 x13_1).f2)))) ?hg ?ho ?hn ?hr ?_; (case ho => rfl); (case hg => rfl); (case hn => rfl); (case hr => first | (go_simp; done) | (go_simp; rfl)); intro w39 hw; have n0_ : zA (w39.heap[gb102]? = some (.cells #[.int .i32 ((rd_T33 l0 x13_1).f0), .int .i32 ((rd_T33 l0 x13_1).f1), .int .i64 ((rd_T33 l0 x13_1).f2)] 33 (0, 0))) := ⟨(by rw [hw]; exact (by (with_reducible repeat (first | refine blk_drewN ?_ _ | refine blk_drew ?_ | refine blk_alloc ?_ _)); refine blk_put (cs := #[.int .i32 ((rd_T33 l0 x13_1).f0), .int .i32 ((rd_T33 l0 x13_1).f1), .int .i64 0]) ?_ 2 _ rfl; (with_reducible repeat (first | refine blk_drewN ?_ _ | refine blk_drew ?_ | refine blk_alloc ?_ _)); refine blk_put (cs := #[.int .i32 ((rd_T33 l0 x13_1).f0), .int .i32 0, .int .i64 0]) ?_ 1 _ rfl; (with_reducible repeat (first | refine blk_drewN ?_ _ | refine blk_drew ?_ | refine blk_alloc ?_ _)); refine blk_put (cs := #[.int .i32 0, .int .i32 0, .int .i64 0]) ?_ 0 _ rfl; (with_reducible repeat (first | refine blk_drewN ?_ _ | refine blk_drew ?_ | refine blk_alloc ?_ _)); exact BK102.out))⟩; have n1_ : zA (Below w.heap.size w w39) := ⟨(by rw [hw]; exact (aL HB))⟩; clear hw; clear BK102; clear HB; have BK102 := n0_; have HB := n1_; clear n0_ n1_; obtain ⟨hcz40_0, hcz40_1, hcz40_2, hfz40_0, hfz40_1, hfz40_2⟩ := aC3 BK102))
  go_roundg k1
  case measure => have := HK1.out; omega
  case rel => exact ⟨((rd_T33 l0 x13_1).f1), (wrap64 (x13_1 + 1)), aZ, aZ, H', ⟨by have := HK1.out; omega⟩, ⟨aL HB⟩⟩
def bcs (b : List Int) : List Value := b.map (Value.int .u8)
def bag (b : List Int) : Value := .agg (bcs b).toArray
def Byt (b : List Int) : Prop := b.length = 256 ∧ ∀ c ∈ b, 0 ≤ c ∧ c ≤ 255
theorem mapM_some {α β : Type} {f : α → Option β} {g : α → β} : ∀ l : List α, (∀ x ∈ l, f x = some (g x)) → l.mapM f = some (l.map g)
 | [], _ => rfl
 | x :: l, h => by
  rw [List.mapM_cons, h x (by simp), mapM_some l (fun y hy => h y (by simp [hy]))]
  rfl
theorem bcs_len (b : List Int) : (bcs b).length = b.length := by unfold bcs; rw [List.length_map]
theorem bcs_get (b : List Int) (i : Nat) (h : i < (bcs b).length) : (bcs b)[i] = Value.int .u8 (b.getD i 0) := by
 have h2 : i < b.length := by rw [bcs_len] at h; exact h
 have : (b.map (Value.int .u8))[i]'(by rw [List.length_map]; exact h2) = Value.int .u8 (b.getD i 0) := by
  rw [List.getElem_map, List.getD_eq_getElem?_getD, List.getElem?_eq_getElem h2]; rfl
 exact this
theorem bag_inj {a b : List Int} (h : bag a = bag b) : a = b := by
 unfold bag bcs at h
 injection h with h
 have h2 := congrArg Array.toList h; simp only at h2
 exact (List.map_inj_right (fun x y hxy => by injection hxy)).1 h2
theorem prop_Make.hkey {b : List Int} (h : Byt b) : ∃ kl, keyOf Try.prog 57 (bag b) = some kl := by
 obtain ⟨d, hd⟩ : ∃ d, Try.prog.types.size = d + 1 := ⟨Try.prog.types.size - 1, by have : 0 < Try.prog.types.size := of_decide_eq_true (by kernel_rfl); omega⟩
 have hc : Try.prog.cellsOf 57 = 256 := by kernel_rfl
 have hc5 : Try.prog.cellsOf 5 = 1 := by kernel_rfl
 have hk : Try.prog.keyType 57 = true := by kernel_rfl
 have hf : (bag b).formed Try.prog 57 = true := by
  unfold Value.formed bag
  simp only [Try.underlying57, hc, List.size_toArray, bcs_len, h.1]; rfl
 have hl : Try.prog.keyLits (Try.prog.types.size + 1) 57 (bag b).cells.toList = some (((List.range 256).map fun i => [Lit.int .u8 (b.getD i 0)]).flatten) := by
  rw [hd]; have hcells : (bag b).cells.toList = bcs b := rfl
  rw [hcells]; unfold Program.keyLits
  simp only [Try.underlying57, hc, bcs_len, h.1, if_true, hc5, Nat.mul_one]; rw [mapM_some (g := fun i => [Lit.int .u8 (b.getD i 0)]) (List.range 256)]
  ·rfl
  ·intro i hi
   have hi' : i < 256 := List.mem_range.1 hi
   have hb : i < (bcs b).length := by rw [bcs_len, h.1]; exact hi'
   have e : ((bcs b).drop i).take 1 = [Value.int .u8 (b.getD i 0)] := by
    rw [List.drop_eq_getElem_cons hb]; rw [bcs_get b i hb]; rfl
   rw [e]; have hw : (Lit.int .u8 (b.getD i 0)).wf = true := by
    have hm := h.2 (b.getD i 0) (by
     rw [List.getD_eq_getElem?_getD, List.getElem?_eq_getElem (show i < b.length by rw [h.1]; exact hi')]
     exact List.getElem_mem _)
    exact WalkArith.wf_u8 hm
   unfold Program.keyLits
   simp only [Try.underlying5, hw, and_self, if_true]
 refine ⟨.string (keyBytes (((List.range 256).map fun i => [Lit.int .u8 (b.getD i 0)]).flatten)), ?_⟩
 unfold keyOf
 simp only [Try.underlying57, hk, hf, Bool.and_self, if_true, hl, Option.map_some]
theorem prop_Make.laidOut : laidOutB Try.prog = true := by kernel_rfl
theorem prop_Make.wide : (match Try.prog.underlying 57 with | some (.array _ _) | some (.struct _) => true | _ => false) = true := by rw [Try.underlying57]
theorem prop_Make.law : Maps.Keyed Try.prog 57 := Maps.Keyed.of_law (deep_law_laid prop_Make.laidOut (m := 2) (by omega) (of_decide_eq_true (by kernel_rfl)) (by kernel_rfl) prop_Make.wide)
theorem prop_Make.zeroE (w : World) : (zeroValue 3).run Try.prog w = .ok (.int .i64 0) w := by kernel_rfl
theorem prop_Make.eq_run (w : World) {a b : List Int} (ha : Byt a) (hb : Byt b) : (Op.equal 57 (bag a) (bag b)).run Try.prog w = .ok (decide (a = b)) w := by
 obtain ⟨ka, hka⟩ := prop_Make.hkey ha; obtain ⟨kb, hkb⟩ := prop_Make.hkey hb; obtain ⟨r, hr, hiff⟩ := run_equal_deep (P := Try.prog) w (m := 2) (by omega) (k := 57) (by kernel_rfl) prop_Make.wide hka hkb
 rw [hr]; congr 1
 rw [Bool.eq_iff_iff, hiff, decide_eq_true_iff]; constructor
 ·rintro rfl; exact bag_inj (prop_Make.law.inj hka hkb)
 rintro rfl; rw [hka] at hkb; exact Option.some.inj hkb
def SeenR (P : Program) (K : TypeId) (D : DataW Unit) (bs : List (List Int)) : Prop :=
 ∀ (x : List Int) (kl : Lit), Byt x → keyOf P K (bag x) = some kl → Maps.has D kl = decide (x ∈ bs ∧ x ≠ zerosR) ∧ (x ∈ bs → x ≠ zerosR → ∀ z, D.atKey kl z = .lit (.int .i64 (bs.idxOf x : Int)))
theorem SeenR.start : SeenR Try.prog 57 (.map []) [zerosR] := by
 intro x kl hx hk
 refine ⟨?_, fun h1 h2 => absurd (List.mem_singleton.1 h1) h2⟩
 have : ¬ (x ∈ [zerosR] ∧ x ≠ zerosR) := fun h => h.2 (List.mem_singleton.1 h.1)
 rw [decide_eq_false this]; rfl
theorem SeenR.put {D : DataW Unit} {bs : List (List Int)} (h : SeenR Try.prog 57 D bs) (hm : Maps.IsMap D) (hz : zerosR ∈ bs) {y : List Int} {ky : Lit} (hy : Byt y) (hky : keyOf Try.prog 57 (bag y) = some ky) (hny : y ∉ bs) :
  SeenR Try.prog 57 (D.put ky (.lit (.int .i64 (bs.length : Int)))) (bs ++ [y]) := by
 have hyz : y ≠ zerosR := fun e => hny (e ▸ hz)
 intro x kl hx hk
 by_cases e : x = y
 ·subst e
  obtain rfl : kl = ky := by rw [hk] at hky; exact Option.some.inj hky
  refine ⟨?_, fun _ _ z => ?_⟩
  ·rw [Maps.has_put_same hm (prop_Make.law.key hk), decide_eq_true ⟨by simp, hyz⟩]
  rw [Maps.atKey_put_same hm (prop_Make.law.key hk), List.idxOf_append, if_neg hny, List.idxOf_cons_self, Nat.zero_add]
 have hne : kl ≠ ky := by
  rintro rfl
  exact e (bag_inj (prop_Make.law.inj hk hky))
 obtain ⟨h1, h2⟩ := h x kl hx hk; have hmem : x ∈ bs ++ [y] ↔ x ∈ bs := by simp [e]
 refine ⟨?_, fun a b z => ?_⟩
 ·rw [Maps.has_put_other hne, h1]
  simp only [hmem]
 rw [Maps.atKey_put_other hne, h2 (hmem.1 a) b z, List.idxOf_append, if_pos (hmem.1 a)]
def prop_Make.t (x : S33) : Int × Int × Int := (x.f0, x.f1, x.f2)
def prop_Make.c (l : List S33) (m : Int) : Bool := chkR (l.map prop_Make.t) m
def prop_MakeY.f (l : List S33) (m : Int) : Option (Option (List (Int × Int × Int))) := if prop_Make.c l m = true then some (some (l.map prop_Make.t)) else none
def prop_MakeN.f (l : List S33) (m : Int) : Option Unit := if prop_Make.c l m = true then none else some ()
theorem prop_Make.loop (m : Int) (xs : List S33) (hn : xs.length ≤ 256) (d : Nat) : ∀ (k i : Nat) (last : Int), i ≤ xs.length → xs.length - i = d → d < k →
  prop_Check.l0 k m last xs (xs.length : Int) (i : Int) = some (chkGo m last ((xs.drop i).map prop_Make.t)) := by
 induction d with
 | zero =>
  intro k i last hi hd hk
  obtain ⟨k, rfl⟩ : ∃ m, k = m + 1 := ⟨k - 1, by omega⟩
  simp only [prop_Check.l0]; rw [if_neg (by omega), List.drop_eq_nil_of_le (by omega)]
  rfl
 | succ d ih =>
  intro k i last hi hd hk
  obtain ⟨k, rfl⟩ : ∃ m, k = m + 1 := ⟨k - 1, by omega⟩
  have hlt : i < xs.length := by omega
  have hrd : rd_T33 xs (i : Int) = xs[i] := by
   unfold rd_T33
   rw [List.getD_eq_getElem?_getD, Int.toNat_natCast, List.getElem?_eq_getElem hlt]; rfl
  simp only [prop_Check.l0]; rw [if_pos (by omega), if_pos (by omega), if_pos (by omega), hrd, List.drop_eq_getElem_cons hlt, List.map_cons]
  rw [show ∀ r, chkGo m last (prop_Make.t xs[i] :: r) = if (xs[i]).f0 ≤ last ∨ (xs[i]).f1 < (xs[i]).f0 ∨ (xs[i]).f1 > 1114111 ∨ (xs[i]).f2 < 0 ∨ (xs[i]).f2 ≥ m ∨ (xs[i]).f2 > 255 then false else chkGo m (xs[i]).f1 r from fun _ => rfl]
  rw [show wrap64 ((i : Int) + 1) = ((i + 1 : Nat) : Int) by unfold wrap64; omega]
  have := ih k (i + 1) (xs[i]).f1 (by omega) (by omega) (by omega)
  by_cases c1 : (xs[i]).f0 ≤ last
  ·rw [if_pos c1, if_pos (by omega)]
  rw [if_neg c1]; by_cases c2 : (xs[i]).f1 < (xs[i]).f0
  ·rw [if_pos c2, if_pos (by omega)]
  rw [if_neg c2]; by_cases c3 : (xs[i]).f1 > 1114111
  ·rw [if_pos c3, if_pos (by omega)]
  rw [if_neg c3]; by_cases c4 : (xs[i]).f2 < 0
  ·rw [if_pos c4, if_pos (by omega)]
  rw [if_neg c4]; by_cases c5 : (xs[i]).f2 ≥ m
  ·rw [if_pos c5, if_pos (by omega)]
  rw [if_neg c5]; by_cases c6 : (xs[i]).f2 > 255
  ·rw [if_pos c6, if_pos (by omega)]
  rw [if_neg c6, if_neg (by omega)]
  exact this
theorem prop_Make.check (l : List S33) (m : Int) : ∃ k, prop_Check.f k l m = some (prop_Make.c l m) := by
 refine ⟨l.length + 1, ?_⟩
 unfold prop_Check.f prop_Make.c chkR
 rw [List.length_map]; by_cases h : (l.length : Int) > 256
 ·rw [if_pos h, if_pos h]
 rw [if_neg h, if_neg h]; have := prop_Make.loop m l (by omega) l.length (l.length + 1) 0 (-1) (by omega) (by omega) (by omega)
 simpa using this
set_option maxHeartbeats 400000 in
theorem prop_MakeN.calls (A0 : Option Addr) (c0 : Nat) (l0 : List S33) (a1 : Int) (w : World) (hr0 : Kd.C k33 w A0 l0.length l0) (hc0 : l0.length ≤ c0) (h : prop_MakeN.f l0 a1 = some ()) :
  Calls Try.prog 11 #[.slice A0 l0.length c0, .int .i64 a1] w fun e w' => e = .returned (.tuple #[.pointer none, .int .i64 10]) ∧ Below w.heap.size w w' := by
 obtain ⟨k, hk⟩ := prop_Make.check l0 a1; have hf : prop_Make.c l0 a1 = false := by
  unfold prop_MakeN.f at h
  split at h
  ·cases h
  ·simpa using (by assumption : ¬ prop_Make.c l0 a1 = true)
 rw [hf] at hk; clear h hf; go_enter Try.func11, Try.ntmps11
 go_wp2_with (go_at_call 12; refine (prop_Check.calls k A0 c0 l0 a1 false w hr0 hc0 hk).mono ?_; rintro e w1 ⟨rfl, hb⟩)
 go_ret2
 exact ⟨rfl, hb⟩
def tcs (f : Nat → Int) (v : Value) : List Value := (List.range 4352).map (fun i => .int .i64 (f i)) ++ [v]
theorem prop_Make.run_make : ∀ w : World, (Instr.makeSlice 51 (.int .i64 1) (.int .i64 1)).run Try.prog w = .ok (.slice (some ⟨w.heap.size, 0, none⟩) 1 1) (w.alloc (.cells (bcs zerosR).toArray 57)) := fun w => by kernel_rfl
theorem prop_Make.run_build (a : Option Addr) (n c : Nat) : ∀ w : World, (Instr.build 54 #[(1, .slice a n c)]).run Try.prog w = .ok (.agg (tcs (fun _ => 0) (.slice a n c)).toArray) w := fun w => by kernel_rfl
theorem prop_Make.run_zv : ∀ w : World, (zeroValue 57).run Try.prog w = .ok (bag zerosR) w := fun w => by kernel_rfl
theorem prop_Make.run_zero : ∀ w : World, (Instr.build 57 #[]).run Try.prog w = .ok (.agg (bcs zerosR).toArray) w := fun w => by kernel_rfl
theorem tcs_get (f : Nat → Int) (v : Value) (j : Nat) (h : j < 4352) : (tcs f v)[j]? = some (.int .i64 (f j)) := by
 unfold tcs
 rw [List.getElem?_append_left (by rw [List.length_map, List.length_range]; exact h), List.getElem?_map, List.getElem?_range h]
 rfl
theorem tcs_len (f : Nat → Int) (v : Value) : (tcs f v).length = 4353 := by
 unfold tcs
 rw [List.length_append, List.length_map, List.length_range]; rfl
theorem tcs_last (f : Nat → Int) (v : Value) : (tcs f v)[4352]? = some v := by
 unfold tcs
 rw [List.getElem?_append_right (by rw [List.length_map, List.length_range]; exact Nat.le_refl _), List.length_map, List.length_range]
 rfl
theorem tcs_out (f : Nat → Int) (v : Value) (j : Nat) (h : 4352 < j) : (tcs f v)[j]? = none := List.getElem?_eq_none (by rw [tcs_len]; exact h)
theorem tcs_ext {f g : Nat → Int} (v : Value) (h : ∀ m, m < 4352 → f m = g m) : tcs f v = tcs g v := by
 unfold tcs
 rw [List.map_congr_left (fun m hm => by rw [h m (List.mem_range.1 hm)])]
theorem tcs_set (f : Nat → Int) (v : Value) (i : Nat) (hi : i < 4352) (x : Int) : (tcs f v).set i (.int .i64 x) = tcs (fun m => if m = i then x else f m) v := by
 apply List.ext_getElem?
 intro j
 rw [List.getElem?_set]; by_cases e : i = j
 ·subst e
  rw [if_pos rfl, if_pos (by rw [tcs_len]; omega), tcs_get _ _ _ hi, if_pos rfl]
 rw [if_neg e]; rcases Nat.lt_trichotomy j 4352 with h | h | h
 ·rw [tcs_get _ _ _ h, tcs_get _ _ _ h, if_neg (fun x => e x.symm)]
 ·subst h; rw [tcs_last, tcs_last]
 rw [tcs_out _ _ _ h, tcs_out _ _ _ h]
theorem tcs_setv (f : Nat → Int) (v u : Value) : (tcs f v).set 4352 u = tcs f u := by
 apply List.ext_getElem?
 intro j
 rw [List.getElem?_set]; by_cases e : 4352 = j
 ·subst e
  rw [if_pos rfl, if_pos (by rw [tcs_len]; omega), tcs_last]
 rw [if_neg e]; rcases Nat.lt_trichotomy j 4352 with h | h | h
 ·rw [tcs_get _ _ _ h, tcs_get _ _ _ h]
 ·exact absurd h.symm e
 rw [tcs_out _ _ _ h, tcs_out _ _ _ h]
theorem grown_setCell (w : World) (a : Addr) (u : Value) : w.grownBy (w.setCell a u) (some a.block) :=
 ⟨rfl, rfl, rfl, by simp [World.setCell], fun k _ hne => heap_setCell_other w a k u (fun e => hne (by rw [e]))⟩
structure PI (w : World) (gt gm : Nat) (f : Nat → Int) (v vr : Value) (bs : List (List Int)) (n : Nat) (D : DataW Unit) (W : World) : Prop where
 tab : W.heap[gt]? = some (.cells (tcs f v).toArray 54)
 row : W.ownsRow w.heap.size 57 256 vr bs.length (bs.flatMap bcs)
 map : W.ownsMap Try.prog 57 (plainElem Try.prog 3) gm n D
 bel : Below w.heap.size w W
 gtb : w.heap.size ≤ gt
 gmb : w.heap.size ≤ gm
section
variable {w : World} {gt gm : Nat} {f : Nat → Int} {v vr : Value} {bs : List (List Int)} {n : Nat} {D : DataW Unit} {W : World}
theorem PI.gt_lt (h : PI w gt gm f v vr bs n D W) : gt < W.heap.size := (Array.getElem?_eq_some_iff.1 h.tab).1
theorem PI.gm_lt (h : PI w gt gm f v vr bs n D W) : gm < W.heap.size := h.map.lt
theorem PI.gm_ne (h : PI w gt gm f v vr bs n D W) : gm ≠ gt := by
 rintro rfl
 obtain ⟨es, c, hb, _⟩ := h.map; rw [h.tab] at hb; cases hb
theorem PI.row_ne (h : PI w gt gm f v vr bs n D W) : vr.ownBlock ≠ some gt := by
 intro e
 obtain ⟨cs, hc⟩ := own_typed h.row gt e; rw [h.tab] at hc; injection hc with hc
 injection hc with _ ht
 exact absurd ht (by decide)
theorem PI.row_ne2 (h : PI w gt gm f v vr bs n D W) : vr.ownBlock ≠ some gm := by
 intro e
 obtain ⟨cs, hc⟩ := own_typed h.row gm e; obtain ⟨es, c, hb, _⟩ := h.map; rw [hb] at hc; cases hc
theorem PI.grown (h : PI w gt gm f v vr bs n D W) {W' : World} {g : Nat} (hg : W.grownBy W' (some g)) (h1 : g ≠ gt) (h2 : g ≠ gm) (h3 : vr.ownBlock ≠ some g) (h4 : w.heap.size ≤ g) : PI w gt gm f v vr bs n D W' :=
 ⟨(hg.block gt h.gt_lt (fun e => h1 (Option.some.inj e).symm)).trans h.tab, h.row.kept hg (.inr h3), h.map.kept hg (fun e => h2 (Option.some.inj e).symm), pw_below_grown h.bel _ h.bel.size hg (fun k e => by obtain rfl := Option.some.inj e; exact h4), h.gtb, h.gmb⟩
theorem PI.fresh (h : PI w gt gm f v vr bs n D W) {W' : World} {g : Nat} (hg : W.grownBy W' (some g)) (hn : W.heap.size ≤ g) : PI w gt gm f v vr bs n D W' :=
 h.grown hg (fun e => by have := h.gt_lt; omega) (fun e => by have := h.gm_lt; omega) (fun e => by have := own_lt h.row _ e; omega) (Nat.le_trans h.bel.size hn)
theorem PI.alloc (h : PI w gt gm f v vr bs n D W) (o : Obj) : PI w gt gm f v vr bs n D (W.alloc o) := h.fresh (World.grownBy_alloc W o _) (Nat.le_refl _)
theorem PI.drewN (h : PI w gt gm f v vr bs n D W) (m : Nat) : PI w gt gm f v vr bs n D (W.drewN m) := ⟨h.tab, h.row, h.map, pw_below_drewN h.bel m, h.gtb, h.gmb⟩
theorem PI.drew (h : PI w gt gm f v vr bs n D W) : PI w gt gm f v vr bs n D W.drew := ⟨h.tab, h.row, h.map, below_drew h.bel, h.gtb, h.gmb⟩
theorem PI.setf (h : PI w gt gm f v vr bs n D W) (i : Nat) (hi : i < 4352) (x : Int) : PI w gt gm (fun m => if m = i then x else f m) v vr bs n D (W.setCell ⟨gt, i, none⟩ (.int .i64 x)) :=
 have hg := grown_setCell W ⟨gt, i, none⟩ (.int .i64 x)
 ⟨(heap_setCell_same W gt i _ 54 _ h.tab).trans (by rw [List.setIfInBounds_toArray, tcs_set f v i hi x]), h.row.kept hg (.inr h.row_ne), h.map.kept hg (fun e => h.gm_ne (Option.some.inj e)), pw_below_grown h.bel _ h.bel.size hg (fun k e => by obtain rfl := Option.some.inj e; exact h.gtb), h.gtb, h.gmb⟩
theorem PI.setv (h : PI w gt gm f v vr bs n D W) : PI w gt gm f vr vr bs n D (W.setCell ⟨gt, 4352, none⟩ vr) :=
 have hg := grown_setCell W ⟨gt, 4352, none⟩ vr
 ⟨(heap_setCell_same W gt 4352 _ 54 _ h.tab).trans (by rw [List.setIfInBounds_toArray, tcs_setv]), h.row.kept hg (.inr h.row_ne), h.map.kept hg (fun e => h.gm_ne (Option.some.inj e)), pw_below_grown h.bel _ h.bel.size hg (fun k e => by obtain rfl := Option.some.inj e; exact h.gtb), h.gtb, h.gmb⟩
theorem PI.append (h : PI w gt gm f v vr bs n D W) {W' : World} {vn : Value} {b : List Int} (hg : W.grownBy W' vr.ownBlock) (ho : W'.ownsRow w.heap.size 57 256 vn (bs ++ [b]).length ((bs ++ [b]).flatMap bcs)) : PI w gt gm f v vn (bs ++ [b]) n D W' :=
 ⟨(hg.block gt h.gt_lt (fun e => h.row_ne e.symm)).trans h.tab, ho, h.map.kept hg (fun e => h.row_ne2 e.symm), pw_below_grown h.bel _ h.bel.size hg (fun k e => own_base h.row k e), h.gtb, h.gmb⟩
theorem PI.put (h : PI w gt gm f v vr bs n D W) {W' : World} {n' : Nat} {D' : DataW Unit} (hg : W.grownBy W' (some gm)) (hm : W'.ownsMap Try.prog 57 (plainElem Try.prog 3) gm n' D') : PI w gt gm f v vr bs n' D' W' :=
 ⟨(hg.block gt h.gt_lt (fun e => h.gm_ne (Option.some.inj e).symm)).trans h.tab, h.row.kept hg (.inr h.row_ne2), hm, pw_below_grown h.bel _ h.bel.size hg (fun k e => by obtain rfl := Option.some.inj e; exact h.gmb), h.gtb, h.gmb⟩
theorem PI.more (h : PI w gt gm f v vr bs n D W) {m : Nat} (hm : n ≤ m) : PI w gt gm f v vr bs m D W := ⟨h.tab, h.row, h.map.mono hm, h.bel, h.gtb, h.gmb⟩
theorem PI.ext (h : PI w gt gm f v vr bs n D W) {g : Nat → Int} (e : ∀ m, m < 4352 → f m = g m) : PI w gt gm g v vr bs n D W := ⟨by rw [← tcs_ext v e]; exact h.tab, h.row, h.map, h.bel, h.gtb, h.gmb⟩
end
theorem prop_Make.infoB : (Try.prog.info? 57).map (fun i => (i.zero, i.size, i.bytes)) = some (some (bag zerosR), 256, 256) := by kernel_rfl
theorem prop_Make.run_slice (w : World) {b : List Int} (hb : b.length = 256) : (Instr.buildSlice 51 1 #[(0, bag b)]).run Try.prog w = .ok (.slice (some ⟨w.heap.size, 0, none⟩) 1 1) (w.alloc (.cells (bcs b).toArray 57)) := by
 obtain ⟨i0, hi, hz0, hz1, hz2⟩ := info_parts prop_Make.infoB; have hbs : (bag b).cells.size = 256 := by unfold bag; show (bcs b).toArray.size = 256; rw [List.size_toArray, bcs_len, hb]
 refine run_buildSlice (P := Try.prog) w 51 57 1 #[(0, bag b)] (bcs b).toArray i0 (bag zerosR) Try.underlying51 hi hz0 (by rw [hz1]; decide) (by rw [hz1]; decide) ?_
 rw [hz1]; have h := Great.fill_whole (s := 256) (by decide) [bag b] ((Array.range (1 * 256)).map ((bag zerosR).cells[· % (bag zerosR).cells.size]!)) (fun v hv => by rw [List.mem_singleton.1 hv]; exact hbs) (by simp)
 refine h.trans ?_
 simp [bag, Value.cells]
section
variable {P : Program} {ops : Array Oper} {o : Oper} {a : Act} {Q : Exit → Act → World → Prop} {K : Act → World → Prop}
theorem load_run {w : World} (ty : TypeId) (x : Operand) (ho : o.op = .load ty x) (g : Nat) (hx : a.eval x = .pointer (some ⟨g, 0, none⟩)) (t : TypeId) (cs : Array Value) (fr : Nat × Nat) (d : TypeDesc) (hg : w.heap[g]? = some (.cells cs t fr))
  (hu : P.underlying ty = some d) (hd : (match d with | .struct _ | .array _ _ => true | _ => false) = true) (hi : (P.info? ty).map (·.size) = some cs.size) : (execOp a.eval o).run P w = .ok (.value (.agg cs)) w := by
 unfold execOp
 simp only [ho, hx, Instr.loadAt, Instr.sureAddr, Sem.run_bind, Sem.run_pure, Result.andThen_ok, run_loadVar_row w g t ty cs fr d hg hu hd hi]
theorem slice_run {w : World} {v r : Value} {w1 : World} (t : TypeId) (x : Operand) (ho : o.op = .buildSlice t 1 #[(0, x)]) (hx : a.eval x = v) (h : (Instr.buildSlice t 1 #[(0, v)]).run P w = .ok r w1) : (execOp a.eval o).run P w = .ok (.value r) w1 := by
 unfold execOp
 simp only [ho, List.map_toArray, List.map_cons, List.map_nil, Sem.run_bind, hx, h]; rfl
theorem step_append_cb {w0 W : World} {cb : Array Value} {ys : List Value} (hcb : cb = ys.toArray) (base : Nat) (hw : Region.wanted o (yielded ops a.tmps) = true) (s x : Operand) (t e : TypeId) (z : Value) (size bytes : Nat)
  (ho : o.op = .call { callee := .builtin .append, args := #[s, x], argTypes := #[t, t] })
  (ht : P.underlying t = some (.slice e)) (hinfo : (P.info? e).map (fun i => (i.zero, i.size, i.bytes)) = some (some z, size, bytes)) (hz : z.cells.size = size) (hs0 : 0 < size) (hb0 : 0 < bytes)
  (v : Value) (n : Nat) (xs : List Value) (hs : a.eval s = v) (hx : a.eval x = .slice (some ⟨W.heap.size, 0, none⟩) 1 1) (hys : ys.length = size) (h1 : ∀ u ∈ ys, u.oneCell' = true)
  (HO : W.ownsRow base e size v n xs) (HB : Below base w0 W) (hbase : base ≤ W.heap.size) (hl : (n + 1) * bytes ≤ 140737488355328)
  (h : ∀ v1 w1, w1.ownsRow base e size v1 (n + 1) (xs ++ ys) → Below base w0 w1 → W.grownBy w1 v.ownBlock → (v1.ownBlock = v.ownBlock ∨ ∃ b, v1.ownBlock = some b ∧ W.heap.size ≤ b) → K (a.put o.dst v1) w1) :
  if Region.wanted o (yielded ops a.tmps) = true then Oper.wp P o a (W.alloc (.cells cb e)) K Q else K (a.put o.dst undef) (W.alloc (.cells cb e)) := by
 subst hcb; exact step_append_cells base hw s x t e z size bytes ho ht hinfo hz hs0 hb0 v n xs ys hs hx hys h1 HO HB hbase hl h
end
theorem bcs_one (b : List Int) : ∀ u ∈ bcs b, u.oneCell' = true := by
 intro u hu
 obtain ⟨x, _, rfl⟩ := List.mem_map.1 hu; rfl
theorem bcs_snoc (bs : List (List Int)) (b : List Int) : bs.flatMap bcs ++ bcs b = (bs ++ [b]).flatMap bcs := by rw [List.flatMap_append, List.flatMap_singleton]
theorem grown_refl (w : World) (row : Option Nat) : w.grownBy w row := ⟨rfl, rfl, rfl, Nat.le_refl _, fun _ _ _ => rfl⟩
def preR (L : List (Int × Int × Int)) (i n : Nat) : List Int := (List.range 256).map fun (j : Nat) => ofR (L.take n) ((i : Int) * 256 + (j : Int))
def midR (L : List (Int × Int × Int)) (i n : Nat) (lo hi tv r : Int) : List Int := (List.range 256).map fun (j : Nat) => if lo ≤ (i : Int) * 256 + (j : Int) ∧ (i : Int) * 256 + (j : Int) < r ∧ (i : Int) * 256 + (j : Int) ≤ hi then tv else ofR (L.take n) ((i : Int) * 256 + (j : Int))
theorem map_range_congr {f g : Nat → Int} (h : ∀ j, j < 256 → f j = g j) : (List.range 256).map f = (List.range 256).map g := List.map_congr_left (fun j hj => h j (List.mem_range.1 hj))
theorem preR_zero {L : List (Int × Int × Int)} {i k : Nat} (h : ∀ m y, m < k → L[m]? = some y → y.2.1 < (i : Int) * 256) : preR L i k = zerosR := by
 have e : zerosR = (List.range 256).map fun _ => 0 := by unfold zerosR; rw [List.map_const', List.length_range]
 rw [e]; refine map_range_congr fun j hj => ofR_none _ fun y hy => ?_
 obtain ⟨m, hm⟩ := List.mem_iff_getElem?.1 hy; rw [List.getElem?_take] at hm; split at hm
 ·have := h m y (by assumption) hm
  omega
 cases hm
theorem preR_len {L : List (Int × Int × Int)} {i n : Nat} (h : L.length = n) : preR L i n = rowR L i := by
 unfold preR rowR
 rw [List.take_of_length_le (by omega)]
theorem preR_stop {L : List (Int × Int × Int)} {i n : Nat} {most : Int} {y : Int × Int × Int} (hc : chkGo most (-1) L = true) (hy : L[n]? = some y) (h : (i : Int) * 256 + 255 < y.1) : preR L i n = rowR L i := by
 refine map_range_congr fun j hj => (ofR_stop _ fun m z hm hz => ?_).symm
 have h1 := chkGo_get hc m z hz; rcases Nat.eq_or_lt_of_le hm with e | e
 ·subst e
  rw [hy] at hz; obtain rfl := Option.some.inj hz
  omega
 have h2 := chkGo_lt hc n m y z e hy hz; have h3 := chkGo_get hc n y hy; omega
theorem midR_start {L : List (Int × Int × Int)} {i n : Nat} {lo hi tv r : Int} (h : r ≤ lo ∨ r ≤ (i : Int) * 256) : midR L i n lo hi tv r = preR L i n := map_range_congr fun j hj => if_neg (by omega)
theorem midR_end {L : List (Int × Int × Int)} {i n : Nat} {lo hi tv r : Int} (hy : L[n]? = some (lo, hi, tv)) (h : hi < r ∨ (i : Int) * 256 + 255 < r) : midR L i n lo hi tv r = preR L i (n + 1) :=
 map_range_congr fun j hj => by
  rw [ofR_take hy]; by_cases e : lo ≤ (i : Int) * 256 + (j : Int) ∧ (i : Int) * 256 + (j : Int) ≤ hi
  ·rw [if_pos ⟨e.1, by omega, e.2⟩, if_pos e]
  ·rw [if_neg (fun h => e ⟨h.1, h.2.2⟩), if_neg e]
theorem midR_set {L : List (Int × Int × Int)} {i n : Nat} {lo hi tv r : Int} (h1 : lo ≤ r) (h2 : (i : Int) * 256 ≤ r) (h3 : r ≤ hi) (h4 : r ≤ (i : Int) * 256 + 255) : (midR L i n lo hi tv r).set (r - (i : Int) * 256).toNat tv = midR L i n lo hi tv (r + 1) := by
 apply List.ext_getElem?
 intro j
 unfold midR
 rw [List.getElem?_set, List.length_map, List.length_range]; by_cases hj : j < 256
 rotate_left
 ·rw [List.getElem?_eq_none (l := List.map _ _) (by rw [List.length_map, List.length_range]; omega), List.getElem?_eq_none (l := List.map _ _) (by rw [List.length_map, List.length_range]; omega)]
  split
  ·split
   ·omega
   rfl
  rfl
 rw [List.getElem?_map, List.getElem?_map, List.getElem?_range hj]; simp only [Option.map_some]; by_cases e : (r - (i : Int) * 256).toNat = j
 ·rw [if_pos e, if_pos (by omega), if_pos (by omega)]
 rw [if_neg e]; congr 1
 by_cases e2 : lo ≤ (i : Int) * 256 + (j : Int) ∧ (i : Int) * 256 + (j : Int) < r ∧ (i : Int) * 256 + (j : Int) ≤ hi
 ·rw [if_pos e2, if_pos (by omega)]
 rw [if_neg e2, if_neg (by omega)]
theorem midR_len (L : List (Int × Int × Int)) (i n : Nat) (lo hi tv r : Int) : (midR L i n lo hi tv r).length = 256 := by unfold midR; rw [List.length_map, List.length_range]
theorem bcs_set (b : List Int) (q : Nat) (x : Int) : (bcs b).set q (.int .u8 x) = bcs (b.set q x) := by unfold bcs; rw [List.map_set]
theorem to_lt {a b : Int} (h : a < b) (h0 : 0 < b) : a.toNat < b.toNat := by omega
theorem rowR_byt {L : List (Int × Int × Int)} {most last : Int} (h : chkGo most last L = true) (i : Nat) : Byt (rowR L i) := ⟨rowR_len L i, fun c hc => by
 obtain ⟨j, _, rfl⟩ := List.mem_map.1 hc; exact ofR_byte h _⟩
theorem zerosR_byt : Byt zerosR := ⟨zerosR_len, fun c hc => by rw [List.eq_of_mem_replicate hc]; omega⟩
theorem prop_Make.guard (x y : Operand) (a b : Array Value) (w : World) : (eqGuard .eql 57 x y (.agg a) (.agg b)).run Try.prog w = .ok () w := by
 have h : Try.prog.eqGuardType Try.prog.depth 57 = false := by kernel_rfl
 unfold eqGuard
 simp [Sem.run_bind, h]
theorem prop_Make.eql (x y : Operand) {a b : List Int} (ha : Byt a) (hb : Byt b) (w : World) : (do eqGuard .eql 57 x y (bag a) (bag b); binOp .eql 57 (bag a) (bag b) : Sem Value).run Try.prog w = .ok (.bool (decide (a = b))) w := by
 rw [Sem.run_bind, show Sem.run Try.prog (eqGuard .eql 57 x y (bag a) (bag b)) w = .ok () w from prop_Make.guard ..]; show ((do pure (.bool (← Op.equal 57 (bag a) (bag b))) : Sem Value).run Try.prog w) = _
 rw [Sem.run_bind, prop_Make.eq_run w ha hb]; rfl
theorem zerosR_mem (L : List (Int × Int × Int)) (i : Nat) : zerosR ∈ blR L i := by
 obtain ⟨t, ht⟩ := blR_head L i; rw [ht]; simp
theorem ixR_skip {L : List (Int × Int × Int)} {i m : Nat} (hz : rowR L i = zerosR) : (if m < i then (ixR L m : Int) else 0) = if m < i + 1 then (ixR L m : Int) else 0 := by
 by_cases h : m < i
 ·rw [if_pos h, if_pos (by omega)]
 by_cases h2 : m = i
 ·subst h2
  rw [if_neg h, if_pos (by omega), ixR_zero hz]
  rfl
 rw [if_neg h, if_neg (by omega)]
theorem ixR_step {L : List (Int × Int × Int)} {i m : Nat} {x : Int} (hx : (ixR L i : Int) = x) : (if m = i then x else if m < i then (ixR L m : Int) else 0) = if m < i + 1 then (ixR L m : Int) else 0 := by
 by_cases h : m < i
 ·rw [if_neg (by omega), if_pos h, if_pos (by omega)]
 by_cases h2 : m = i
 ·subst h2
  rw [if_pos rfl, if_pos (by omega), hx]
 rw [if_neg h2, if_neg h, if_neg (by omega)]
theorem bag_size : (bag zerosR).cells.size = 256 := by
 show (bcs zerosR).toArray.size = 256
 rw [List.size_toArray, bcs_len, zerosR_len]
theorem flat_get : ∀ (bs : List (List Int)), (∀ b ∈ bs, b.length = 256) → ∀ (j q : Nat), j < bs.length → q < 256 → (bs.flatMap bcs)[j * 256 + q]? = some (.int .u8 ((bs.getD j []).getD q 0))
 | [], _, j, _, hj, _ => by simp at hj
 | b :: bs, h, j, q, hj, hq => by
  have hb := h b (by simp)
  rw [List.flatMap_cons]; cases j with
  | zero =>
   have hl : q < (bcs b).length := by rw [bcs_len, hb]; exact hq
   rw [Nat.zero_mul, Nat.zero_add, List.getElem?_append_left hl, List.getElem?_eq_getElem hl, bcs_get b q hl]; rfl
  | succ j =>
   rw [List.getElem?_append_right (by rw [bcs_len, hb]; omega), bcs_len, hb, show (j + 1) * 256 + q - 256 = j * 256 + q by omega, flat_get bs (fun b hb => h b (by simp [hb])) j q (by simpa using hj) hq]
   rfl
theorem PI.start {w w1 w2 : World} {zb : Array Value} {tc : Value → Array Value} {gt : Nat} (hzb : zb = (bcs zerosR).toArray) (htc : ∀ v, (tcs (fun _ => 0) v).toArray = tc v) (hb1 : Below w.heap.size w w1) (hgt : gt = (w1.alloc (.cells zb 57)).heap.size)
  (hc : w2.heap[gt]? = some (.cells (tc (.slice (some ⟨w1.heap.size, 0, none⟩) 1 1)) 54)) (hbt : Below (w1.alloc (.cells zb 57)).heap.size (w1.alloc (.cells zb 57)) w2) :
  PI w gt w2.heap.size (fun _ => 0) (.slice (some ⟨w1.heap.size, 0, none⟩) 1 1) (.slice (some ⟨w1.heap.size, 0, none⟩) 1 1) [zerosR] 0 (.map []) (w2.alloc (.map #[] 0)) := by
 have hb2 : Below w.heap.size w w2 := below_then (below_alloc hb1 _) (Nat.le_trans hb1.size (by simp)) hbt
 have hr : (w1.alloc (.cells zb 57)).ownsRow w.heap.size 57 256 (.slice (some ⟨w1.heap.size, 0, none⟩) 1 1) [zerosR].length ([zerosR].flatMap bcs) := by
  have := World.ownsRow_lit (base := w.heap.size) (e := 57) (size := 256) w1 zb 1 hb1.size (by decide) (by rw [hzb, List.size_toArray, bcs_len]; exact zerosR_len)
  rw [hzb] at this ⊢; simpa using this
 refine ⟨?_, (pw_own_below hr hbt).alloc _, World.ownsMap_made _ _ _ _, below_alloc hb2 _, by rw [hgt]; exact Nat.le_trans hb1.size (by simp), hb2.size⟩
 rw [htc]; exact (heap_alloc_old w2 (.map #[] 0) (Array.getElem?_eq_some_iff.1 hc).1).trans hc
theorem PI.done {w : World} {gt gm : Nat} {L : List (Int × Int × Int)} {v : Value} {D : DataW Unit} {W : World} {m : Int} (hm : chkGo m (-1) L = true) (h : PI w gt gm (fun m => if m < 4352 then (ixR L m : Int) else 0) v v (blR L 4352) 4352 D W) :
  ∃ (g1 : Nat) (o1 : Obj) (g2 : Nat) (o2 : Obj), (Ending.returned (.tuple #[.pointer (some ⟨gt, 0, none⟩), .int .i64 0])) = .returned (.tuple #[.pointer (some ⟨g1, 0, none⟩), .int .i64 0]) ∧ W.heap[g1]? = some o1 ∧ W.heap[g2]? = some o2 ∧ w.heap.size ≤ g1 ∧ w.heap.size ≤ g2 ∧ g1 ≠ g2 ∧ TabO (.pointer (some ⟨g1, 0, none⟩)) g1 o1 g2 o2 (some L) ∧ Below w.heap.size w W := by
 rcases h.row.2 with ⟨_, h0⟩ | ⟨g, cap, cur, rfl, hb, hg, hle, _, hsz, htake⟩
 ·have := blR_ne L 4352
  omega
 refine ⟨gt, _, g, _, rfl, h.tab, hg, h.gtb, hb, fun e => h.row_ne (by rw [e]; rfl), ⟨L, rfl, rfl, 54, 57, (0, 0), (0, 0), (tcs (fun m => if m < 4352 then (ixR L m : Int) else 0) (.slice (some ⟨g, 0, none⟩) (blR L 4352).length cap)).toArray, cur, cap, rfl, rfl, ?_, ?_, ?_, fun r => ofR_byte hm r⟩, h.bel⟩
 ·intro i hi
  rw [List.getElem?_toArray, tcs_get _ _ _ hi, if_pos hi]
 ·rw [List.getElem?_toArray, tcs_last]
 intro j q hj hq
 have h1 : (cur.toList.take ((blR L 4352).length * 256))[j * 256 + q]? = ((blR L 4352).flatMap bcs)[j * 256 + q]? := by rw [htake]
 have hlt : j * 256 + q < (blR L 4352).length * 256 := by
  have : (j + 1) * 256 ≤ (blR L 4352).length * 256 := Nat.mul_le_mul_right _ hj
  omega
 rw [List.getElem?_take, if_pos hlt, Array.getElem?_toList] at h1; rw [h1, flat_get (blR L 4352) (blR_256 L 4352) j q hj hq]
theorem prop_Make.at (l : List S33) (m : Nat) (h : m < l.length) : (l.map prop_Make.t)[m]? = some ((rd_T33 l (m : Int)).f0, (rd_T33 l (m : Int)).f1, (rd_T33 l (m : Int)).f2) := by
 unfold rd_T33
 rw [List.getElem?_map, List.getElem?_eq_getElem h, List.getD_eq_getElem?_getD, Int.toNat_natCast, List.getElem?_eq_getElem h]; rfl
set_option maxHeartbeats 400000 in
set_option maxRecDepth 100000 in
theorem prop_MakeY.calls (A0 : Option Addr) (c0 : Nat) (l0 : List S33) (a1 : Int) (r : Option (List (Int × Int × Int))) (w : World) (hr0 : Kd.C k33 w A0 l0.length l0) (hc0 : l0.length ≤ c0) (h : prop_MakeY.f l0 a1 = some r) :
  Calls Try.prog 11 #[.slice A0 l0.length c0, .int .i64 a1] w fun e w' => ∃ (g1 : Nat) (o1 : Obj) (g2 : Nat) (o2 : Obj), e = .returned (.tuple #[.pointer (some ⟨g1, 0, none⟩), .int .i64 0]) ∧ w'.heap[g1]? = some o1 ∧ w'.heap[g2]? = some o2 ∧ w.heap.size ≤ g1 ∧ w.heap.size ≤ g2 ∧ g1 ≠ g2 ∧ TabO (.pointer (some ⟨g1, 0, none⟩)) g1 o1 g2 o2 r ∧ Below w.heap.size w w' := by
 obtain ⟨k, hk⟩ := prop_Make.check l0 a1; have hf : prop_Make.c l0 a1 = true ∧ r = some (l0.map prop_Make.t) := by
  unfold prop_MakeY.f at h
  split at h
  ·exact ⟨by assumption, (Option.some.inj h).symm⟩
  ·cases h
 obtain ⟨hf, rfl⟩ := hf; rw [hf] at hk; have HF : zA (chkGo a1 (-1) (l0.map prop_Make.t) = true) := ⟨chkR_go hf⟩
 have HLEN : zA (l0.length ≤ 256) := ⟨by have := chkR_len hf; rwa [List.length_map] at this⟩
 clear h hf; obtain ⟨L, hL⟩ : ∃ L, L = l0.map prop_Make.t := ⟨_, rfl⟩; rw [← hL] at HF ⊢; have HL : zA (∀ m, m < l0.length → L[m]? = some ((rd_T33 l0 (m : Int)).f0, (rd_T33 l0 (m : Int)).f1, (rd_T33 l0 (m : Int)).f2)) := ⟨fun m hm => by rw [hL]; exact prop_Make.at l0 m hm⟩
 have HLL : zA (L.length = l0.length) := ⟨by rw [hL, List.length_map]⟩
 clear hL; have HR0 := zA.mk hr0; clear hr0; have hmm := @run_makeMap Try.prog; have hR1 := prop_Make.run_make; have hR2 := prop_Make.run_build; have hR3 := prop_Make.run_zv; have hR4 := prop_Make.run_zero; obtain ⟨zb, hzb⟩ : ∃ zb, zb = (bcs zerosR).toArray := ⟨_, rfl⟩; obtain ⟨tc, htc⟩ : ∃ tc : Value → Array Value, ∀ v, (tcs (fun _ => 0) v).toArray = tc v := ⟨_, fun _ => rfl⟩
 rw [show bag zerosR = .agg (bcs zerosR).toArray from rfl] at hR3; rw [← hzb] at hR1 hR3 hR4; replace hR2 : ∀ (a : Option Addr) (n c : Nat) (w : World), (Instr.build 54 #[(1, .slice a n c)]).run Try.prog w = .ok (.agg (tc (.slice a n c))) w := fun a n c w => by rw [← htc]; exact hR2 a n c w
 have HZB := zA.mk hzb; have HTC := zA.mk htc; clear hzb htc; go_enter Try.func11, Try.ntmps11
 go_wp2_with (first | (go_at_call 12; refine (prop_Check.calls k A0 c0 l0 a1 true w HR0.out hc0 hk).mono ?_; rintro e w1 ⟨rfl, hb1⟩) | ((with_reducible refine gate_dst (N := 21) rfl ?_); refine Kd.event_run rfl (v := .slice (some ⟨w1.heap.size, 0, none⟩) 1 1) (w1 := w1.alloc (.cells zb 57)) ?hr1 ?_; (case hr1 => show (Sem.run Try.prog (do pure (Next.value (← Instr.makeSlice 51 (.int .i64 1) (.int .i64 1)))) _) = _; rw [Sem.run_bind, hR1]; rfl)) | ((with_reducible refine gate_dst (N := 22) rfl ?_); refine Kd.event_run rfl (v := .agg (tc (.slice (some ⟨w1.heap.size, 0, none⟩) 1 1))) (w1 := w1.alloc (.cells zb 57)) ?hr2 ?_; (case hr2 => simp only [execOp, List.map_toArray, List.map_cons, List.map_nil, Sem.run_bind]; rw [show Act.eval _ (Operand.tmp 21) = Value.slice (some ⟨w1.heap.size, 0, none⟩) 1 1 from rfl, hR2]; rfl)) | ((with_reducible refine gate_dst (N := 23) rfl ?_); refine box_event rfl (N := 23) rfl (cs := tc (.slice (some ⟨w1.heap.size, 0, none⟩) 1 1)) (t := 54) ?hr3 ?_; (case hr3 => first | (go_simp; done) | (go_simp; rfl)); intro gt hgt w2 hgt2 hbt; have HP := zA.mk (PI.start HZB.out HTC.out hb1 hgt hgt2 hbt); clear hgt hgt2 hbt hb1))
 clear hR1 hR2 hmm HTC hk hc0; generalize w2.alloc (Obj.map #[] 0) = W0 at HP ⊢
 generalize w2.heap.size = gm at HP ⊢
 go_loopw [8, 25] (fun v8 v25 wr => ∃ (i k : Nat) (v : Value) (D : DataW Unit), v25 = .int .i64 (i : Int) ∧ v8 = .int .i64 (k : Int) ∧ i ≤ 4352 ∧ k ≤ l0.length ∧ zA (∀ m y, m < k → L[m]? = some y → y.2.1 < (i : Int) * 256) ∧ zA (PI w gt gm (fun m => if m < i then (ixR L m : Int) else 0) v v (blR L i) i D wr) ∧ zA (SeenR Try.prog 57 D (blR L i))) (fun _ v25 _ => 4352 - (intOf v25).toNat)
 case atStart => exact ⟨0, 0, _, _, rfl, rfl, by omega, by omega, ⟨fun m _ hm => by omega⟩, HP, ⟨SeenR.start⟩⟩
 obtain ⟨i, k, v, D, rfl, rfl, hi, hk, HK, HP2, HS⟩ := hrel; clear HP; by_cases hlt : i < 4352
 rotate_left
 ·obtain rfl : i = 4352 := by omega
  go_wp2
  go_ret2
  exact PI.done HF.out HP2.out
 have bi : decide ((i : Int) < 4352) = true := decide_eq_true (by omega)
 go_upto_block 2 with (first | ((with_reducible refine gate_dst (N := 12) rfl ?_); refine box_event rfl (N := 12) rfl (cs := zb) (t := 57) ?hr4 ?_; (case hr4 => first | (go_simp; done) | (go_simp; rfl)); intro gb hgb w3 hgb2 hb3; have HP3 := zA.mk (HP2.out.fresh (grown_of_below hb3 (some gb)) (by rw [hgb]; exact Nat.le_refl _)); have HGB := zA.mk hgb2; have HNB := zA.mk (show gb ≠ gt ∧ gb ≠ gm ∧ v.ownBlock ≠ some gb ∧ w.heap.size ≤ gb from ⟨fun e => by have := HP2.out.gt_lt; omega, fun e => by have := HP2.out.gm_lt; omega, fun e => by have := own_lt HP2.out.row _ e; omega, by rw [hgb]; exact HP2.out.bel.size⟩); clear hgb hgb2 hb3 HP2))
 (try simp only [Act.put, sA_, sB_, sC_])
 go_cut [8] (fun v8 wc => ∃ k : Nat, v8 = .int .i64 (k : Int) ∧ k ≤ l0.length ∧ zA (∀ m y, m < k → L[m]? = some y → y.2.1 < (i : Int) * 256) ∧ w3 = wc)
 case first =>
  go_wp2
  go_loop [8] (fun v8 => ∃ k : Nat, v8 = .int .i64 (k : Int) ∧ k ≤ l0.length ∧ zA (∀ m y, m < k → L[m]? = some y → y.2.1 < (i : Int) * 256)) (fun v8 => l0.length - (intOf v8).toNat)
  case atStart => exact ⟨k, rfl, hk, HK⟩
  clear hk HK; obtain ⟨k, rfl, hk, HK⟩ := hrel; by_cases hkl : k < l0.length
  rotate_left
  ·go_wp2
   go_meet
   case rel => exact ⟨k, rfl, hk, HK, rfl⟩
  obtain ⟨ad, rfl, x0, x1, x2⟩ := at_T33 (Kd.zH HR0.out HP3.out.bel) (k : Int) (by omega) (by omega)
  have hLk := zA.mk (HL.out k hkl); simp only [Int.toNat_natCast] at x0 x1 x2; generalize rd_T33 l0 (k : Int) = y at x0 x1 x2 hLk
  clear x0 x2; have hlen := HLEN.out; have b1 : decide ((k : Int) < (l0.length : Int)) = true := decide_eq_true (by omega)
  by_cases hh : y.f1 < (i : Int) * 256
  rotate_left
  ·have b2 : decide (y.f1 < (i : Int) * 256) = false := decide_eq_false hh
   go_wp2
   go_meet
   case rel => exact ⟨k, rfl, hk, HK, rfl⟩
  have b2 : decide (y.f1 < (i : Int) * 256) = true := decide_eq_true hh
  go_wp2
  go_round
  case rel => exact ⟨k + 1, by go_num, by omega, ⟨fun m z hm hz => by
   rcases Nat.lt_or_ge m k with h1 | h1
   ·exact HK.out m z h1 hz
   ·obtain rfl : m = k := by omega
    rw [hLk.out] at hz; obtain rfl := Option.some.inj hz
    exact hh⟩⟩
  case measure => simp [intOf]; omega
 clear hk HK; obtain ⟨k, rfl, hk, HK, rfl⟩ := hcut; go_upto_block 4 with (fail)
 (try simp only [Act.put, sA_, sB_, sC_])
 go_cut [] (fun wc => zA (w3.grownBy wc (some gb)) ∧ zA (wc.heap[gb]? = some (.cells (bcs (rowR L i)).toArray 57)))
 case first =>
  go_wp2
  go_loopw [13] (fun v13 wr => ∃ n : Nat, v13 = .int .i64 (n : Int) ∧ k ≤ n ∧ n ≤ l0.length ∧ zA (w3.grownBy wr (some gb)) ∧ zA (wr.heap[gb]? = some (.cells (bcs (preR L i n)).toArray 57))) (fun v13 _ => l0.length - (intOf v13).toNat)
  case atStart => exact ⟨k, rfl, Nat.le_refl _, hk, ⟨grown_refl _ _⟩, ⟨by rw [preR_zero HK.out, ← HZB.out]; exact HGB.out⟩⟩
  obtain ⟨n, rfl, hkn, hn, HG, HB⟩ := hrel; have HBL := zA.mk (pw_below_grown HP3.out.bel (some gb) HP3.out.bel.size HG.out (fun q e => by obtain rfl := Option.some.inj e; exact HNB.out.2.2.2))
  by_cases hnl : n < l0.length
  rotate_left
  ·obtain rfl : n = l0.length := by omega
   go_wp2
   go_meet
   case rel => exact ⟨HG, ⟨by rw [← preR_len HLL.out]; exact HB.out⟩⟩
  obtain ⟨ad, rfl, x0, x1, x2⟩ := at_T33 (Kd.zH HR0.out HBL.out) (n : Int) (by omega) (by omega)
  have hLn := zA.mk (HL.out n hnl); simp only [Int.toNat_natCast] at x0 x1 x2; have hch := chkGo_get HF.out n _ hLn.out; obtain ⟨y, hy⟩ : ∃ y, rd_T33 l0 (n : Int) = y := ⟨_, rfl⟩; rw [hy] at x0 x1 x2 hLn hch; have HY := zA.mk hy; clear hy; simp only at hch
  obtain ⟨hc1, hc2, hc3, hc4, _, hc5⟩ := hch; have hlen := HLEN.out; have b1 : decide ((n : Int) < (l0.length : Int)) = true := decide_eq_true (by omega)
  by_cases hh : y.f0 ≤ (i : Int) * 256 + 255
  rotate_left
  ·have b2 : decide (y.f0 ≤ (i : Int) * 256 + 255) = false := decide_eq_false hh
   clear x1 x2; go_wp2
   go_meet
   case rel => exact ⟨HG, ⟨by rw [← preR_stop HF.out hLn.out (by omega)]; exact HB.out⟩⟩
  have b2 : decide (y.f0 ≤ (i : Int) * 256 + 255) = true := decide_eq_true hh
  go_upto_block 5 with (fail)
  (try simp only [Act.put, sA_, sB_, sC_])
  go_cut [] (fun wc => zA (w3.grownBy wc (some gb)) ∧ zA (wc.heap[gb]? = some (.cells (bcs (preR L i (n + 1))).toArray 57)))
  case first =>
   obtain ⟨r0, hr0⟩ : ∃ r0, (if y.f0 < (i : Int) * 256 then (i : Int) * 256 else y.f0) = r0 := ⟨_, rfl⟩; go_wp2
   have hr1 : y.f0 ≤ r0 ∧ (i : Int) * 256 ≤ r0 ∧ (r0 ≤ y.f0 ∨ r0 ≤ (i : Int) * 256) ∧ r0 ≤ 1114112 := by rw [← hr0]; split <;> omega
   clear hr0 b1 b2 x0 x1 x2; obtain ⟨wo, rfl⟩ : ∃ wo : World, wo = wr := ⟨_, rfl⟩; go_loopw [14] (fun v14 wq => ∃ r : Int, v14 = .int .i32 r ∧ y.f0 ≤ r ∧ (i : Int) * 256 ≤ r ∧ r ≤ 1114112 ∧ zA (w3.grownBy wq (some gb)) ∧ zA (wq.heap[gb]? = some (.cells (bcs (midR L i n y.f0 y.f1 y.f2 r)).toArray 57))) (fun v14 _ => (1114112 - intOf v14).toNat)
   case atStart => exact ⟨r0, rfl, hr1.1, hr1.2.1, hr1.2.2.2, HG, ⟨by rw [midR_start hr1.2.2.1]; exact HB.out⟩⟩
   clear HG HB HBL hr1; obtain ⟨r, rfl, hr1, hr2, hr3, HG, HB⟩ := hrel; obtain ⟨m, rfl⟩ := Int.eq_ofNat_of_zero_le (show 0 ≤ r by omega)
   have HBL := zA.mk (pw_below_grown HP3.out.bel (some gb) HP3.out.bel.size HG.out (fun q e => by obtain rfl := Option.some.inj e; exact HNB.out.2.2.2))
   obtain ⟨ad', e', x0, x1, x2⟩ := at_T33 (Kd.zH HR0.out HBL.out) (n : Int) (by omega) (by omega)
   obtain rfl : ad = ad' := by injection e'
   simp only [Int.toNat_natCast] at x0 x1 x2; rw [HY.out] at x0 x1 x2; clear x0 e'; have b1 : decide ((n : Int) < (l0.length : Int)) = true := decide_eq_true (by omega)
   by_cases hq : (m : Int) ≤ y.f1 ∧ (m : Int) ≤ (i : Int) * 256 + 255
   rotate_left
   ·obtain ⟨mn, hmn⟩ : ∃ mn, (if (i : Int) * 256 + 255 < y.f1 then (i : Int) * 256 + 255 else y.f1) = mn := ⟨_, rfl⟩
    have hm2 : decide ((m : Int) ≤ mn) = false := decide_eq_false (by rw [← hmn]; split <;> omega)
    go_wp2
    go_meet
    case rel => exact ⟨HG, ⟨by rw [← midR_end hLn.out (show y.f1 < (m : Int) ∨ (i : Int) * 256 + 255 < (m : Int) by omega)]; exact HB.out⟩⟩
   obtain ⟨mn, hmn⟩ : ∃ mn, (if (i : Int) * 256 + 255 < y.f1 then (i : Int) * 256 + 255 else y.f1) = mn := ⟨_, rfl⟩; have hm2 : decide ((m : Int) ≤ mn) = true := decide_eq_true (by rw [← hmn]; split <;> omega)
   obtain ⟨q, hqq⟩ : ∃ q, q = m % 256 := ⟨_, rfl⟩; have hand := i32_and255 m (by omega)
   rw [← hqq] at hand; have hq1 : (q : Int) < 256 := by omega
   have hq3 : q = ((m : Int) - (i : Int) * 256).toNat := by omega
   clear hqq; have HC := zA.mk hq3; clear hq3; have hfz : wr.frozen? ⟨gb, q, none⟩ = false := frozen_of_row wr gb q _ 57 HB.out
   have hcc : wr.cell? ⟨gb, q, none⟩ = some (.int .u8 ((midR L i n y.f0 y.f1 y.f2 (m : Int)).getD q 0)) := by
    rw [cell_of_row wr gb q _ 57 _ HB.out, List.getElem?_toArray, List.getElem?_eq_getElem (by rw [bcs_len, midR_len]; omega), bcs_get]
   generalize (midR L i n y.f0 y.f1 y.f2 (m : Int)).getD q 0 = old at hcc
   go_wp2
   go_roundw
   case rel => exact ⟨(m : Int) + 1, by go_num, by omega, by omega, by omega, ⟨HG.out.trans (grown_setCell wr ⟨gb, q, none⟩ _)⟩, ⟨(heap_setCell_same wr gb q _ 57 _ HB.out).trans (by rw [List.setIfInBounds_toArray, bcs_set, HC.out, midR_set (by omega) (by omega) (by omega) (by omega)])⟩⟩
   case measure => exact to_lt (show (1114112 : Int) - ((m : Int) + 1) < 1114112 - (m : Int) by omega) (show (0 : Int) < 1114112 - (m : Int) by omega)
  clear HG HB HBL; obtain ⟨HG, HB⟩ := hcut; go_wp2
  go_roundw
  case rel => exact ⟨n + 1, by go_num, by omega, by omega, HG, HB⟩
  case measure => simp [intOf]; omega
 obtain ⟨HG, HB⟩ := hcut; have HP4 := zA.mk (HP3.out.grown HG.out HNB.out.1 HNB.out.2.1 HNB.out.2.2.1 HNB.out.2.2.2); clear HG HP3 HGB; have HBY : zA (Byt (rowR L i)) := ⟨rowR_byt HF.out i⟩
 obtain ⟨kl, hkl⟩ := prop_Make.hkey HBY.out; obtain ⟨cb, hcb⟩ : ∃ cb, cb = (bcs (rowR L i)).toArray := ⟨_, rfl⟩; rw [show bag (rowR L i) = .agg (bcs (rowR L i)).toArray from rfl, ← hcb] at hkl; rw [← hcb] at HB; have HSZ : zA ((Try.prog.info? 57).map (·.size) = some cb.size) := ⟨by rw [hcb, List.size_toArray, bcs_len, rowR_len]; kernel_rfl⟩
 have HCB := zA.mk hcb; have HKL := zA.mk hkl; clear hcb hkl; by_cases hz : rowR L i = zerosR
 ·have HZ := zA.mk hz
  clear hz; go_wp2_with (first | ((with_reducible refine gate_dst (N := 93) rfl ?_); refine wpList_load_row rfl 57 (.tmp 12) rfl gb rfl 57 cb (0, 0) (.array 256 5) HB.out Try.underlying57 rfl HSZ.out ?_) | ((with_reducible refine gate_dst (N := 95) rfl ?_); refine Kd.event_run rfl (v := .bool true) (w1 := wc) ?he ?_; (case he => have e1 := prop_Make.eql (.tmp 93) (.tmp 94) HBY.out zerosR_byt wc; rw [show bag (rowR L i) = .agg (bcs (rowR L i)).toArray from rfl, ← HCB.out, show bag zerosR = .agg (bcs zerosR).toArray from rfl, ← HZB.out, decide_eq_true HZ.out] at e1; simp only [execOp]; exact (show Sem.run Try.prog (do let r_ ← (do eqGuard .eql 57 (.tmp 93) (.tmp 94) (.agg cb) (.agg zb); binOp .eql 57 (.agg cb) (.agg zb)); pure (Next.value r_)) wc = _ from by rw [Sem.run_bind, e1]; rfl))))
  go_roundw
  case rel => exact ⟨i + 1, k, v, D, by go_num, rfl, by omega, hk, ⟨fun m y hm hy => by have := HK.out m y hm hy; omega⟩, ⟨by rw [blR_old (by rw [HZ.out]; exact zerosR_mem L i)]; exact (HP4.out.more (Nat.le_succ i)).ext (fun m hm => ixR_skip HZ.out)⟩, ⟨by rw [blR_old (by rw [HZ.out]; exact zerosR_mem L i)]; exact HS.out⟩⟩
  case measure => simp [intOf]; omega
 have HZ := zA.mk hz; clear hz; obtain ⟨hh1, hh2⟩ := HS.out (rowR L i) kl HBY.out (by rw [show bag (rowR L i) = .agg (bcs (rowR L i)).toArray from rfl, ← HCB.out]; exact HKL.out)
 have HHA := zA.mk hh1; have HHB := zA.mk hh2; clear hh1 hh2; by_cases hm : rowR L i ∈ blR L i
 ·have hha : Maps.has D kl = true := by rw [HHA.out, decide_eq_true ⟨hm, HZ.out⟩]
  have HM := zA.mk hm; clear hm; have hci : wc.cell? ⟨gt, i, none⟩ = some (.int .i64 0) := by rw [cell_of_row wc gt i _ 54 _ HP4.out.tab, List.getElem?_toArray, tcs_get _ _ _ hlt, if_neg (Nat.lt_irrefl _)]
  have hfi : wc.frozen? ⟨gt, i, none⟩ = false := frozen_of_row wc gt i _ 54 HP4.out.tab
  go_wp2_with (first | ((with_reducible refine gate_dst (N := 93) rfl ?_); refine wpList_load_row rfl 57 (.tmp 12) rfl gb rfl 57 cb (0, 0) (.array 256 5) HB.out Try.underlying57 rfl HSZ.out ?_) | ((with_reducible refine gate_dst (N := 95) rfl ?_); refine Kd.event_run rfl (v := .bool false) (w1 := wc) ?he ?_; (case he => have e1 := prop_Make.eql (.tmp 93) (.tmp 94) HBY.out zerosR_byt wc; rw [show bag (rowR L i) = .agg (bcs (rowR L i)).toArray from rfl, ← HCB.out, show bag zerosR = .agg (bcs zerosR).toArray from rfl, ← HZB.out, decide_eq_false HZ.out] at e1; simp only [execOp]; exact (show Sem.run Try.prog (do let r_ ← (do eqGuard .eql 57 (.tmp 93) (.tmp 94) (.agg cb) (.agg zb); binOp .eql 57 (.agg cb) (.agg zb)); pure (Next.value r_)) wc = _ from by rw [Sem.run_bind, e1]; rfl))) | ((with_reducible refine gate_dst (N := 98) rfl ?_); refine wpList_load_row rfl 57 (.tmp 12) rfl gb rfl 57 cb (0, 0) (.array 256 5) HB.out Try.underlying57 rfl HSZ.out ?_) | (at_lookup; refine wpList_lookup_own_ok_int _ rfl _ _ 55 rfl 57 3 .i64 prop_Make.law Try.underlying55 Try.underlying3 (prop_Make.zeroE _) gm i D rfl HP4.out.map (.agg cb) kl rfl HKL.out ?_; intro c hat hwc))
  have HCX := zA.mk (show (ixR L i : Int) = c by
   have h2 := (HHB.out HM.out HZ.out _).symm.trans hat; injection h2 with h2
   injection h2 with _ h2
   rw [ixR_old HM.out]; exact h2)
  clear hat hci hfi; go_roundw
  case rel => exact ⟨i + 1, k, v, D, by go_num, rfl, by omega, hk, ⟨fun m y hm hy => by have := HK.out m y hm hy; omega⟩, ⟨by rw [blR_old HM.out]; exact ((HP4.out.setf i hlt c).more (Nat.le_succ i)).ext (fun m hm => ixR_step HCX.out)⟩, ⟨by rw [blR_old HM.out]; exact HS.out⟩⟩
  case measure => simp [intOf]; omega
 have hha : Maps.has D kl = false := by rw [HHA.out, decide_eq_false (fun h => hm h.1)]
 have HM := zA.mk hm; clear hm; obtain ⟨g, cap, hv, hg1, hg2⟩ := HP4.out.row.form (blR_ne L i); subst hv; have hcv : wc.cell? ⟨gt, 4352, none⟩ = some (.slice (some ⟨g, 0, none⟩) (blR L i).length cap) := by rw [cell_of_row wc gt _ _ 54 _ HP4.out.tab, List.getElem?_toArray, tcs_last]
 have hfv : wc.frozen? ⟨gt, 4352, none⟩ = false := frozen_of_row wc gt _ _ 54 HP4.out.tab
 go_wp2_with (first | ((with_reducible refine gate_dst (N := 93) rfl ?_); refine wpList_load_row rfl 57 (.tmp 12) rfl gb rfl 57 cb (0, 0) (.array 256 5) HB.out Try.underlying57 rfl HSZ.out ?_) | ((with_reducible refine gate_dst (N := 95) rfl ?_); refine Kd.event_run rfl (v := .bool false) (w1 := wc) ?he ?_; (case he => have e1 := prop_Make.eql (.tmp 93) (.tmp 94) HBY.out zerosR_byt wc; rw [show bag (rowR L i) = .agg (bcs (rowR L i)).toArray from rfl, ← HCB.out, show bag zerosR = .agg (bcs zerosR).toArray from rfl, ← HZB.out, decide_eq_false HZ.out] at e1; simp only [execOp]; exact (show Sem.run Try.prog (do let r_ ← (do eqGuard .eql 57 (.tmp 93) (.tmp 94) (.agg cb) (.agg zb); binOp .eql 57 (.agg cb) (.agg zb)); pure (Next.value r_)) wc = _ from by rw [Sem.run_bind, e1]; rfl))) | ((with_reducible refine gate_dst (N := 98) rfl ?_); refine wpList_load_row rfl 57 (.tmp 12) rfl gb rfl 57 cb (0, 0) (.array 256 5) HB.out Try.underlying57 rfl HSZ.out ?_) | (at_lookup; refine wpList_lookup_own_ok_int _ rfl _ _ 55 rfl 57 3 .i64 prop_Make.law Try.underlying55 Try.underlying3 (prop_Make.zeroE _) gm i D rfl HP4.out.map (.agg cb) kl rfl HKL.out ?_; intro c hat hwc))
 have HN1 := zA.mk (show gb < wc.heap.size from (Array.getElem?_eq_some_iff.1 HB.out).1); refine start_ (n := 11) (S := fun w' => w'.cell? ⟨gt, 4352, none⟩ = some (.slice (some ⟨g, 0, none⟩) (blR L i).length cap) ∧ w'.heap[gb]? = some (.cells cb 57)) (ds := [7, 10]) #[false, false, false, false, false, false, false, false, false, false, false] (by kernel_rfl) rfl rfl ⟨hcv, HB.out⟩ (fun hHeld => ?_)
 have HP5 := zA.mk HP4.out.drew; have HB5 := zA.mk (show wc.drew.heap[gb]? = some (.cells cb 57) from HB.out); clear HP4 HB hcv hfv HN1; generalize wc.drew = wd at hHeld HP5 HB5 ⊢
 refine pure_ (i := 0) (N := some 109) (v := ?_) (a' := ?_) (tf_ 1 11) rfl rfl (by kernel_rfl) (fun _ _ _ h => h) (Or.inl ⟨by rfl, ?_⟩) ?_ ?_
 rotate_left
 ·intro w'
  go_simp
  with_reducible rfl
 rotate_left
 ·simp only [Act.put, sA_, sB_, sC_]
  rfl
 refine pure_ (i := 1) (N := some 110) (v := ?_) (a' := ?_) (tf_ 2 11) rfl rfl (by kernel_rfl) (fun _ _ _ h => h) (Or.inl ⟨by rfl, ?_⟩) ?_ ?_
 rotate_left
 ·intro w'
  go_simp
  with_reducible rfl
 rotate_left
 ·simp only [Act.put, sA_, sB_, sC_]
  rfl
 refine pure_ (i := 2) (N := some 111) (v := ?_) (a' := ?_) (tf_ 3 11) rfl rfl (by kernel_rfl) (fun _ _ _ h => h) (Or.inl ⟨by rfl, ?_⟩) ?_ ?_
 rotate_left
 ·intro w'
  go_simp
  with_reducible rfl
 rotate_left
 ·simp only [Act.put, sA_, sB_, sC_]
  rfl
 refine pure_ (i := 3) (N := some 112) (v := ?_) (a' := ?_) (tf_ 4 11) rfl rfl (by kernel_rfl) (fun _ _ _ h => h) (Or.inl ⟨by rfl, ?_⟩) ?_ ?_
 rotate_left
 ·intro w'
  go_simp
  with_reducible rfl
 rotate_left
 ·simp only [Act.put, sA_, sB_, sC_]
  rfl
 refine take_ (i := 4) (N := some 113) (v := ?_) (a' := ?_) (tf_ 5 11) rfl rfl (by kernel_rfl) (fun _ _ _ h => h) (Or.inl ⟨by rfl, ?_⟩) hHeld ?_ ?_
 rotate_left
 ·rintro w' ⟨s0, s1⟩
  go_simp
  with_reducible rfl
 rotate_left
 ·simp only [Act.put, sA_, sB_, sC_]
  rfl
 refine take_ (i := 5) (N := some 114) (v := .agg cb) (a' := ?_) (tf_ 6 11) rfl rfl (by kernel_rfl) (fun _ _ _ h => h) (Or.inl ⟨by rfl, ?_⟩) hHeld ?_ ?_
 ·rintro w' ⟨s0, s1⟩
  exact load_run 57 (.tmp 12) rfl gb rfl 57 cb (0, 0) (.array 256 5) s1 Try.underlying57 rfl HSZ.out
 rotate_left
 ·simp only [Act.put, sA_, sB_, sC_]
  rfl
 refine one_ (i := 6) (N := some 115) (tb_ 127 11) rfl rfl (by kernel_rfl) (by decide) (fun K hK => ?_)
 refine value_ (w1 := wd.alloc (.cells cb 57)) (v := .slice (some ⟨wd.heap.size, 0, none⟩) 1 1) (by rfl) rfl ?_ ?_
 ·have e1 := prop_Make.run_slice wd (rowR_len L i)
  rw [show bag (rowR L i) = .agg (bcs (rowR L i)).toArray from rfl, ← HCB.out] at e1; exact slice_run 51 (.tmp 114) rfl rfl e1
 refine hK.out _ _ ⟨(World.cell?_alloc_lt _ _ _ (World.block_lt_of_cell? _ _ hHeld.1)).trans hHeld.1, blk_alloc hHeld.2 _⟩ (fun hHeld => ?_)
 clear hK K; refine norm_ (a' := ?_) ?_ ?_
 rotate_left
 ·show Act.put _ (some 115) _ = _
  simp only [Act.put, sA_, sB_, sC_]; rfl
 refine last_ (i := 7) (N := some 116) (tb_ 255 11) rfl rfl (by kernel_rfl) (by decide) (fun K hK => ?_)
 refine step_append_cb HCB.out (w0 := w) w.heap.size (by rfl) (.tmp 113) (.tmp 115) 51 57 (bag zerosR) 256 256 rfl Try.underlying51 prop_Make.infoB bag_size (by decide) (by decide) (.slice (some ⟨g, 0, none⟩) (blR L i).length cap) (blR L i).length _ rfl rfl (by rw [bcs_len, rowR_len]) (bcs_one _) HP5.out.row HP5.out.bel HP5.out.bel.size (by have := blR_len L i; omega) ?_
 intro vn w5 hown hbn hgn _
 rw [bcs_snoc, show (blR L i).length + 1 = (blR L i ++ [rowR L i]).length by rw [List.length_append]; rfl] at hown
 have HP6 := zA.mk (HP5.out.append hgn hown); have HB6 := zA.mk ((hgn.block gb (Array.getElem?_eq_some_iff.1 HB5.out).1 (fun e => HNB.out.2.2.1 e.symm)).trans HB5.out)
 obtain ⟨g5, cap5, hv5, _, _⟩ := HP6.out.row.form (by rw [List.length_append]; exact Nat.succ_pos _)
 subst hv5; have hcv5 : w5.cell? ⟨gt, 4352, none⟩ = some (.slice (some ⟨g, 0, none⟩) (blR L i).length cap) := by rw [cell_of_row w5 gt _ _ 54 _ HP6.out.tab, List.getElem?_toArray, tcs_last]
 have hfv5 : w5.frozen? ⟨gt, 4352, none⟩ = false := frozen_of_row w5 gt _ _ 54 HP6.out.tab
 clear hown hbn hgn HP5 HB5 hHeld; refine hK.out _ _ ?_
 clear hK K; refine norm_ (a' := ?_) ?_ ?_
 rotate_left
 ·show Act.put _ (some 116) _ = _
  simp only [Act.put, sA_, sB_, sC_]; rfl
 refine pure_ (i := 8) (N := some 117) (v := ?_) (a' := ?_) (tf_ 9 11) rfl rfl (by kernel_rfl) (fun _ _ _ h => h) (Or.inl ⟨by rfl, ?_⟩) ?_ ?_
 rotate_left
 ·intro w'
  go_simp
  with_reducible rfl
 rotate_left
 ·simp only [Act.put, sA_, sB_, sC_]
  rfl
 refine pure_ (i := 9) (N := some 118) (v := ?_) (a' := ?_) (tf_ 10 11) rfl rfl (by kernel_rfl) (fun _ _ _ h => h) (Or.inl ⟨by rfl, ?_⟩) ?_ ?_
 rotate_left
 ·intro w'
  go_simp
  with_reducible rfl
 rotate_left
 ·simp only [Act.put, sA_, sB_, sC_]
  rfl
 refine last_ (i := 10) (N := none) (tb_ 2047 11) rfl rfl (by kernel_rfl) (by decide) (fun K hK => ?_)
 refine skip_ (w1 := w5.setCell ⟨gt, 4352, none⟩ (.slice (some ⟨g5, 0, none⟩) (blR L i ++ [rowR L i]).length cap5)) (by rfl) rfl ?_ ?_
 ·first | (go_simp; done) | (go_simp; rfl)
 refine hK.out _ _ ?_
 clear hK K; refine done_ (by kernel_rfl) ?_
 have HP7 := zA.mk HP6.out.setv; have HB7 := zA.mk ((heap_setCell_other w5 ⟨gt, 4352, none⟩ gb (.slice (some ⟨g5, 0, none⟩) (blR L i ++ [rowR L i]).length cap5) HNB.out.1).trans HB6.out); clear HP6 HB6 hcv5 hfv5; generalize w5.setCell ⟨gt, 4352, none⟩ (.slice (some ⟨g5, 0, none⟩) (blR L i ++ [rowR L i]).length cap5) = w6 at HP7 HB7 ⊢
 go_wp2_with (first | ((with_reducible refine gate_dst (N := 120) rfl ?_); refine wpList_load_row rfl 57 (.tmp 12) rfl gb rfl 57 cb (0, 0) (.array 256 5) HB7.out Try.underlying57 rfl HSZ.out ?_) | (at_mapUpdate; refine wpList_mapUpdate_own _ rfl _ _ _ 55 rfl 57 3 prop_Make.law Try.underlying55 _ gm i D rfl HP7.out.map (by unfold maxLen; omega) (.agg cb) (.int .i64 ((blR L i).length : Int)) kl rfl rfl HKL.out (.lit (.int .i64 ((blR L i).length : Int))) [] (plainElem_int Try.underlying3 (WalkArith.wf_i64 (by have := blR_len L i; omega))) ?_; intro w7 hown7 hgn7; have HP8 := zA.mk (HP7.out.put hgn7 hown7); have hci : w7.cell? ⟨gt, i, none⟩ = some (.int .i64 0) := (by rw [cell_of_row w7 gt i _ 54 _ HP8.out.tab, List.getElem?_toArray, tcs_get _ _ _ hlt, if_neg (Nat.lt_irrefl _)]); have hfi : w7.frozen? ⟨gt, i, none⟩ = false := frozen_of_row w7 gt i _ 54 HP8.out.tab; have HIM := zA.mk HP7.out.map.isMap; clear hown7 hgn7 HP7 HB7))
 clear hci hfi; go_roundw
 case rel => exact ⟨i + 1, k, _, _, by go_num, rfl, by omega, hk, ⟨fun m y hm hy => by have := HK.out m y hm hy; omega⟩, ⟨by rw [blR_new HM.out]; exact (HP8.out.setf i hlt ((blR L i).length : Int)).ext (fun m hm => ixR_step (by rw [ixR_new HM.out]))⟩, ⟨by rw [blR_new HM.out]; exact HS.out.put HIM.out (zerosR_mem L i) HBY.out (by rw [show bag (rowR L i) = .agg (bcs (rowR L i)).toArray from rfl, ← HCB.out]; exact HKL.out) HM.out⟩⟩
 case measure => simp [intOf]; omega
def prop_Table_Of.f (a0 : Option (List (Int × Int × Int))) (a1 : Int) : Option (Int) := some (tabOf a0 a1)
set_option maxHeartbeats 8000000 in
set_option maxRecDepth 100000 in
theorem prop_Table_Of.calls (vt0_ : Value) (a0 : Option (List (Int × Int × Int))) (a1 : Int) (r : Int) (w : World) (hta0 : TabAt w a0 vt0_) (h : prop_Table_Of.f a0 a1 = some r) :
  Calls Try.prog 14 #[vt0_, .int .i32 a1] w fun e w' => e = .returned (.int .i64 r) ∧ Drawn0 w w' := by
 obtain rfl := Option.some.inj h
 clear h; cases a0 with
 | none =>
  obtain rfl : vt0_ = .pointer none := hta0
  have hr : tabOf none a1 = 0 := rfl
  rw [hr]; go_enter Try.func14, Try.ntmps14
  go_wp2
  go_ret
  exact ⟨rfl, Drawn0.refl _⟩
 | some l =>
  obtain ⟨g1, o1, g2, o2, h1, h2, rfl, t1, t2, f1, f2, cs1, cs2, c, rfl, rfl, hix, hsl, hbl, hby⟩ := hta0; by_cases c1 : a1 < 0
  ·rw [show tabOf (some l) a1 = 0 from if_pos (.inl c1)]
   have b1 : decide (a1 < 0) = true := decide_eq_true c1
   go_enter Try.func14, Try.ntmps14
   go_wp2
   go_ret
   exact ⟨rfl, Drawn0.refl _⟩
  have b1 : decide (a1 < 0) = false := decide_eq_false c1
  by_cases c2 : a1 > 1114111
  ·rw [show tabOf (some l) a1 = 0 from if_pos (.inr c2)]
   have b2 : decide (1114111 < a1) = true := decide_eq_true c2
   go_enter Try.func14, Try.ntmps14
   go_wp2
   go_ret
   exact ⟨rfl, Drawn0.refl _⟩
  have b2 : decide (1114111 < a1) = false := decide_eq_false c2
  obtain ⟨m, rfl⟩ := Int.eq_ofNat_of_zero_le (show 0 ≤ a1 by omega)
  have hm : m ≤ 1114111 := by omega
  have hlt : ixR l (m / 256) < (blR l 4352).length := ixR_lt l (by omega)
  have hget : (((blR l 4352).getD (ixR l (m / 256)) []).getD (m % 256) 0) = tabOf (some l) m := by
   rw [List.getD_eq_getElem?_getD (l := blR l 4352), ixR_get l (show m / 256 < 4352 by omega)]
   show (rowR l (m / 256)).getD (m % 256) 0 = _
   rw [rowR_get l _ _ (by omega), show tabOf (some l) (m : Int) = ofR l m from if_neg (by omega)]
   congr 1
   omega
  have hcS : w.cell? ⟨g1, 4352, none⟩ = some (.slice (some ⟨g2, 0, none⟩) (blR l 4352).length c) := (cell_of_row w g1 _ _ _ _ h1).trans hsl
  have hcI : w.cell? ⟨g1, m / 256, none⟩ = some (.int .i64 (ixR l (m / 256) : Int)) := (cell_of_row w g1 _ _ _ _ h1).trans (hix _ (by omega))
  have hcB : w.cell? ⟨g2, ixR l (m / 256) * 256 + m % 256, none⟩ = some (.int .u8 (tabOf (some l) m)) := (cell_of_row w g2 _ _ _ _ h2).trans ((hbl _ _ hlt (by omega)).trans (by rw [hget]))
  have hb0 := hby (m : Int); rw [← show tabOf (some l) (m : Int) = ofR l m from if_neg (by omega)] at hb0
  obtain ⟨hb0, hb1⟩ := hb0; generalize tabOf (some l) (m : Int) = r at hcB hb0 hb1 ⊢
  generalize ixR l (m / 256) = x at hcI hcB hlt
  generalize (blR l 4352).length = n at hcS hlt
  have hand := i32_and255 m (by omega)
  clear hget hix hsl hbl hby h1 h2 hm; go_enter Try.func14, Try.ntmps14
  go_wp2
  go_quiet (fail)
  go_wp2
  go_ret
  exact ⟨rfl, by repeat (first | exact Drawn0.refl _ | apply Drawn0.step)⟩
def prop_Table_Blocks.f (a0 : Option (List (Int × Int × Int))) : Option (Int) := some (tabBl a0)
set_option maxHeartbeats 8000000 in
set_option maxRecDepth 100000 in
theorem prop_Table_Blocks.calls (vt0_ : Value) (a0 : Option (List (Int × Int × Int))) (r : Int) (w : World) (hta0 : TabAt w a0 vt0_) (h : prop_Table_Blocks.f a0 = some r) :
  Calls Try.prog 16 #[vt0_] w fun e w' => e = .returned (.int .i64 r) ∧ Drawn0 w w' := by
 obtain rfl := Option.some.inj h
 clear h; cases a0 with
 | none =>
  obtain rfl : vt0_ = .pointer none := hta0
  rw [show tabBl none = 0 from rfl]; go_enter Try.func16, Try.ntmps16
  go_wp2
  go_ret
  exact ⟨rfl, Drawn0.refl _⟩
 | some l =>
  obtain ⟨g1, o1, g2, o2, h1, h2, rfl, t1, t2, f1, f2, cs1, cs2, c, rfl, rfl, hix, hsl, hbl, hby⟩ := hta0; rw [show tabBl (some l) = ((blR l 4352).length : Int) from rfl]; have hcS : w.cell? ⟨g1, 4352, none⟩ = some (.slice (some ⟨g2, 0, none⟩) (blR l 4352).length c) := (cell_of_row w g1 _ _ _ _ h1).trans hsl
  generalize (blR l 4352).length = n at hcS ⊢
  clear hix hsl hbl hby h1 h2; go_enter Try.func16, Try.ntmps16
  go_wp2
  go_ret
  exact ⟨rfl, Drawn0.refl _⟩
def stanzalaw02_Awake.f  : Option (Bool) := (some (([(⟨48, 57, 1⟩ : S33), (⟨65, 90, 2⟩ : S33)] : List (S33)) : List (S33))).bind fun y103 => (if prop_Make.c y103 3 = true then ((prop_MakeY.f y103 3).bind fun t108 => (if prop_Make.c ([] : List (S33)) 1 = true then ((prop_MakeY.f ([] : List (S33)) 1).bind fun t111 => ((prop_Table_Of.f t108 53).bind fun t112 => (if t112 = 1 then ((prop_Table_Of.f t108 64).bind fun t113 => (if t113 = 0 then ((prop_Table_Of.f t108 65).bind fun t114 => (if t114 = 2 then ((prop_Table_Blocks.f t108).bind fun t115 => (if t115 = 2 then ((prop_Table_Blocks.f t111).bind fun t116 => (some (t116 == 1))) else (some false))) else (some false))) else (some false))) else (some false)))) else ((prop_MakeN.f ([] : List (S33)) 1).bind fun _ => (some false)))) else ((prop_MakeN.f y103 3).bind fun _ => (if prop_Make.c ([] : List (S33)) 1 = true then ((prop_MakeY.f ([] : List (S33)) 1).bind fun t119 => (some false)) else ((prop_MakeN.f ([] : List (S33)) 1).bind fun _ => (some false)))))
set_option maxHeartbeats 8000000 in
set_option maxRecDepth 100000 in
theorem stanzalaw02_Awake.calls  (r : Bool) (w : World) (h : stanzalaw02_Awake.f  = some r) (hrt_ : zA (r = true)) :
  Calls Try.prog 9 #[] w fun e w' => e = .returned (.bool r) ∧ Below w.heap.size w w' := by
 have hu33 := Try.underlying33; have HB := zA.mk (Below.refl w.heap.size w); have H : ((some (([(⟨48, 57, 1⟩ : S33), (⟨65, 90, 2⟩ : S33)] : List (S33)) : List (S33))).bind fun y103 => (if prop_Make.c y103 3 = true then ((prop_MakeY.f y103 3).bind fun t108 => (if prop_Make.c ([] : List (S33)) 1 = true then ((prop_MakeY.f ([] : List (S33)) 1).bind fun t111 => ((prop_Table_Of.f t108 53).bind fun t112 => (if t112 = 1 then ((prop_Table_Of.f t108 64).bind fun t113 => (if t113 = 0 then ((prop_Table_Of.f t108 65).bind fun t114 => (if t114 = 2 then ((prop_Table_Blocks.f t108).bind fun t115 => (if t115 = 2 then ((prop_Table_Blocks.f t111).bind fun t116 => (some (t116 == 1))) else (some false))) else (some false))) else (some false))) else (some false)))) else ((prop_MakeN.f ([] : List (S33)) 1).bind fun _ => (some false)))) else ((prop_MakeN.f y103 3).bind fun _ => (if prop_Make.c ([] : List (S33)) 1 = true then ((prop_MakeY.f ([] : List (S33)) 1).bind fun t119 => (some false)) else ((prop_MakeN.f ([] : List (S33)) 1).bind fun _ => (some false)))))) = some r := h
 clear h; obtain ⟨y103, hy103⟩ : ∃ y_ : List (S33), y_ = (([(⟨48, 57, 1⟩ : S33), (⟨65, 90, 2⟩ : S33)] : List (S33))) := ⟨_, rfl⟩; replace H : (if prop_Make.c y103 3 = true then ((prop_MakeY.f y103 3).bind fun t108 => (if prop_Make.c ([] : List (S33)) 1 = true then ((prop_MakeY.f ([] : List (S33)) 1).bind fun t111 => ((prop_Table_Of.f t108 53).bind fun t112 => (if t112 = 1 then ((prop_Table_Of.f t108 64).bind fun t113 => (if t113 = 0 then ((prop_Table_Of.f t108 65).bind fun t114 => (if t114 = 2 then ((prop_Table_Blocks.f t108).bind fun t115 => (if t115 = 2 then ((prop_Table_Blocks.f t111).bind fun t116 => (some (t116 == 1))) else (some false))) else (some false))) else (some false))) else (some false)))) else ((prop_MakeN.f ([] : List (S33)) 1).bind fun _ => (some false)))) else ((prop_MakeN.f y103 3).bind fun _ => (if prop_Make.c ([] : List (S33)) 1 = true then ((prop_MakeY.f ([] : List (S33)) 1).bind fun t119 => (some false)) else ((prop_MakeN.f ([] : List (S33)) 1).bind fun _ => (some false))))) = some r := by first | (rw [hy103]; with_reducible exact H) | (have H2_ := (Option.bind_some _ _).symm.trans H; rw [hy103]; with_reducible exact H2_) | (have H2_ := (Option.bind_some _ _).symm.trans H; with_reducible exact H2_) | with_reducible exact H | (rw [hy103]; exact H) | exact H
 have Ny103 := zA.mk hy103; clear hy103; by_cases c1 : prop_Make.c y103 3 = true
 rotate_left
 ·rw [if_neg c1] at H
  have c1b0 : prop_Make.c y103 3 = false := by simpa using c1
  clear c1; replace H := Option.bind_eq_some_iff.mp H; obtain ⟨_, A200, H⟩ := H; replace H : (if prop_Make.c ([] : List (S33)) 1 = true then ((prop_MakeY.f ([] : List (S33)) 1).bind fun t119 => (some false)) else ((prop_MakeN.f ([] : List (S33)) 1).bind fun _ => (some false))) = some r := H
  have A20 := zA.mk A200; clear A200; by_cases c21 : prop_Make.c ([] : List (S33)) 1 = true
  ·rw [if_pos c21] at H
   have c21b0 : prop_Make.c ([] : List (S33)) 1 = true := c21
   clear c21; replace H := Option.bind_eq_some_iff.mp H; obtain ⟨t119, A220, H⟩ := H; replace H : (some false) = some r := H; have A22 := zA.mk A220; clear A220; exact absurd ((Option.some.inj H).trans hrt_.out) (by decide)
  rw [if_neg c21] at H; have c21b0 : prop_Make.c ([] : List (S33)) 1 = false := by simpa using c21
  clear c21; replace H := Option.bind_eq_some_iff.mp H; obtain ⟨_, A230, H⟩ := H; replace H : (some false) = some r := H; have A23 := zA.mk A230; clear A230; exact absurd ((Option.some.inj H).trans hrt_.out) (by decide)
 rw [if_pos c1] at H; have c1b0 : prop_Make.c y103 3 = true := c1
 clear c1; replace H := Option.bind_eq_some_iff.mp H; obtain ⟨t108, A20, H⟩ := H; replace H : (if prop_Make.c ([] : List (S33)) 1 = true then ((prop_MakeY.f ([] : List (S33)) 1).bind fun t111 => ((prop_Table_Of.f t108 53).bind fun t112 => (if t112 = 1 then ((prop_Table_Of.f t108 64).bind fun t113 => (if t113 = 0 then ((prop_Table_Of.f t108 65).bind fun t114 => (if t114 = 2 then ((prop_Table_Blocks.f t108).bind fun t115 => (if t115 = 2 then ((prop_Table_Blocks.f t111).bind fun t116 => (some (t116 == 1))) else (some false))) else (some false))) else (some false))) else (some false)))) else ((prop_MakeN.f ([] : List (S33)) 1).bind fun _ => (some false))) = some r := H
 have A2 := zA.mk A20; clear A20; by_cases c3 : prop_Make.c ([] : List (S33)) 1 = true
 rotate_left
 ·rw [if_neg c3] at H
  have c3b0 : prop_Make.c ([] : List (S33)) 1 = false := by simpa using c3
  clear c3; replace H := Option.bind_eq_some_iff.mp H; obtain ⟨_, A190, H⟩ := H; replace H : (some false) = some r := H; have A19 := zA.mk A190; clear A190; exact absurd ((Option.some.inj H).trans hrt_.out) (by decide)
 rw [if_pos c3] at H; have c3b0 : prop_Make.c ([] : List (S33)) 1 = true := c3
 clear c3; replace H := Option.bind_eq_some_iff.mp H; obtain ⟨t111, A40, H⟩ := H; replace H : ((prop_Table_Of.f t108 53).bind fun t112 => (if t112 = 1 then ((prop_Table_Of.f t108 64).bind fun t113 => (if t113 = 0 then ((prop_Table_Of.f t108 65).bind fun t114 => (if t114 = 2 then ((prop_Table_Blocks.f t108).bind fun t115 => (if t115 = 2 then ((prop_Table_Blocks.f t111).bind fun t116 => (some (t116 == 1))) else (some false))) else (some false))) else (some false))) else (some false))) = some r := H
 have A4 := zA.mk A40; clear A40; replace H := Option.bind_eq_some_iff.mp H; obtain ⟨t112, A50, H⟩ := H; replace H : (if t112 = 1 then ((prop_Table_Of.f t108 64).bind fun t113 => (if t113 = 0 then ((prop_Table_Of.f t108 65).bind fun t114 => (if t114 = 2 then ((prop_Table_Blocks.f t108).bind fun t115 => (if t115 = 2 then ((prop_Table_Blocks.f t111).bind fun t116 => (some (t116 == 1))) else (some false))) else (some false))) else (some false))) else (some false)) = some r := H
 have A5 := zA.mk A50; clear A50; by_cases c6 : t112 = 1
 rotate_left
 ·rw [if_neg c6] at H
  have c6b0 : (t112 == 1) = false := beq_eq_false_iff_ne.mpr c6
  have c6b1 : (t112 != 1) = true := bne_iff_ne.mpr c6
  exact absurd ((Option.some.inj H).trans hrt_.out) (by decide)
 rw [if_pos c6] at H; have c6b0 : (t112 == 1) = true := beq_iff_eq.mpr c6
 have c6b1 : (t112 != 1) = false := bne_eq_false_iff_eq.mpr c6
 clear c6; replace H := Option.bind_eq_some_iff.mp H; obtain ⟨t113, A70, H⟩ := H; replace H : (if t113 = 0 then ((prop_Table_Of.f t108 65).bind fun t114 => (if t114 = 2 then ((prop_Table_Blocks.f t108).bind fun t115 => (if t115 = 2 then ((prop_Table_Blocks.f t111).bind fun t116 => (some (t116 == 1))) else (some false))) else (some false))) else (some false)) = some r := H
 have A7 := zA.mk A70; clear A70; by_cases c8 : t113 = 0
 rotate_left
 ·rw [if_neg c8] at H
  have c8b0 : (t113 == 0) = false := beq_eq_false_iff_ne.mpr c8
  have c8b1 : (t113 != 0) = true := bne_iff_ne.mpr c8
  exact absurd ((Option.some.inj H).trans hrt_.out) (by decide)
 rw [if_pos c8] at H; have c8b0 : (t113 == 0) = true := beq_iff_eq.mpr c8
 have c8b1 : (t113 != 0) = false := bne_eq_false_iff_eq.mpr c8
 clear c8; replace H := Option.bind_eq_some_iff.mp H; obtain ⟨t114, A90, H⟩ := H; replace H : (if t114 = 2 then ((prop_Table_Blocks.f t108).bind fun t115 => (if t115 = 2 then ((prop_Table_Blocks.f t111).bind fun t116 => (some (t116 == 1))) else (some false))) else (some false)) = some r := H
 have A9 := zA.mk A90; clear A90; by_cases c10 : t114 = 2
 rotate_left
 ·rw [if_neg c10] at H
  have c10b0 : (t114 == 2) = false := beq_eq_false_iff_ne.mpr c10
  have c10b1 : (t114 != 2) = true := bne_iff_ne.mpr c10
  exact absurd ((Option.some.inj H).trans hrt_.out) (by decide)
 rw [if_pos c10] at H; have c10b0 : (t114 == 2) = true := beq_iff_eq.mpr c10
 have c10b1 : (t114 != 2) = false := bne_eq_false_iff_eq.mpr c10
 clear c10; replace H := Option.bind_eq_some_iff.mp H; obtain ⟨t115, A110, H⟩ := H; replace H : (if t115 = 2 then ((prop_Table_Blocks.f t111).bind fun t116 => (some (t116 == 1))) else (some false)) = some r := H
 have A11 := zA.mk A110; clear A110; by_cases c12 : t115 = 2
 rotate_left
 ·rw [if_neg c12] at H
  have c12b0 : (t115 == 2) = false := beq_eq_false_iff_ne.mpr c12
  have c12b1 : (t115 != 2) = true := bne_iff_ne.mpr c12
  exact absurd ((Option.some.inj H).trans hrt_.out) (by decide)
 rw [if_pos c12] at H; have c12b0 : (t115 == 2) = true := beq_iff_eq.mpr c12
 have c12b1 : (t115 != 2) = false := bne_eq_false_iff_eq.mpr c12
 clear c12; replace H := Option.bind_eq_some_iff.mp H; obtain ⟨t116, A130, H⟩ := H; replace H : (some (t116 == 1)) = some r := H; have A13 := zA.mk A130; clear A130; obtain rfl := Option.some.inj H
 go_enter Try.func9, Try.ntmps9
 go_wp2_with (first | ((with_reducible refine gate_dst (N := 8) rfl ?_); refine Kd.R_lit k33 _ 33 ?hg (N := 8) ?hd (xs := ([(⟨48, 57, 1⟩ : S33), (⟨65, 90, 2⟩ : S33)] : List (S33))) (inner := [.int .i32 48, .int .i32 57, .int .i64 1, .int .i32 65, .int .i32 90, .int .i64 2]) (ok := fun _ => True) (okp := fun _ => True) ?hr ?hp (fun _ hk => hk) trivial (Below.refl _ _) (Nat.le_refl _) (by simp) ?_; (case hd => rfl); (case hg => rfl); (case hr => first | (go_simp; done) | (go_simp; rfl)); (case hp => exact (Reps.c3 (show Kd.M k33 _ _ _ (⟨48, 57, 1⟩ : S33) [.int .i32 48, .int .i32 57, .int .i64 1] from (k33_mkM _ _ _ (⟨48, 57, 1⟩ : S33) )) (Reps.c3 (show Kd.M k33 _ _ _ (⟨65, 90, 2⟩ : S33) [.int .i32 65, .int .i32 90, .int .i64 2] from (k33_mkM _ _ _ (⟨65, 90, 2⟩ : S33) )) (Reps.none _ _)))); intro v104 w14 ho15 hb hg_ hnew_; clear hg_ hnew_; (first | rw [← Ny103.out] at ho15 | (simp only [Int.reduceToNat] at ho15; rw [← Ny103.out] at ho15)); have HO105 := zA.mk (Kd.zM ho15 (below_size (aL HB))); replace HB := zA.mk (below_step (aL HB) hb); clear hb ho15; obtain ⟨Ao16, co16, eo16⟩ := Kd.zL HO105.out; subst eo16) | ((with_reducible refine gate_callee (f := 11) rfl ?_); refine goesL_ (some 9) rfl rfl Try.func11 (by kernel_rfl) rfl #[.slice Ao16 y103.length co16, .int .i64 3] rfl aT ?_; (with_reducible refine (prop_MakeY.calls _ _ y103 3 t108 _ ?side1 ?side2 A2.out).mono ?_); (case side1 => exact aF HO105); (case side2 => exact (Kd.zI HO105.out).2.1); rintro e w17 ⟨gb107, ob107, gb108, ob108, rfl, hx1, hx2, hg1, hg2, hne, htb, hb⟩; refine ⟨_, rfl, ?_⟩; replace HO105 := zA.mk (Kd.zJ (Kd.R_elderB (Kd.R_elderB (aR HO105) gb107 hg1) gb108 hg2) hb); have BK107 := zA.mk (hx1); have GW107 := zA.mk ((Nat.le_trans (below_size (aL HB)) hg1 : w.heap.size ≤ gb107)); have GE107 := zA.mk ((Nat.le_trans (below_size (aL HB)) hg1 : w.heap.size ≤ gb107)); have NB107_108 := zA.mk (hne); have BK108 := zA.mk (hx2); have GW108 := zA.mk ((Nat.le_trans (below_size (aL HB)) hg2 : w.heap.size ≤ gb108)); have GE108 := zA.mk ((Nat.le_trans (below_size (aL HB)) hg2 : w.heap.size ≤ gb108)); replace HB := zA.mk (below_step (aL HB) hb); have NB108_107 := zA.mk (Ne.symm hne); have HTt108 := zA.mk (htb); clear hb hx1 hx2 hg1 hg2 hne htb) | ((with_reducible refine gate_callee (f := 11) rfl ?_); refine goesL_ (some 13) rfl rfl Try.func11 (by kernel_rfl) rfl #[.slice none 0 0, .int .i64 1] rfl aT ?_; (refine (prop_MakeY.calls _ _ ([] : List (S33)) 1 t111 _ ?side1 ?side2 A4.out).mono ?_); (case side1 => exact Kd.C_nil _ _); (case side2 => exact Nat.le_refl _); rintro e w18 ⟨gb110, ob110, gb111, ob111, rfl, hx1, hx2, hg1, hg2, hne, htb, hb⟩; refine ⟨_, rfl, ?_⟩; replace HO105 := zA.mk (Kd.zJ (Kd.R_elderB (Kd.R_elderB (aR HO105) gb110 hg1) gb111 hg2) hb); have BK110 := zA.mk (hx1); have GW110 := zA.mk ((Nat.le_trans (below_size (aL HB)) hg1 : w.heap.size ≤ gb110)); have GE110 := zA.mk ((Nat.le_trans (below_size (aL HB)) hg1 : w.heap.size ≤ gb110)); have NB110_111 := zA.mk (hne); have NB107_110 := zA.mk ((Nat.ne_of_lt (Nat.lt_of_lt_of_le (blk_lt (g := gb107) (o := ob107) (aB BK107)) hg1) : gb107 ≠ gb110)); have NB110_107 := zA.mk ((Nat.ne_of_gt (Nat.lt_of_lt_of_le (blk_lt (g := gb107) (o := ob107) (aB BK107)) hg1) : gb110 ≠ gb107)); have NB108_110 := zA.mk ((Nat.ne_of_lt (Nat.lt_of_lt_of_le (blk_lt (g := gb108) (o := ob108) (aB BK108)) hg1) : gb108 ≠ gb110)); have NB110_108 := zA.mk ((Nat.ne_of_gt (Nat.lt_of_lt_of_le (blk_lt (g := gb108) (o := ob108) (aB BK108)) hg1) : gb110 ≠ gb108)); have BK111 := zA.mk (hx2); have GW111 := zA.mk ((Nat.le_trans (below_size (aL HB)) hg2 : w.heap.size ≤ gb111)); have GE111 := zA.mk ((Nat.le_trans (below_size (aL HB)) hg2 : w.heap.size ≤ gb111)); replace HB := zA.mk (below_step (aL HB) hb); have NB111_110 := zA.mk (Ne.symm hne); have NB107_111 := zA.mk ((Nat.ne_of_lt (Nat.lt_of_lt_of_le (blk_lt (g := gb107) (o := ob107) (aB BK107)) hg2) : gb107 ≠ gb111)); have NB111_107 := zA.mk ((Nat.ne_of_gt (Nat.lt_of_lt_of_le (blk_lt (g := gb107) (o := ob107) (aB BK107)) hg2) : gb111 ≠ gb107)); replace BK107 := zA.mk (blk_below (aB BK107) hb); have NB108_111 := zA.mk ((Nat.ne_of_lt (Nat.lt_of_lt_of_le (blk_lt (g := gb108) (o := ob108) (aB BK108)) hg2) : gb108 ≠ gb111)); have NB111_108 := zA.mk ((Nat.ne_of_gt (Nat.lt_of_lt_of_le (blk_lt (g := gb108) (o := ob108) (aB BK108)) hg2) : gb111 ≠ gb108)); replace BK108 := zA.mk (blk_below (aB BK108) hb); have HTt111 := zA.mk (htb); clear hb hx1 hx2 hg1 hg2 hne htb) | (go_at_call 14; (with_reducible refine (prop_Table_Of.calls (.pointer (some ⟨gb107, 0, none⟩)) t108 53 t112 _ ?side1 A5.out).mono ?_); (case side1 => exact TabO.at HTt108.out (aB BK107) (aB BK108)); rintro e w' ⟨rfl, ⟨nd, rfl⟩⟩) | (go_at_call 14; (with_reducible refine (prop_Table_Of.calls (.pointer (some ⟨gb107, 0, none⟩)) t108 64 t113 _ ?side1 A7.out).mono ?_); (case side1 => exact TabO.at HTt108.out (aB BK107) (aB BK108)); rintro e w' ⟨rfl, ⟨nd, rfl⟩⟩) | (go_at_call 14; (with_reducible refine (prop_Table_Of.calls (.pointer (some ⟨gb107, 0, none⟩)) t108 65 t114 _ ?side1 A9.out).mono ?_); (case side1 => exact TabO.at HTt108.out (aB BK107) (aB BK108)); rintro e w' ⟨rfl, ⟨nd, rfl⟩⟩) | (go_at_call 16; (with_reducible refine (prop_Table_Blocks.calls (.pointer (some ⟨gb107, 0, none⟩)) t108 t115 _ ?side1 A11.out).mono ?_); (case side1 => exact TabO.at HTt108.out (aB BK107) (aB BK108)); rintro e w' ⟨rfl, ⟨nd, rfl⟩⟩) | (go_at_call 16; (with_reducible refine (prop_Table_Blocks.calls (.pointer (some ⟨gb110, 0, none⟩)) t111 t116 _ ?side1 A13.out).mono ?_); (case side1 => exact TabO.at HTt111.out (aB BK110) (aB BK111)); rintro e w' ⟨rfl, ⟨nd, rfl⟩⟩))
 go_ret
 exact ⟨aX, aL HB⟩
mutual
def stanzalaw02_Right.l0 : Nat → List (S33) → Int → List (S33) → Int → Int → Option ((List (S33)))
 | 0, _, _, _, _, _ => none
 | k + 1, x0, x1, x5, x6, x7 => if x7 < (x0.length : Int) then (stanzalaw02_Right.j1 k x0 x1 x5 x6 x7 (decide (x7 < 200))) else (stanzalaw02_Right.j1 k x0 x1 x5 x6 x7 false)
def stanzalaw02_Right.j1 : Nat → List (S33) → Int → List (S33) → Int → Int → Bool → Option ((List (S33)))
 | 0, _, _, _, _, _, _ => none
 | k + 1, x0, x1, x5, x6, x7, x17 => if x17 = true then (if 0 ≤ x7 then (if x7 < (x0.length : Int) then (if (wrap64 ((wrap64 ((wrap64 (x6 + 1)) + ((((rd_T33 x0 x7).f0) % 4294967296) % 3000))) + ((((rd_T33 x0 x7).f1) % 4294967296) % 600))) > 1114111 then (some x5) else (if (IntKind.u64.wrap (x1)) = 0 then (none) else (if x5.length < 8796093022208 then (stanzalaw02_Right.l0 k x0 x1 (x5 ++ [(⟨wrap32 (wrap64 ((wrap64 (x6 + 1)) + ((((rd_T33 x0 x7).f0) % 4294967296) % 3000))), wrap32 (wrap64 ((wrap64 ((wrap64 (x6 + 1)) + ((((rd_T33 x0 x7).f0) % 4294967296) % 3000))) + ((((rd_T33 x0 x7).f1) % 4294967296) % 600))), wrap64 (Int.tmod (IntKind.u64.wrap ((rd_T33 x0 x7).f2)) (IntKind.u64.wrap (x1)))⟩ : S33)]) (wrap64 ((wrap64 ((wrap64 (x6 + 1)) + ((((rd_T33 x0 x7).f0) % 4294967296) % 3000))) + ((((rd_T33 x0 x7).f1) % 4294967296) % 600))) (wrap64 (x7 + 1))) else (none)))) else (none)) else (none)) else (some x5)
end
def stanzalaw02_Right.f (k : Nat) (l0 : List (S33)) (a1 : Int) : Option ((List (S33))) := stanzalaw02_Right.l0 k l0 a1 ([] : List (S33)) (-1) 0
theorem stanzalaw02_Right.mono_l : ∀ k, (∀ y0 y1 y2 y3 y4, LeO (stanzalaw02_Right.l0 k y0 y1 y2 y3 y4) (stanzalaw02_Right.l0 (k + 1) y0 y1 y2 y3 y4)) ∧ (∀ y0 y1 y2 y3 y4 y5, LeO (stanzalaw02_Right.j1 k y0 y1 y2 y3 y4 y5) (stanzalaw02_Right.j1 (k + 1) y0 y1 y2 y3 y4 y5))
 | 0 => ⟨fun _ _ _ _ _ r h => by simp [stanzalaw02_Right.l0] at h, fun _ _ _ _ _ _ r h => by simp [stanzalaw02_Right.j1] at h⟩
 | k + 1 => by
  obtain ⟨ih0, ih1⟩ := stanzalaw02_Right.mono_l k; refine ⟨?_, ?_⟩
  ·intro y0 y1 y2 y3 y4
   unfold stanzalaw02_Right.l0
   repeat' (with_reducible first | exact ih0 _ _ _ _ _ | exact ih1 _ _ _ _ _ _ | exact LeO.refl _ | exact LeO.none _ | refine LeO.ite ?_ ?_ | refine LeO.bind ?_ (fun _ => ?_))
  ·intro y0 y1 y2 y3 y4 y5
   unfold stanzalaw02_Right.j1
   repeat' (with_reducible first | exact ih0 _ _ _ _ _ | exact ih1 _ _ _ _ _ _ | exact LeO.refl _ | exact LeO.none _ | refine LeO.ite ?_ ?_ | refine LeO.bind ?_ (fun _ => ?_))
theorem stanzalaw02_Right.mono : ∀ a0 a1 k, LeO (stanzalaw02_Right.f k a0 a1) (stanzalaw02_Right.f (k + 1) a0 a1) := by
 intro a0 a1 k
 obtain ⟨ih0, ih1⟩ := stanzalaw02_Right.mono_l k; unfold stanzalaw02_Right.f
 repeat' (with_reducible first | exact ih0 _ _ _ _ _ | exact ih1 _ _ _ _ _ _ | exact LeO.refl _ | exact LeO.none _ | refine LeO.ite ?_ ?_ | refine LeO.bind ?_ (fun _ => ?_))
set_option maxHeartbeats 8000000 in
set_option maxRecDepth 100000 in
theorem stanzalaw02_Right.calls (k : Nat) (A0 : Option Addr) (c0 : Nat) (l0 : List (S33)) (a1 : Int) (r : List (S33)) (w : World) (hr0 : Kd.C k33 w A0 l0.length l0) (hc0 : l0.length ≤ c0) (h : stanzalaw02_Right.f k l0 a1 = some r) :
  Calls Try.prog 13 #[.slice A0 l0.length c0, .int .i64 a1] w fun e w' => ∃ v0_ : Value, e = .returned (v0_) ∧ Kd.R k33 33 w' w.heap.size (fun _ => True) v0_ r ∧ Below w.heap.size w w' := by
 have hu33 := Try.underlying33; have HR0 := zA.mk hr0; have HC0 := zA.mk hc0; clear hr0 hc0; have HB := zA.mk (Below.refl w.heap.size w); have H : (stanzalaw02_Right.l0 k l0 a1 ([] : List (S33)) (-1) 0) = some r := h
 clear h; have H' := zA.mk H
 clear H; go_enter Try.func13, Try.ntmps13
 go_wp2
 go_loopg [5, 6, 7] k (fun kq v5 v6 v7 w' => ∃ (x5_1 : List (S33)) (x6_1 : Int) (x7_1 : Int), v6 = .int .i64 x6_1 ∧ v7 = .int .i64 x7_1 ∧ zA (stanzalaw02_Right.l0 kq l0 a1 x5_1 x6_1 x7_1 = some r) ∧ zA (kq ≤ k) ∧ zA (Kd.R k33 33 w' w.heap.size (fun _ => True) v5 x5_1) ∧ zA (Below w.heap.size w w'))
 case atStart => exact ⟨(([] : List (S33))), ((-1)), (0), aZ, aZ, H', ⟨Nat.le_refl _⟩, ⟨by first | exact Kd.R_nil _ _ _ _ _ | exact Kd.N_nil _ _ _ _ _ | exact Kd.V_nil _ _ _ _ _ | exact Kd.Q_nil _ _ _ _ _ | exact Kd.S_nil _ _ _ _ _⟩, ⟨aL HB⟩⟩
 clear H'; obtain ⟨x5_1, x6_1, x7_1, rfl, rfl, HA, HK1, HO_5, HB⟩ := hrel; cases gk with
 | zero => exact absurd HA.out (by simp [stanzalaw02_Right.l0])
 | succ k1 =>
  have H := HA.out; clear HA; simp only [stanzalaw02_Right.l0] at H; have HC3 := zA.mk H; clear H; go_upto_region 4 with (fail)
  go_cut [17] (fun v17 wc => ∃ (kq : Nat) (x17_2 : Bool), v17 = .bool x17_2 ∧ zA (stanzalaw02_Right.j1 kq l0 a1 x5_1 x6_1 x7_1 x17_2 = some r) ∧ zA (kq ≤ k1) ∧ zA (Kd.R k33 33 wc w.heap.size (fun _ => True) u5 x5_1) ∧ zA (Below w.heap.size w wc))
  case first =>
   have H := HC3.out; clear HC3; by_cases c4 : x7_1 < (l0.length : Int)
   ·rw [if_pos c4] at H
    have c4b0 : decide (x7_1 < (l0.length : Int)) = true := decide_eq_true c4
    clear c4; (first | rw [c4b0] | (simp only [i64_w, i32_w]; rw [c4b0]) | skip)
    have H' := zA.mk H
    clear H; go_wp2
    go_meet
    case rel => exact ⟨_, (decide (x7_1 < 200)), aZ, H', ⟨by have := HK1.out; first | omega | exact Nat.le_refl _⟩, ⟨aR HO_5⟩, ⟨aL HB⟩⟩
   rw [if_neg c4] at H; have c4b0 : decide (x7_1 < (l0.length : Int)) = false := decide_eq_false c4
   clear c4; (first | rw [c4b0] | (simp only [i64_w, i32_w]; rw [c4b0]) | skip)
   have H' := zA.mk H
   clear H; go_wp2
   go_meet
   case rel => exact ⟨_, (false), aZ, H', ⟨by have := HK1.out; first | omega | exact Nat.le_refl _⟩, ⟨aR HO_5⟩, ⟨aL HB⟩⟩
  clear HC3; obtain ⟨kq, x17_2, rfl, HA, HJ2, HO_5, HB⟩ := hcut; cases kq with
  | zero => exact absurd HA.out (by simp [stanzalaw02_Right.j1])
  | succ kj2 =>
   have H := HA.out; clear HA; simp only [stanzalaw02_Right.j1] at H; by_cases c5 : x17_2 = true
   rotate_left
   ·replace c5 := Bool.eq_false_iff.mpr c5
    subst c5; have H1 : (some x5_1) = some r := by rw [if_neg (show ¬ (false = true) by decide)] at H; exact H
    clear H; have H := H1; clear H1; obtain rfl := Option.some.inj H
    go_wp2
    go_ret
    exact ⟨_, aX, aR HO_5, aL HB⟩
   subst c5; have H1 : (if 0 ≤ x7_1 then (if x7_1 < (l0.length : Int) then (if (wrap64 ((wrap64 ((wrap64 (x6_1 + 1)) + ((((rd_T33 l0 x7_1).f0) % 4294967296) % 3000))) + ((((rd_T33 l0 x7_1).f1) % 4294967296) % 600))) > 1114111 then (some x5_1) else (if (IntKind.u64.wrap (a1)) = 0 then (none) else (if x5_1.length < 8796093022208 then (stanzalaw02_Right.l0 kj2 l0 a1 (x5_1 ++ [(⟨wrap32 (wrap64 ((wrap64 (x6_1 + 1)) + ((((rd_T33 l0 x7_1).f0) % 4294967296) % 3000))), wrap32 (wrap64 ((wrap64 ((wrap64 (x6_1 + 1)) + ((((rd_T33 l0 x7_1).f0) % 4294967296) % 3000))) + ((((rd_T33 l0 x7_1).f1) % 4294967296) % 600))), wrap64 (Int.tmod (IntKind.u64.wrap ((rd_T33 l0 x7_1).f2)) (IntKind.u64.wrap (a1)))⟩ : S33)]) (wrap64 ((wrap64 ((wrap64 (x6_1 + 1)) + ((((rd_T33 l0 x7_1).f0) % 4294967296) % 3000))) + ((((rd_T33 l0 x7_1).f1) % 4294967296) % 600))) (wrap64 (x7_1 + 1))) else (none)))) else (none)) else (none)) = some r := by rw [if_pos rfl] at H; exact H
   clear H; have H := H1; clear H1; by_cases c6 : 0 ≤ x7_1
   rotate_left
   ·rw [if_neg c6] at H
    exact absurd H (by simp)
   rw [if_pos c6] at H; have c6b0 : decide (0 ≤ x7_1) = true := decide_eq_true c6
   clear c6; by_cases c7 : x7_1 < (l0.length : Int)
   rotate_left
   ·rw [if_neg c7] at H
    exact absurd H (by simp)
   rw [if_pos c7] at H; have c7b0 : decide (x7_1 < (l0.length : Int)) = true := decide_eq_true c7
   clear c7; by_cases c8 : (wrap64 ((wrap64 ((wrap64 (x6_1 + 1)) + ((((rd_T33 l0 x7_1).f0) % 4294967296) % 3000))) + ((((rd_T33 l0 x7_1).f1) % 4294967296) % 600))) > 1114111
   ·rw [if_pos c8] at H
    have c8b0 : decide (1114111 < (wrap64 ((wrap64 ((wrap64 (x6_1 + 1)) + ((((rd_T33 l0 x7_1).f0) % 4294967296) % 3000))) + ((((rd_T33 l0 x7_1).f1) % 4294967296) % 600)))) = true := decide_eq_true c8
    clear c8; obtain rfl := Option.some.inj H
    have p120 : 0 ≤ (x7_1 : Int) := aD
    have q120 : x7_1 < (l0.length : Int) := aD
    obtain ⟨ad120, e120, hx120_0, hx120_1, hx120_2⟩ := at_T33 HR0.out x7_1 p120 q120; cases e120
    replace hx120_0 := (HB.out.cell (World.block_lt_of_cell? w _ hx120_0)).trans hx120_0; replace hx120_1 := (HB.out.cell (World.block_lt_of_cell? w _ hx120_1)).trans hx120_1; replace hx120_2 := (HB.out.cell (World.block_lt_of_cell? w _ hx120_2)).trans hx120_2; replace p120 := eq_true p120; replace q120 := eq_true q120; have p121 : 0 ≤ (x7_1 : Int) := aD
    have q121 : x7_1 < (l0.length : Int) := aD
    obtain ⟨ad121, e121, hx121_0, hx121_1, hx121_2⟩ := at_T33 HR0.out x7_1 p121 q121; obtain rfl : ad120 = ad121 := (by injection e121)
    replace hx121_0 := (HB.out.cell (World.block_lt_of_cell? w _ hx121_0)).trans hx121_0; replace hx121_1 := (HB.out.cell (World.block_lt_of_cell? w _ hx121_1)).trans hx121_1; replace hx121_2 := (HB.out.cell (World.block_lt_of_cell? w _ hx121_2)).trans hx121_2; replace p121 := eq_true p121; replace q121 := eq_true q121; go_wp2
    go_ret
    exact ⟨_, aX, aR HO_5, aL HB⟩
   rw [if_neg c8] at H; have c8b0 : decide (1114111 < (wrap64 ((wrap64 ((wrap64 (x6_1 + 1)) + ((((rd_T33 l0 x7_1).f0) % 4294967296) % 3000))) + ((((rd_T33 l0 x7_1).f1) % 4294967296) % 600)))) = false := decide_eq_false c8
   clear c8; by_cases c9 : (IntKind.u64.wrap (a1)) = 0
   ·rw [if_pos c9] at H
    exact absurd H (by simp)
   rw [if_neg c9] at H; have c9b0 : ((IntKind.u64.wrap (a1)) == 0) = false := beq_eq_false_iff_ne.mpr c9
   have c9b1 : ((IntKind.u64.wrap (a1)) != 0) = true := bne_iff_ne.mpr c9
   by_cases c10 : x5_1.length < 8796093022208
   rotate_left
   ·rw [if_neg c10] at H
    exact absurd H (by simp)
   rw [if_pos c10] at H; have LMc10 := zA.mk c10; clear c10; obtain ⟨y123, hy123⟩ : ∃ y_ : List (S33), y_ = (x5_1 ++ [(⟨wrap32 (wrap64 ((wrap64 (x6_1 + 1)) + ((((rd_T33 l0 x7_1).f0) % 4294967296) % 3000))), wrap32 (wrap64 ((wrap64 ((wrap64 (x6_1 + 1)) + ((((rd_T33 l0 x7_1).f0) % 4294967296) % 3000))) + ((((rd_T33 l0 x7_1).f1) % 4294967296) % 600))), wrap64 (Int.tmod (IntKind.u64.wrap ((rd_T33 l0 x7_1).f2)) (IntKind.u64.wrap (a1)))⟩ : S33)]) := ⟨_, rfl⟩; replace H : (stanzalaw02_Right.l0 kj2 l0 a1 y123 (wrap64 ((wrap64 ((wrap64 (x6_1 + 1)) + ((((rd_T33 l0 x7_1).f0) % 4294967296) % 3000))) + ((((rd_T33 l0 x7_1).f1) % 4294967296) % 600))) (wrap64 (x7_1 + 1))) = some r := by first | (rw [hy123]; with_reducible exact H) | (have H2_ := (Option.bind_some _ _).symm.trans H; rw [hy123]; with_reducible exact H2_) | (have H2_ := (Option.bind_some _ _).symm.trans H; with_reducible exact H2_) | with_reducible exact H | (rw [hy123]; exact H) | exact H
   have Ny123 := zA.mk hy123; clear hy123; have H' := zA.mk H
   clear H; have p120 : 0 ≤ (x7_1 : Int) := aD
   have q120 : x7_1 < (l0.length : Int) := aD
   obtain ⟨ad120, e120, hx120_0, hx120_1, hx120_2⟩ := at_T33 HR0.out x7_1 p120 q120; cases e120
   replace hx120_0 := (HB.out.cell (World.block_lt_of_cell? w _ hx120_0)).trans hx120_0; replace hx120_1 := (HB.out.cell (World.block_lt_of_cell? w _ hx120_1)).trans hx120_1; replace hx120_2 := (HB.out.cell (World.block_lt_of_cell? w _ hx120_2)).trans hx120_2; replace p120 := eq_true p120; replace q120 := eq_true q120; have p121 : 0 ≤ (x7_1 : Int) := aD
   have q121 : x7_1 < (l0.length : Int) := aD
   obtain ⟨ad121, e121, hx121_0, hx121_1, hx121_2⟩ := at_T33 HR0.out x7_1 p121 q121; obtain rfl : ad120 = ad121 := (by injection e121)
   replace hx121_0 := (HB.out.cell (World.block_lt_of_cell? w _ hx121_0)).trans hx121_0; replace hx121_1 := (HB.out.cell (World.block_lt_of_cell? w _ hx121_1)).trans hx121_1; replace hx121_2 := (HB.out.cell (World.block_lt_of_cell? w _ hx121_2)).trans hx121_2; replace p121 := eq_true p121; replace q121 := eq_true q121; have p122 : 0 ≤ (x7_1 : Int) := aD
   have q122 : x7_1 < (l0.length : Int) := aD
   obtain ⟨ad122, e122, hx122_0, hx122_1, hx122_2⟩ := at_T33 HR0.out x7_1 p122 q122; obtain rfl : ad120 = ad122 := (by injection e122)
   replace hx122_0 := (HB.out.cell (World.block_lt_of_cell? w _ hx122_0)).trans hx122_0; replace hx122_1 := (HB.out.cell (World.block_lt_of_cell? w _ hx122_1)).trans hx122_1; replace hx122_2 := (HB.out.cell (World.block_lt_of_cell? w _ hx122_2)).trans hx122_2; replace p122 := eq_true p122; replace q122 := eq_true q122; go_wp2_with (first | ((with_reducible refine gate_builtin (b := .append) (xs := #[.tmp 43, .tmp 59]) rfl ?_); at_builtin; refine Kd.R_append k33 (w0 := w) w.heap.size rfl (.tmp 43) (.tmp 59) 22 33 (.agg #[(.int .i32 0), (.int .i32 0), (.int .i64 0)]) 16 rfl Try.underlying22 info33 rfl (by decide) (by omega) u5 x5_1 (⟨wrap32 (wrap64 ((wrap64 (x6_1 + 1)) + ((((rd_T33 l0 x7_1).f0) % 4294967296) % 3000))), wrap32 (wrap64 ((wrap64 ((wrap64 (x6_1 + 1)) + ((((rd_T33 l0 x7_1).f0) % 4294967296) % 3000))) + ((((rd_T33 l0 x7_1).f1) % 4294967296) % 600))), wrap64 (Int.tmod (IntKind.u64.wrap ((rd_T33 l0 x7_1).f2)) (IntKind.u64.wrap (a1)))⟩ : S33) [.int .i32 (wrap32 (wrap64 ((wrap64 (x6_1 + 1)) + ((((rd_T33 l0 x7_1).f0) % 4294967296) % 3000)))), .int .i32 (wrap32 (wrap64 ((wrap64 ((wrap64 (x6_1 + 1)) + ((((rd_T33 l0 x7_1).f0) % 4294967296) % 3000))) + ((((rd_T33 l0 x7_1).f1) % 4294967296) % 600)))), .int .i64 (wrap64 (Int.tmod (IntKind.u64.wrap ((rd_T33 l0 x7_1).f2)) (IntKind.u64.wrap (a1))))] (fun _ => True) (fun _ => False) rfl rfl ?aP (fun _ hk => hk.elim) ?aF ?aO ?aB ?aS ?aL ?_; (case aP => exact k33_mkM _ _ _ (⟨wrap32 (wrap64 ((wrap64 (x6_1 + 1)) + ((((rd_T33 l0 x7_1).f0) % 4294967296) % 3000))), wrap32 (wrap64 ((wrap64 ((wrap64 (x6_1 + 1)) + ((((rd_T33 l0 x7_1).f0) % 4294967296) % 3000))) + ((((rd_T33 l0 x7_1).f1) % 4294967296) % 600))), wrap64 (Int.tmod (IntKind.u64.wrap ((rd_T33 l0 x7_1).f2)) (IntKind.u64.wrap (a1)))⟩ : S33)); (case aB => exact (aL HB)); (case aF => exact (fun _ _ => trivial)); (case aO => exact (aR HO_5)); (case aS => exact (below_size (aL HB))); (case aL => have := LMc10.out; omega); intro v124 w11 ho hb hg hat; rw [← Ny123.out] at ho; replace HB := zA.mk (hb); have HO125 := zA.mk (ho); clear HO_5; clear ho hb hg hat))
   go_roundg kj2
   case measure => have := HK1.out; have := HJ2.out; omega
   case rel => exact ⟨(y123), (wrap64 ((wrap64 ((wrap64 (x6_1 + 1)) + ((((rd_T33 l0 x7_1).f0) % 4294967296) % 3000))) + ((((rd_T33 l0 x7_1).f1) % 4294967296) % 600))), (wrap64 (x7_1 + 1)), aZ, aZ, H', ⟨by have := HK1.out; have := HJ2.out; omega⟩, ⟨aR HO125⟩, ⟨aL HB⟩⟩
def stanzalaw02_PropSplits.f (k : Nat) (l0 : List (S33)) (a1 : Int) (a2 : Int) (a3 : Int) : Option (Bool) := (stanzalaw02_Awake.f).bind fun t228 => (if t228 = true then ((stanzalaw02_Right.f k l0 50).bind fun t229 => (if (t229.length : Int) = 0 then (some true) else (if (IntKind.u64.wrap ((t229.length : Int))) = 0 then (none) else (if 0 ≤ (wrap64 (Int.tmod (IntKind.u64.wrap (a1)) (IntKind.u64.wrap ((t229.length : Int))))) then (if (wrap64 (Int.tmod (IntKind.u64.wrap (a1)) (IntKind.u64.wrap ((t229.length : Int))))) < (t229.length : Int) then (if ((rd_T33 t229 (wrap64 (Int.tmod (IntKind.u64.wrap (a1)) (IntKind.u64.wrap ((t229.length : Int)))))).f0) = ((rd_T33 t229 (wrap64 (Int.tmod (IntKind.u64.wrap (a1)) (IntKind.u64.wrap ((t229.length : Int)))))).f1) then (some true) else (if (IntKind.u64.wrap (wrap32 (((rd_T33 t229 (wrap64 (Int.tmod (IntKind.u64.wrap (a1)) (IntKind.u64.wrap ((t229.length : Int)))))).f1) - ((rd_T33 t229 (wrap64 (Int.tmod (IntKind.u64.wrap (a1)) (IntKind.u64.wrap ((t229.length : Int)))))).f0)))) = 0 then (none) else ((some (([] : List (S33)) : List (S33))).bind fun y234 => (if (wrap64 (Int.tmod (IntKind.u64.wrap (a1)) (IntKind.u64.wrap ((t229.length : Int))))) ≤ (t229.length : Int) then ((some (t229.take ((wrap64 (Int.tmod (IntKind.u64.wrap (a1)) (IntKind.u64.wrap ((t229.length : Int))))) : Int).toNat : List (S33))).bind fun y237 => (if y234.length + y237.length < 8796093022208 then ((some (y234 ++ y237 : List (S33))).bind fun y241 => ((some (([(⟨(rd_T33 t229 (wrap64 (Int.tmod (IntKind.u64.wrap (a1)) (IntKind.u64.wrap ((t229.length : Int)))))).f0, wrap32 (((rd_T33 t229 (wrap64 (Int.tmod (IntKind.u64.wrap (a1)) (IntKind.u64.wrap ((t229.length : Int)))))).f0) + (wrap32 (Int.tmod (IntKind.u64.wrap (a2)) (IntKind.u64.wrap (wrap32 (((rd_T33 t229 (wrap64 (Int.tmod (IntKind.u64.wrap (a1)) (IntKind.u64.wrap ((t229.length : Int)))))).f1) - ((rd_T33 t229 (wrap64 (Int.tmod (IntKind.u64.wrap (a1)) (IntKind.u64.wrap ((t229.length : Int)))))).f0))))))), (rd_T33 t229 (wrap64 (Int.tmod (IntKind.u64.wrap (a1)) (IntKind.u64.wrap ((t229.length : Int)))))).f2⟩ : S33), (⟨wrap32 ((wrap32 (((rd_T33 t229 (wrap64 (Int.tmod (IntKind.u64.wrap (a1)) (IntKind.u64.wrap ((t229.length : Int)))))).f0) + (wrap32 (Int.tmod (IntKind.u64.wrap (a2)) (IntKind.u64.wrap (wrap32 (((rd_T33 t229 (wrap64 (Int.tmod (IntKind.u64.wrap (a1)) (IntKind.u64.wrap ((t229.length : Int)))))).f1) - ((rd_T33 t229 (wrap64 (Int.tmod (IntKind.u64.wrap (a1)) (IntKind.u64.wrap ((t229.length : Int)))))).f0)))))))) + 1), (rd_T33 t229 (wrap64 (Int.tmod (IntKind.u64.wrap (a1)) (IntKind.u64.wrap ((t229.length : Int)))))).f1, (rd_T33 t229 (wrap64 (Int.tmod (IntKind.u64.wrap (a1)) (IntKind.u64.wrap ((t229.length : Int)))))).f2⟩ : S33)] : List (S33)) : List (S33))).bind fun y244 => (if y241.length + y244.length < 8796093022208 then ((some (y241 ++ y244 : List (S33))).bind fun y247 => (if 0 ≤ (wrap64 ((wrap64 (Int.tmod (IntKind.u64.wrap (a1)) (IntKind.u64.wrap ((t229.length : Int))))) + 1)) then (if (wrap64 ((wrap64 (Int.tmod (IntKind.u64.wrap (a1)) (IntKind.u64.wrap ((t229.length : Int))))) + 1)) ≤ (t229.length : Int) then ((some (t229.drop ((wrap64 ((wrap64 (Int.tmod (IntKind.u64.wrap (a1)) (IntKind.u64.wrap ((t229.length : Int))))) + 1)) : Int).toNat : List (S33))).bind fun y250 => (if y247.length + y250.length < 8796093022208 then ((some (y247 ++ y250 : List (S33))).bind fun y254 => (if prop_Make.c t229 50 = true then ((prop_MakeY.f t229 50).bind fun t259 => (if prop_Make.c y254 50 = true then ((prop_MakeY.f y254 50).bind fun t262 => ((prop_Table_Of.f t259 a3).bind fun t263 => ((prop_Table_Of.f t262 a3).bind fun t264 => (if t263 = t264 then ((prop_Table_Of.f t259 (wrap32 (((rd_T33 t229 (wrap64 (Int.tmod (IntKind.u64.wrap (a1)) (IntKind.u64.wrap ((t229.length : Int)))))).f0) + (wrap32 (Int.tmod (IntKind.u64.wrap (a2)) (IntKind.u64.wrap (wrap32 (((rd_T33 t229 (wrap64 (Int.tmod (IntKind.u64.wrap (a1)) (IntKind.u64.wrap ((t229.length : Int)))))).f1) - ((rd_T33 t229 (wrap64 (Int.tmod (IntKind.u64.wrap (a1)) (IntKind.u64.wrap ((t229.length : Int)))))).f0))))))))).bind fun t265 => ((prop_Table_Of.f t262 (wrap32 (((rd_T33 t229 (wrap64 (Int.tmod (IntKind.u64.wrap (a1)) (IntKind.u64.wrap ((t229.length : Int)))))).f0) + (wrap32 (Int.tmod (IntKind.u64.wrap (a2)) (IntKind.u64.wrap (wrap32 (((rd_T33 t229 (wrap64 (Int.tmod (IntKind.u64.wrap (a1)) (IntKind.u64.wrap ((t229.length : Int)))))).f1) - ((rd_T33 t229 (wrap64 (Int.tmod (IntKind.u64.wrap (a1)) (IntKind.u64.wrap ((t229.length : Int)))))).f0))))))))).bind fun t266 => (if t265 = t266 then ((prop_Table_Of.f t262 (wrap32 ((wrap32 (((rd_T33 t229 (wrap64 (Int.tmod (IntKind.u64.wrap (a1)) (IntKind.u64.wrap ((t229.length : Int)))))).f0) + (wrap32 (Int.tmod (IntKind.u64.wrap (a2)) (IntKind.u64.wrap (wrap32 (((rd_T33 t229 (wrap64 (Int.tmod (IntKind.u64.wrap (a1)) (IntKind.u64.wrap ((t229.length : Int)))))).f1) - ((rd_T33 t229 (wrap64 (Int.tmod (IntKind.u64.wrap (a1)) (IntKind.u64.wrap ((t229.length : Int)))))).f0)))))))) + 1))).bind fun t267 => (if t267 = ((rd_T33 t229 (wrap64 (Int.tmod (IntKind.u64.wrap (a1)) (IntKind.u64.wrap ((t229.length : Int)))))).f2) then ((prop_Table_Blocks.f t259).bind fun t268 => ((prop_Table_Blocks.f t262).bind fun t269 => (some (t268 == t269)))) else (some false))) else (some false)))) else (some false))))) else ((prop_MakeN.f y254 50).bind fun _ => (some false)))) else ((prop_MakeN.f t229 50).bind fun _ => (if prop_Make.c y254 50 = true then ((prop_MakeY.f y254 50).bind fun t272 => (some false)) else ((prop_MakeN.f y254 50).bind fun _ => (some false)))))) else (none))) else (none)) else (none))) else (none)))) else (none))) else (none))))) else (none)) else (none))))) else (some false))
theorem stanzalaw02_PropSplits.mono : ∀ a0 a1 a2 a3 k, LeO (stanzalaw02_PropSplits.f k a0 a1 a2 a3) (stanzalaw02_PropSplits.f (k + 1) a0 a1 a2 a3) := by
 intro a0 a1 a2 a3 k
 unfold stanzalaw02_PropSplits.f
 repeat' (with_reducible first | exact stanzalaw02_Right.mono _ _ _ | exact LeO.refl _ | exact LeO.none _ | refine LeO.ite ?_ ?_ | refine LeO.bind ?_ (fun _ => ?_))
def stanzalaw02_PropSplits.T10 : Bool × List (List Nat × List Nat) := (true, [([], []), ([0], [0]), ([], []), ([2], [2]), ([], []), ([4], [4]), ([], []), ([6], [6]), ([5, 7], [5, 7]), ([8], [8]), ([3, 9], [3, 9]), ([10], [10]), ([1, 11], [1, 11]), ([12, 0, 1, 2, 3, 4, 5, 6, 7, 8, 9, 10, 11, 12], [12])])
def stanzalaw02_PropSplits.B10 : List Nat := [0, 1, 0, 4, 0, 16, 0, 64, 240, 496, 1020, 2044, 4095, 8191]
theorem stanzalaw02_PropSplits.tab10 : rtab .any (opsOf Try.f6 10) = stanzalaw02_PropSplits.T10 := by kernel_rfl
theorem stanzalaw02_PropSplits.bits10 : waitsOk stanzalaw02_PropSplits.T10.2 stanzalaw02_PropSplits.B10 = true := by kernel_rfl
def stanzalaw02_PropSplits.T11 : Bool × List (List Nat × List Nat) := (true, [([], []), ([], []), ([], []), ([1, 2], [1, 2]), ([0, 3], [0, 3]), ([], []), ([5], [5]), ([], []), ([], []), ([8], [8]), ([6, 7, 9], [6, 7, 9]), ([], []), ([11], [11]), ([], []), ([13], [13]), ([], []), ([15], [15]), ([12, 14, 16], [12, 14, 16]), ([10, 17], [10, 17]), ([4, 18, 4], [4, 18]), ([19, 19, 0, 1, 2, 3, 4, 5, 6, 7, 8, 9, 10, 11, 12, 13, 14, 15, 16, 17, 18, 19], [19])])
def stanzalaw02_PropSplits.B11 : List Nat := [0, 0, 0, 6, 15, 0, 32, 0, 0, 256, 992, 0, 2048, 0, 8192, 0, 32768, 129024, 262112, 524287, 1048575]
theorem stanzalaw02_PropSplits.tab11 : rtab .any (opsOf Try.f6 11) = stanzalaw02_PropSplits.T11 := by kernel_rfl
theorem stanzalaw02_PropSplits.bits11 : waitsOk stanzalaw02_PropSplits.T11.2 stanzalaw02_PropSplits.B11 = true := by kernel_rfl
def stanzalaw02_PropSplits.T15 : Bool × List (List Nat × List Nat) := (true, [([], []), ([0], [0]), ([1], [1]), ([2], [2]), ([3, 2], [2, 3]), ([2, 4], [2, 4]), ([5, 2], [5]), ([6], [6]), ([6], [6]), ([7, 8, 6, 6], [6, 7, 8]), ([6], [6]), ([6], [6]), ([10, 11, 9, 6], [6, 10, 11]), ([9, 12, 6], [6, 9, 12]), ([6, 13], [6, 13]), ([14, 12], [14]), ([15], [15]), ([15], [15]), ([16, 17, 15, 15], [15, 16, 17]), ([15], [15]), ([15], [15]), ([19, 20, 18, 15], [15, 19, 20]), ([18, 21, 15], [15, 18, 21]), ([15, 22], [15, 22]), ([23, 21], [23]), ([24], [24]), ([24], [24]), ([26, 24], [24, 26]), ([25, 27, 24, 24], [24, 25, 27]), ([24], [24]), ([29, 24], [24, 29]), ([28, 30, 24], [24, 28, 30]), ([24, 31], [24, 31]), ([32, 28], [32]), ([33], [33]), ([34, 33, 33], [33, 34]), ([33], [33]), ([36, 35, 33], [33, 36]), ([35, 37, 33], [33, 35, 37]), ([33, 38], [33, 38]), ([39, 37, 0, 1, 2, 3, 4, 5, 6, 7, 8, 9, 10, 11, 12, 13, 14, 15, 16, 17, 18, 19, 20, 21, 22, 23, 24, 25, 26, 27, 28, 29, 30, 31, 32, 33, 34, 35, 36, 37, 38, 39], [39])])
def stanzalaw02_PropSplits.B15 : List Nat := [0, 1, 3, 7, 15, 31, 63, 127, 127, 511, 127, 127, 4095, 8191, 16383, 32767, 65535, 65535, 262143, 65535, 65535, 2097151, 4194303, 8388607, 16777215, 33554431, 33554431, 100663295, 268435455, 33554431, 570425343, 2147483647, 4294967295, 8589934591, 17179869183, 34359738367, 17179869183, 137438953471, 274877906943, 549755813887, 1099511627775]
theorem stanzalaw02_PropSplits.tab15 : rtab .any (opsOf Try.f6 15) = stanzalaw02_PropSplits.T15 := by kernel_rfl
theorem stanzalaw02_PropSplits.bits15 : waitsOk stanzalaw02_PropSplits.T15.2 stanzalaw02_PropSplits.B15 = true := by kernel_rfl
set_option maxHeartbeats 8000000 in
set_option maxRecDepth 100000 in
theorem stanzalaw02_PropSplits.calls (k : Nat) (A0 : Option Addr) (c0 : Nat) (l0 : List (S33)) (a1 : Int) (a2 : Int) (a3 : Int) (r : Bool) (w : World) (hr0 : Kd.C k33 w A0 l0.length l0) (hc0 : l0.length ≤ c0) (h : stanzalaw02_PropSplits.f k l0 a1 a2 a3 = some r) (hrt_ : zA (r = true)) :
  Calls Try.prog 6 #[.slice A0 l0.length c0, .int .i64 a1, .int .i64 a2, .int .i32 a3] w fun e w' => e = .returned (.bool r) ∧ Below w.heap.size w w' := by
 have hu33 := Try.underlying33; have HR0 := zA.mk hr0; have HC0 := zA.mk hc0; clear hr0 hc0; have HB := zA.mk (Below.refl w.heap.size w); have H : ((stanzalaw02_Awake.f).bind fun t228 => (if t228 = true then ((stanzalaw02_Right.f k l0 50).bind fun t229 => (if (t229.length : Int) = 0 then (some true) else (if (IntKind.u64.wrap ((t229.length : Int))) = 0 then (none) else (if 0 ≤ (wrap64 (Int.tmod (IntKind.u64.wrap (a1)) (IntKind.u64.wrap ((t229.length : Int))))) then (if (wrap64 (Int.tmod (IntKind.u64.wrap (a1)) (IntKind.u64.wrap ((t229.length : Int))))) < (t229.length : Int) then (if ((rd_T33 t229 (wrap64 (Int.tmod (IntKind.u64.wrap (a1)) (IntKind.u64.wrap ((t229.length : Int)))))).f0) = ((rd_T33 t229 (wrap64 (Int.tmod (IntKind.u64.wrap (a1)) (IntKind.u64.wrap ((t229.length : Int)))))).f1) then (some true) else (if (IntKind.u64.wrap (wrap32 (((rd_T33 t229 (wrap64 (Int.tmod (IntKind.u64.wrap (a1)) (IntKind.u64.wrap ((t229.length : Int)))))).f1) - ((rd_T33 t229 (wrap64 (Int.tmod (IntKind.u64.wrap (a1)) (IntKind.u64.wrap ((t229.length : Int)))))).f0)))) = 0 then (none) else ((some (([] : List (S33)) : List (S33))).bind fun y234 => (if (wrap64 (Int.tmod (IntKind.u64.wrap (a1)) (IntKind.u64.wrap ((t229.length : Int))))) ≤ (t229.length : Int) then ((some (t229.take ((wrap64 (Int.tmod (IntKind.u64.wrap (a1)) (IntKind.u64.wrap ((t229.length : Int))))) : Int).toNat : List (S33))).bind fun y237 => (if y234.length + y237.length < 8796093022208 then ((some (y234 ++ y237 : List (S33))).bind fun y241 => ((some (([(⟨(rd_T33 t229 (wrap64 (Int.tmod (IntKind.u64.wrap (a1)) (IntKind.u64.wrap ((t229.length : Int)))))).f0, wrap32 (((rd_T33 t229 (wrap64 (Int.tmod (IntKind.u64.wrap (a1)) (IntKind.u64.wrap ((t229.length : Int)))))).f0) + (wrap32 (Int.tmod (IntKind.u64.wrap (a2)) (IntKind.u64.wrap (wrap32 (((rd_T33 t229 (wrap64 (Int.tmod (IntKind.u64.wrap (a1)) (IntKind.u64.wrap ((t229.length : Int)))))).f1) - ((rd_T33 t229 (wrap64 (Int.tmod (IntKind.u64.wrap (a1)) (IntKind.u64.wrap ((t229.length : Int)))))).f0))))))), (rd_T33 t229 (wrap64 (Int.tmod (IntKind.u64.wrap (a1)) (IntKind.u64.wrap ((t229.length : Int)))))).f2⟩ : S33), (⟨wrap32 ((wrap32 (((rd_T33 t229 (wrap64 (Int.tmod (IntKind.u64.wrap (a1)) (IntKind.u64.wrap ((t229.length : Int)))))).f0) + (wrap32 (Int.tmod (IntKind.u64.wrap (a2)) (IntKind.u64.wrap (wrap32 (((rd_T33 t229 (wrap64 (Int.tmod (IntKind.u64.wrap (a1)) (IntKind.u64.wrap ((t229.length : Int)))))).f1) - ((rd_T33 t229 (wrap64 (Int.tmod (IntKind.u64.wrap (a1)) (IntKind.u64.wrap ((t229.length : Int)))))).f0)))))))) + 1), (rd_T33 t229 (wrap64 (Int.tmod (IntKind.u64.wrap (a1)) (IntKind.u64.wrap ((t229.length : Int)))))).f1, (rd_T33 t229 (wrap64 (Int.tmod (IntKind.u64.wrap (a1)) (IntKind.u64.wrap ((t229.length : Int)))))).f2⟩ : S33)] : List (S33)) : List (S33))).bind fun y244 => (if y241.length + y244.length < 8796093022208 then ((some (y241 ++ y244 : List (S33))).bind fun y247 => (if 0 ≤ (wrap64 ((wrap64 (Int.tmod (IntKind.u64.wrap (a1)) (IntKind.u64.wrap ((t229.length : Int))))) + 1)) then (if (wrap64 ((wrap64 (Int.tmod (IntKind.u64.wrap (a1)) (IntKind.u64.wrap ((t229.length : Int))))) + 1)) ≤ (t229.length : Int) then ((some (t229.drop ((wrap64 ((wrap64 (Int.tmod (IntKind.u64.wrap (a1)) (IntKind.u64.wrap ((t229.length : Int))))) + 1)) : Int).toNat : List (S33))).bind fun y250 => (if y247.length + y250.length < 8796093022208 then ((some (y247 ++ y250 : List (S33))).bind fun y254 => (if prop_Make.c t229 50 = true then ((prop_MakeY.f t229 50).bind fun t259 => (if prop_Make.c y254 50 = true then ((prop_MakeY.f y254 50).bind fun t262 => ((prop_Table_Of.f t259 a3).bind fun t263 => ((prop_Table_Of.f t262 a3).bind fun t264 => (if t263 = t264 then ((prop_Table_Of.f t259 (wrap32 (((rd_T33 t229 (wrap64 (Int.tmod (IntKind.u64.wrap (a1)) (IntKind.u64.wrap ((t229.length : Int)))))).f0) + (wrap32 (Int.tmod (IntKind.u64.wrap (a2)) (IntKind.u64.wrap (wrap32 (((rd_T33 t229 (wrap64 (Int.tmod (IntKind.u64.wrap (a1)) (IntKind.u64.wrap ((t229.length : Int)))))).f1) - ((rd_T33 t229 (wrap64 (Int.tmod (IntKind.u64.wrap (a1)) (IntKind.u64.wrap ((t229.length : Int)))))).f0))))))))).bind fun t265 => ((prop_Table_Of.f t262 (wrap32 (((rd_T33 t229 (wrap64 (Int.tmod (IntKind.u64.wrap (a1)) (IntKind.u64.wrap ((t229.length : Int)))))).f0) + (wrap32 (Int.tmod (IntKind.u64.wrap (a2)) (IntKind.u64.wrap (wrap32 (((rd_T33 t229 (wrap64 (Int.tmod (IntKind.u64.wrap (a1)) (IntKind.u64.wrap ((t229.length : Int)))))).f1) - ((rd_T33 t229 (wrap64 (Int.tmod (IntKind.u64.wrap (a1)) (IntKind.u64.wrap ((t229.length : Int)))))).f0))))))))).bind fun t266 => (if t265 = t266 then ((prop_Table_Of.f t262 (wrap32 ((wrap32 (((rd_T33 t229 (wrap64 (Int.tmod (IntKind.u64.wrap (a1)) (IntKind.u64.wrap ((t229.length : Int)))))).f0) + (wrap32 (Int.tmod (IntKind.u64.wrap (a2)) (IntKind.u64.wrap (wrap32 (((rd_T33 t229 (wrap64 (Int.tmod (IntKind.u64.wrap (a1)) (IntKind.u64.wrap ((t229.length : Int)))))).f1) - ((rd_T33 t229 (wrap64 (Int.tmod (IntKind.u64.wrap (a1)) (IntKind.u64.wrap ((t229.length : Int)))))).f0)))))))) + 1))).bind fun t267 => (if t267 = ((rd_T33 t229 (wrap64 (Int.tmod (IntKind.u64.wrap (a1)) (IntKind.u64.wrap ((t229.length : Int)))))).f2) then ((prop_Table_Blocks.f t259).bind fun t268 => ((prop_Table_Blocks.f t262).bind fun t269 => (some (t268 == t269)))) else (some false))) else (some false)))) else (some false))))) else ((prop_MakeN.f y254 50).bind fun _ => (some false)))) else ((prop_MakeN.f t229 50).bind fun _ => (if prop_Make.c y254 50 = true then ((prop_MakeY.f y254 50).bind fun t272 => (some false)) else ((prop_MakeN.f y254 50).bind fun _ => (some false)))))) else (none))) else (none)) else (none))) else (none)))) else (none))) else (none))))) else (none)) else (none))))) else (some false))) = some r := h
 clear h; replace H := Option.bind_eq_some_iff.mp H; obtain ⟨t228, A50, H⟩ := H; replace H : (if t228 = true then ((stanzalaw02_Right.f k l0 50).bind fun t229 => (if (t229.length : Int) = 0 then (some true) else (if (IntKind.u64.wrap ((t229.length : Int))) = 0 then (none) else (if 0 ≤ (wrap64 (Int.tmod (IntKind.u64.wrap (a1)) (IntKind.u64.wrap ((t229.length : Int))))) then (if (wrap64 (Int.tmod (IntKind.u64.wrap (a1)) (IntKind.u64.wrap ((t229.length : Int))))) < (t229.length : Int) then (if ((rd_T33 t229 (wrap64 (Int.tmod (IntKind.u64.wrap (a1)) (IntKind.u64.wrap ((t229.length : Int)))))).f0) = ((rd_T33 t229 (wrap64 (Int.tmod (IntKind.u64.wrap (a1)) (IntKind.u64.wrap ((t229.length : Int)))))).f1) then (some true) else (if (IntKind.u64.wrap (wrap32 (((rd_T33 t229 (wrap64 (Int.tmod (IntKind.u64.wrap (a1)) (IntKind.u64.wrap ((t229.length : Int)))))).f1) - ((rd_T33 t229 (wrap64 (Int.tmod (IntKind.u64.wrap (a1)) (IntKind.u64.wrap ((t229.length : Int)))))).f0)))) = 0 then (none) else ((some (([] : List (S33)) : List (S33))).bind fun y234 => (if (wrap64 (Int.tmod (IntKind.u64.wrap (a1)) (IntKind.u64.wrap ((t229.length : Int))))) ≤ (t229.length : Int) then ((some (t229.take ((wrap64 (Int.tmod (IntKind.u64.wrap (a1)) (IntKind.u64.wrap ((t229.length : Int))))) : Int).toNat : List (S33))).bind fun y237 => (if y234.length + y237.length < 8796093022208 then ((some (y234 ++ y237 : List (S33))).bind fun y241 => ((some (([(⟨(rd_T33 t229 (wrap64 (Int.tmod (IntKind.u64.wrap (a1)) (IntKind.u64.wrap ((t229.length : Int)))))).f0, wrap32 (((rd_T33 t229 (wrap64 (Int.tmod (IntKind.u64.wrap (a1)) (IntKind.u64.wrap ((t229.length : Int)))))).f0) + (wrap32 (Int.tmod (IntKind.u64.wrap (a2)) (IntKind.u64.wrap (wrap32 (((rd_T33 t229 (wrap64 (Int.tmod (IntKind.u64.wrap (a1)) (IntKind.u64.wrap ((t229.length : Int)))))).f1) - ((rd_T33 t229 (wrap64 (Int.tmod (IntKind.u64.wrap (a1)) (IntKind.u64.wrap ((t229.length : Int)))))).f0))))))), (rd_T33 t229 (wrap64 (Int.tmod (IntKind.u64.wrap (a1)) (IntKind.u64.wrap ((t229.length : Int)))))).f2⟩ : S33), (⟨wrap32 ((wrap32 (((rd_T33 t229 (wrap64 (Int.tmod (IntKind.u64.wrap (a1)) (IntKind.u64.wrap ((t229.length : Int)))))).f0) + (wrap32 (Int.tmod (IntKind.u64.wrap (a2)) (IntKind.u64.wrap (wrap32 (((rd_T33 t229 (wrap64 (Int.tmod (IntKind.u64.wrap (a1)) (IntKind.u64.wrap ((t229.length : Int)))))).f1) - ((rd_T33 t229 (wrap64 (Int.tmod (IntKind.u64.wrap (a1)) (IntKind.u64.wrap ((t229.length : Int)))))).f0)))))))) + 1), (rd_T33 t229 (wrap64 (Int.tmod (IntKind.u64.wrap (a1)) (IntKind.u64.wrap ((t229.length : Int)))))).f1, (rd_T33 t229 (wrap64 (Int.tmod (IntKind.u64.wrap (a1)) (IntKind.u64.wrap ((t229.length : Int)))))).f2⟩ : S33)] : List (S33)) : List (S33))).bind fun y244 => (if y241.length + y244.length < 8796093022208 then ((some (y241 ++ y244 : List (S33))).bind fun y247 => (if 0 ≤ (wrap64 ((wrap64 (Int.tmod (IntKind.u64.wrap (a1)) (IntKind.u64.wrap ((t229.length : Int))))) + 1)) then (if (wrap64 ((wrap64 (Int.tmod (IntKind.u64.wrap (a1)) (IntKind.u64.wrap ((t229.length : Int))))) + 1)) ≤ (t229.length : Int) then ((some (t229.drop ((wrap64 ((wrap64 (Int.tmod (IntKind.u64.wrap (a1)) (IntKind.u64.wrap ((t229.length : Int))))) + 1)) : Int).toNat : List (S33))).bind fun y250 => (if y247.length + y250.length < 8796093022208 then ((some (y247 ++ y250 : List (S33))).bind fun y254 => (if prop_Make.c t229 50 = true then ((prop_MakeY.f t229 50).bind fun t259 => (if prop_Make.c y254 50 = true then ((prop_MakeY.f y254 50).bind fun t262 => ((prop_Table_Of.f t259 a3).bind fun t263 => ((prop_Table_Of.f t262 a3).bind fun t264 => (if t263 = t264 then ((prop_Table_Of.f t259 (wrap32 (((rd_T33 t229 (wrap64 (Int.tmod (IntKind.u64.wrap (a1)) (IntKind.u64.wrap ((t229.length : Int)))))).f0) + (wrap32 (Int.tmod (IntKind.u64.wrap (a2)) (IntKind.u64.wrap (wrap32 (((rd_T33 t229 (wrap64 (Int.tmod (IntKind.u64.wrap (a1)) (IntKind.u64.wrap ((t229.length : Int)))))).f1) - ((rd_T33 t229 (wrap64 (Int.tmod (IntKind.u64.wrap (a1)) (IntKind.u64.wrap ((t229.length : Int)))))).f0))))))))).bind fun t265 => ((prop_Table_Of.f t262 (wrap32 (((rd_T33 t229 (wrap64 (Int.tmod (IntKind.u64.wrap (a1)) (IntKind.u64.wrap ((t229.length : Int)))))).f0) + (wrap32 (Int.tmod (IntKind.u64.wrap (a2)) (IntKind.u64.wrap (wrap32 (((rd_T33 t229 (wrap64 (Int.tmod (IntKind.u64.wrap (a1)) (IntKind.u64.wrap ((t229.length : Int)))))).f1) - ((rd_T33 t229 (wrap64 (Int.tmod (IntKind.u64.wrap (a1)) (IntKind.u64.wrap ((t229.length : Int)))))).f0))))))))).bind fun t266 => (if t265 = t266 then ((prop_Table_Of.f t262 (wrap32 ((wrap32 (((rd_T33 t229 (wrap64 (Int.tmod (IntKind.u64.wrap (a1)) (IntKind.u64.wrap ((t229.length : Int)))))).f0) + (wrap32 (Int.tmod (IntKind.u64.wrap (a2)) (IntKind.u64.wrap (wrap32 (((rd_T33 t229 (wrap64 (Int.tmod (IntKind.u64.wrap (a1)) (IntKind.u64.wrap ((t229.length : Int)))))).f1) - ((rd_T33 t229 (wrap64 (Int.tmod (IntKind.u64.wrap (a1)) (IntKind.u64.wrap ((t229.length : Int)))))).f0)))))))) + 1))).bind fun t267 => (if t267 = ((rd_T33 t229 (wrap64 (Int.tmod (IntKind.u64.wrap (a1)) (IntKind.u64.wrap ((t229.length : Int)))))).f2) then ((prop_Table_Blocks.f t259).bind fun t268 => ((prop_Table_Blocks.f t262).bind fun t269 => (some (t268 == t269)))) else (some false))) else (some false)))) else (some false))))) else ((prop_MakeN.f y254 50).bind fun _ => (some false)))) else ((prop_MakeN.f t229 50).bind fun _ => (if prop_Make.c y254 50 = true then ((prop_MakeY.f y254 50).bind fun t272 => (some false)) else ((prop_MakeN.f y254 50).bind fun _ => (some false)))))) else (none))) else (none)) else (none))) else (none)))) else (none))) else (none))))) else (none)) else (none))))) else (some false)) = some r := H
 have A5 := zA.mk A50; clear A50; by_cases c6 : t228 = true
 rotate_left
 ·replace c6 := Bool.eq_false_iff.mpr c6
  subst c6; have H1 : (some false) = some r := by rw [if_neg (show ¬ (false = true) by decide)] at H; exact H
  clear H; have H := H1; clear H1; exact absurd ((Option.some.inj H).trans hrt_.out) (by decide)
 subst c6; have H1 : ((stanzalaw02_Right.f k l0 50).bind fun t229 => (if (t229.length : Int) = 0 then (some true) else (if (IntKind.u64.wrap ((t229.length : Int))) = 0 then (none) else (if 0 ≤ (wrap64 (Int.tmod (IntKind.u64.wrap (a1)) (IntKind.u64.wrap ((t229.length : Int))))) then (if (wrap64 (Int.tmod (IntKind.u64.wrap (a1)) (IntKind.u64.wrap ((t229.length : Int))))) < (t229.length : Int) then (if ((rd_T33 t229 (wrap64 (Int.tmod (IntKind.u64.wrap (a1)) (IntKind.u64.wrap ((t229.length : Int)))))).f0) = ((rd_T33 t229 (wrap64 (Int.tmod (IntKind.u64.wrap (a1)) (IntKind.u64.wrap ((t229.length : Int)))))).f1) then (some true) else (if (IntKind.u64.wrap (wrap32 (((rd_T33 t229 (wrap64 (Int.tmod (IntKind.u64.wrap (a1)) (IntKind.u64.wrap ((t229.length : Int)))))).f1) - ((rd_T33 t229 (wrap64 (Int.tmod (IntKind.u64.wrap (a1)) (IntKind.u64.wrap ((t229.length : Int)))))).f0)))) = 0 then (none) else ((some (([] : List (S33)) : List (S33))).bind fun y234 => (if (wrap64 (Int.tmod (IntKind.u64.wrap (a1)) (IntKind.u64.wrap ((t229.length : Int))))) ≤ (t229.length : Int) then ((some (t229.take ((wrap64 (Int.tmod (IntKind.u64.wrap (a1)) (IntKind.u64.wrap ((t229.length : Int))))) : Int).toNat : List (S33))).bind fun y237 => (if y234.length + y237.length < 8796093022208 then ((some (y234 ++ y237 : List (S33))).bind fun y241 => ((some (([(⟨(rd_T33 t229 (wrap64 (Int.tmod (IntKind.u64.wrap (a1)) (IntKind.u64.wrap ((t229.length : Int)))))).f0, wrap32 (((rd_T33 t229 (wrap64 (Int.tmod (IntKind.u64.wrap (a1)) (IntKind.u64.wrap ((t229.length : Int)))))).f0) + (wrap32 (Int.tmod (IntKind.u64.wrap (a2)) (IntKind.u64.wrap (wrap32 (((rd_T33 t229 (wrap64 (Int.tmod (IntKind.u64.wrap (a1)) (IntKind.u64.wrap ((t229.length : Int)))))).f1) - ((rd_T33 t229 (wrap64 (Int.tmod (IntKind.u64.wrap (a1)) (IntKind.u64.wrap ((t229.length : Int)))))).f0))))))), (rd_T33 t229 (wrap64 (Int.tmod (IntKind.u64.wrap (a1)) (IntKind.u64.wrap ((t229.length : Int)))))).f2⟩ : S33), (⟨wrap32 ((wrap32 (((rd_T33 t229 (wrap64 (Int.tmod (IntKind.u64.wrap (a1)) (IntKind.u64.wrap ((t229.length : Int)))))).f0) + (wrap32 (Int.tmod (IntKind.u64.wrap (a2)) (IntKind.u64.wrap (wrap32 (((rd_T33 t229 (wrap64 (Int.tmod (IntKind.u64.wrap (a1)) (IntKind.u64.wrap ((t229.length : Int)))))).f1) - ((rd_T33 t229 (wrap64 (Int.tmod (IntKind.u64.wrap (a1)) (IntKind.u64.wrap ((t229.length : Int)))))).f0)))))))) + 1), (rd_T33 t229 (wrap64 (Int.tmod (IntKind.u64.wrap (a1)) (IntKind.u64.wrap ((t229.length : Int)))))).f1, (rd_T33 t229 (wrap64 (Int.tmod (IntKind.u64.wrap (a1)) (IntKind.u64.wrap ((t229.length : Int)))))).f2⟩ : S33)] : List (S33)) : List (S33))).bind fun y244 => (if y241.length + y244.length < 8796093022208 then ((some (y241 ++ y244 : List (S33))).bind fun y247 => (if 0 ≤ (wrap64 ((wrap64 (Int.tmod (IntKind.u64.wrap (a1)) (IntKind.u64.wrap ((t229.length : Int))))) + 1)) then (if (wrap64 ((wrap64 (Int.tmod (IntKind.u64.wrap (a1)) (IntKind.u64.wrap ((t229.length : Int))))) + 1)) ≤ (t229.length : Int) then ((some (t229.drop ((wrap64 ((wrap64 (Int.tmod (IntKind.u64.wrap (a1)) (IntKind.u64.wrap ((t229.length : Int))))) + 1)) : Int).toNat : List (S33))).bind fun y250 => (if y247.length + y250.length < 8796093022208 then ((some (y247 ++ y250 : List (S33))).bind fun y254 => (if prop_Make.c t229 50 = true then ((prop_MakeY.f t229 50).bind fun t259 => (if prop_Make.c y254 50 = true then ((prop_MakeY.f y254 50).bind fun t262 => ((prop_Table_Of.f t259 a3).bind fun t263 => ((prop_Table_Of.f t262 a3).bind fun t264 => (if t263 = t264 then ((prop_Table_Of.f t259 (wrap32 (((rd_T33 t229 (wrap64 (Int.tmod (IntKind.u64.wrap (a1)) (IntKind.u64.wrap ((t229.length : Int)))))).f0) + (wrap32 (Int.tmod (IntKind.u64.wrap (a2)) (IntKind.u64.wrap (wrap32 (((rd_T33 t229 (wrap64 (Int.tmod (IntKind.u64.wrap (a1)) (IntKind.u64.wrap ((t229.length : Int)))))).f1) - ((rd_T33 t229 (wrap64 (Int.tmod (IntKind.u64.wrap (a1)) (IntKind.u64.wrap ((t229.length : Int)))))).f0))))))))).bind fun t265 => ((prop_Table_Of.f t262 (wrap32 (((rd_T33 t229 (wrap64 (Int.tmod (IntKind.u64.wrap (a1)) (IntKind.u64.wrap ((t229.length : Int)))))).f0) + (wrap32 (Int.tmod (IntKind.u64.wrap (a2)) (IntKind.u64.wrap (wrap32 (((rd_T33 t229 (wrap64 (Int.tmod (IntKind.u64.wrap (a1)) (IntKind.u64.wrap ((t229.length : Int)))))).f1) - ((rd_T33 t229 (wrap64 (Int.tmod (IntKind.u64.wrap (a1)) (IntKind.u64.wrap ((t229.length : Int)))))).f0))))))))).bind fun t266 => (if t265 = t266 then ((prop_Table_Of.f t262 (wrap32 ((wrap32 (((rd_T33 t229 (wrap64 (Int.tmod (IntKind.u64.wrap (a1)) (IntKind.u64.wrap ((t229.length : Int)))))).f0) + (wrap32 (Int.tmod (IntKind.u64.wrap (a2)) (IntKind.u64.wrap (wrap32 (((rd_T33 t229 (wrap64 (Int.tmod (IntKind.u64.wrap (a1)) (IntKind.u64.wrap ((t229.length : Int)))))).f1) - ((rd_T33 t229 (wrap64 (Int.tmod (IntKind.u64.wrap (a1)) (IntKind.u64.wrap ((t229.length : Int)))))).f0)))))))) + 1))).bind fun t267 => (if t267 = ((rd_T33 t229 (wrap64 (Int.tmod (IntKind.u64.wrap (a1)) (IntKind.u64.wrap ((t229.length : Int)))))).f2) then ((prop_Table_Blocks.f t259).bind fun t268 => ((prop_Table_Blocks.f t262).bind fun t269 => (some (t268 == t269)))) else (some false))) else (some false)))) else (some false))))) else ((prop_MakeN.f y254 50).bind fun _ => (some false)))) else ((prop_MakeN.f t229 50).bind fun _ => (if prop_Make.c y254 50 = true then ((prop_MakeY.f y254 50).bind fun t272 => (some false)) else ((prop_MakeN.f y254 50).bind fun _ => (some false)))))) else (none))) else (none)) else (none))) else (none)))) else (none))) else (none))))) else (none)) else (none))))) = some r := by rw [if_pos rfl] at H; exact H
 clear H; have H := H1; clear H1; replace H := Option.bind_eq_some_iff.mp H; obtain ⟨t229, A70, H⟩ := H; replace H : (if (t229.length : Int) = 0 then (some true) else (if (IntKind.u64.wrap ((t229.length : Int))) = 0 then (none) else (if 0 ≤ (wrap64 (Int.tmod (IntKind.u64.wrap (a1)) (IntKind.u64.wrap ((t229.length : Int))))) then (if (wrap64 (Int.tmod (IntKind.u64.wrap (a1)) (IntKind.u64.wrap ((t229.length : Int))))) < (t229.length : Int) then (if ((rd_T33 t229 (wrap64 (Int.tmod (IntKind.u64.wrap (a1)) (IntKind.u64.wrap ((t229.length : Int)))))).f0) = ((rd_T33 t229 (wrap64 (Int.tmod (IntKind.u64.wrap (a1)) (IntKind.u64.wrap ((t229.length : Int)))))).f1) then (some true) else (if (IntKind.u64.wrap (wrap32 (((rd_T33 t229 (wrap64 (Int.tmod (IntKind.u64.wrap (a1)) (IntKind.u64.wrap ((t229.length : Int)))))).f1) - ((rd_T33 t229 (wrap64 (Int.tmod (IntKind.u64.wrap (a1)) (IntKind.u64.wrap ((t229.length : Int)))))).f0)))) = 0 then (none) else ((some (([] : List (S33)) : List (S33))).bind fun y234 => (if (wrap64 (Int.tmod (IntKind.u64.wrap (a1)) (IntKind.u64.wrap ((t229.length : Int))))) ≤ (t229.length : Int) then ((some (t229.take ((wrap64 (Int.tmod (IntKind.u64.wrap (a1)) (IntKind.u64.wrap ((t229.length : Int))))) : Int).toNat : List (S33))).bind fun y237 => (if y234.length + y237.length < 8796093022208 then ((some (y234 ++ y237 : List (S33))).bind fun y241 => ((some (([(⟨(rd_T33 t229 (wrap64 (Int.tmod (IntKind.u64.wrap (a1)) (IntKind.u64.wrap ((t229.length : Int)))))).f0, wrap32 (((rd_T33 t229 (wrap64 (Int.tmod (IntKind.u64.wrap (a1)) (IntKind.u64.wrap ((t229.length : Int)))))).f0) + (wrap32 (Int.tmod (IntKind.u64.wrap (a2)) (IntKind.u64.wrap (wrap32 (((rd_T33 t229 (wrap64 (Int.tmod (IntKind.u64.wrap (a1)) (IntKind.u64.wrap ((t229.length : Int)))))).f1) - ((rd_T33 t229 (wrap64 (Int.tmod (IntKind.u64.wrap (a1)) (IntKind.u64.wrap ((t229.length : Int)))))).f0))))))), (rd_T33 t229 (wrap64 (Int.tmod (IntKind.u64.wrap (a1)) (IntKind.u64.wrap ((t229.length : Int)))))).f2⟩ : S33), (⟨wrap32 ((wrap32 (((rd_T33 t229 (wrap64 (Int.tmod (IntKind.u64.wrap (a1)) (IntKind.u64.wrap ((t229.length : Int)))))).f0) + (wrap32 (Int.tmod (IntKind.u64.wrap (a2)) (IntKind.u64.wrap (wrap32 (((rd_T33 t229 (wrap64 (Int.tmod (IntKind.u64.wrap (a1)) (IntKind.u64.wrap ((t229.length : Int)))))).f1) - ((rd_T33 t229 (wrap64 (Int.tmod (IntKind.u64.wrap (a1)) (IntKind.u64.wrap ((t229.length : Int)))))).f0)))))))) + 1), (rd_T33 t229 (wrap64 (Int.tmod (IntKind.u64.wrap (a1)) (IntKind.u64.wrap ((t229.length : Int)))))).f1, (rd_T33 t229 (wrap64 (Int.tmod (IntKind.u64.wrap (a1)) (IntKind.u64.wrap ((t229.length : Int)))))).f2⟩ : S33)] : List (S33)) : List (S33))).bind fun y244 => (if y241.length + y244.length < 8796093022208 then ((some (y241 ++ y244 : List (S33))).bind fun y247 => (if 0 ≤ (wrap64 ((wrap64 (Int.tmod (IntKind.u64.wrap (a1)) (IntKind.u64.wrap ((t229.length : Int))))) + 1)) then (if (wrap64 ((wrap64 (Int.tmod (IntKind.u64.wrap (a1)) (IntKind.u64.wrap ((t229.length : Int))))) + 1)) ≤ (t229.length : Int) then ((some (t229.drop ((wrap64 ((wrap64 (Int.tmod (IntKind.u64.wrap (a1)) (IntKind.u64.wrap ((t229.length : Int))))) + 1)) : Int).toNat : List (S33))).bind fun y250 => (if y247.length + y250.length < 8796093022208 then ((some (y247 ++ y250 : List (S33))).bind fun y254 => (if prop_Make.c t229 50 = true then ((prop_MakeY.f t229 50).bind fun t259 => (if prop_Make.c y254 50 = true then ((prop_MakeY.f y254 50).bind fun t262 => ((prop_Table_Of.f t259 a3).bind fun t263 => ((prop_Table_Of.f t262 a3).bind fun t264 => (if t263 = t264 then ((prop_Table_Of.f t259 (wrap32 (((rd_T33 t229 (wrap64 (Int.tmod (IntKind.u64.wrap (a1)) (IntKind.u64.wrap ((t229.length : Int)))))).f0) + (wrap32 (Int.tmod (IntKind.u64.wrap (a2)) (IntKind.u64.wrap (wrap32 (((rd_T33 t229 (wrap64 (Int.tmod (IntKind.u64.wrap (a1)) (IntKind.u64.wrap ((t229.length : Int)))))).f1) - ((rd_T33 t229 (wrap64 (Int.tmod (IntKind.u64.wrap (a1)) (IntKind.u64.wrap ((t229.length : Int)))))).f0))))))))).bind fun t265 => ((prop_Table_Of.f t262 (wrap32 (((rd_T33 t229 (wrap64 (Int.tmod (IntKind.u64.wrap (a1)) (IntKind.u64.wrap ((t229.length : Int)))))).f0) + (wrap32 (Int.tmod (IntKind.u64.wrap (a2)) (IntKind.u64.wrap (wrap32 (((rd_T33 t229 (wrap64 (Int.tmod (IntKind.u64.wrap (a1)) (IntKind.u64.wrap ((t229.length : Int)))))).f1) - ((rd_T33 t229 (wrap64 (Int.tmod (IntKind.u64.wrap (a1)) (IntKind.u64.wrap ((t229.length : Int)))))).f0))))))))).bind fun t266 => (if t265 = t266 then ((prop_Table_Of.f t262 (wrap32 ((wrap32 (((rd_T33 t229 (wrap64 (Int.tmod (IntKind.u64.wrap (a1)) (IntKind.u64.wrap ((t229.length : Int)))))).f0) + (wrap32 (Int.tmod (IntKind.u64.wrap (a2)) (IntKind.u64.wrap (wrap32 (((rd_T33 t229 (wrap64 (Int.tmod (IntKind.u64.wrap (a1)) (IntKind.u64.wrap ((t229.length : Int)))))).f1) - ((rd_T33 t229 (wrap64 (Int.tmod (IntKind.u64.wrap (a1)) (IntKind.u64.wrap ((t229.length : Int)))))).f0)))))))) + 1))).bind fun t267 => (if t267 = ((rd_T33 t229 (wrap64 (Int.tmod (IntKind.u64.wrap (a1)) (IntKind.u64.wrap ((t229.length : Int)))))).f2) then ((prop_Table_Blocks.f t259).bind fun t268 => ((prop_Table_Blocks.f t262).bind fun t269 => (some (t268 == t269)))) else (some false))) else (some false)))) else (some false))))) else ((prop_MakeN.f y254 50).bind fun _ => (some false)))) else ((prop_MakeN.f t229 50).bind fun _ => (if prop_Make.c y254 50 = true then ((prop_MakeY.f y254 50).bind fun t272 => (some false)) else ((prop_MakeN.f y254 50).bind fun _ => (some false)))))) else (none))) else (none)) else (none))) else (none)))) else (none))) else (none))))) else (none)) else (none)))) = some r := H
 have A7 := zA.mk A70; clear A70; by_cases c8 : (t229.length : Int) = 0
 ·rw [if_pos c8] at H
  have c8b0 : ((t229.length : Int) == 0) = true := beq_iff_eq.mpr c8
  have c8b1 : ((t229.length : Int) != 0) = false := bne_eq_false_iff_eq.mpr c8
  clear c8; obtain rfl := Option.some.inj H
  go_enter Try.func6, Try.ntmps6
  go_wp2_with (first | ((with_reducible refine gate_callee (f := 9) rfl ?_); refine goesL_ (some 17) rfl rfl Try.func9 (by kernel_rfl) rfl #[] rfl aT ?_; (with_reducible refine (stanzalaw02_Awake.calls  true _ A5.out (by first | exact ⟨rfl⟩ | exact hrt_)).mono ?_); rintro e w9 ⟨rfl, hb⟩; refine ⟨_, rfl, ?_⟩; have n0_ := zA.mk (below_step (aL HB) hb); clear HB; have HB := n0_; clear n0_; (try clear hb); (try clear hb2); (try clear hk); (try clear hi)) | ((with_reducible refine gate_callee (f := 13) rfl ?_); refine goesL_ (some 20) rfl rfl Try.func13 (by kernel_rfl) rfl #[.slice A0 l0.length c0, .int .i64 50] rfl aT ?_; (with_reducible refine (stanzalaw02_Right.calls k _ _ l0 50 t229 _ ?side1 ?side2 A7.out).mono ?_); (case side1 => exact aA HR0 HB); (case side2 => exact HC0.out); rintro e w10 ⟨v230, rfl, ho0, hb⟩; refine ⟨_, rfl, ?_⟩; have n0_ := zA.mk (Kd.zM ho0 (below_size (aL HB))); have n1_ := zA.mk (below_step (aL HB) hb); clear HB; have HO231 := n0_; have HB := n1_; clear n0_ n1_; (try clear hb); (try clear hb2); (try clear hk); (try clear hi); (try clear ho0); obtain ⟨Ao11, co11, eo11⟩ := Kd.zL HO231.out; subst eo11))
  go_ret
  exact ⟨aX, aL HB⟩
 rw [if_neg c8] at H; have c8b0 : ((t229.length : Int) == 0) = false := beq_eq_false_iff_ne.mpr c8
 have c8b1 : ((t229.length : Int) != 0) = true := bne_iff_ne.mpr c8
 have c8b2 : ¬ (t229 = []) := fun h_ => c8 (by rw [h_]; rfl)
 by_cases c12 : (IntKind.u64.wrap ((t229.length : Int))) = 0
 ·rw [if_pos c12] at H
  exact absurd H (by simp)
 rw [if_neg c12] at H; have c12b0 : ((IntKind.u64.wrap ((t229.length : Int))) == 0) = false := beq_eq_false_iff_ne.mpr c12
 have c12b1 : ((IntKind.u64.wrap ((t229.length : Int))) != 0) = true := bne_iff_ne.mpr c12
 obtain ⟨ji13, hji13⟩ : ∃ j_ : Int, (wrap64 (Int.tmod (IntKind.u64.wrap (a1)) (IntKind.u64.wrap ((t229.length : Int))))) = j_ := ⟨_, rfl⟩; replace H : (if 0 ≤ (ji13) then (if (ji13) < (t229.length : Int) then (if ((rd_T33 t229 (ji13)).f0) = ((rd_T33 t229 (ji13)).f1) then (some true) else (if (IntKind.u64.wrap (wrap32 (((rd_T33 t229 (ji13)).f1) - ((rd_T33 t229 (ji13)).f0)))) = 0 then (none) else ((some (([] : List (S33)) : List (S33))).bind fun y234 => (if (ji13) ≤ (t229.length : Int) then ((some (t229.take ((ji13) : Int).toNat : List (S33))).bind fun y237 => (if y234.length + y237.length < 8796093022208 then ((some (y234 ++ y237 : List (S33))).bind fun y241 => ((some (([(⟨(rd_T33 t229 (ji13)).f0, wrap32 (((rd_T33 t229 (ji13)).f0) + (wrap32 (Int.tmod (IntKind.u64.wrap (a2)) (IntKind.u64.wrap (wrap32 (((rd_T33 t229 (ji13)).f1) - ((rd_T33 t229 (ji13)).f0))))))), (rd_T33 t229 (ji13)).f2⟩ : S33), (⟨wrap32 ((wrap32 (((rd_T33 t229 (ji13)).f0) + (wrap32 (Int.tmod (IntKind.u64.wrap (a2)) (IntKind.u64.wrap (wrap32 (((rd_T33 t229 (ji13)).f1) - ((rd_T33 t229 (ji13)).f0)))))))) + 1), (rd_T33 t229 (ji13)).f1, (rd_T33 t229 (ji13)).f2⟩ : S33)] : List (S33)) : List (S33))).bind fun y244 => (if y241.length + y244.length < 8796093022208 then ((some (y241 ++ y244 : List (S33))).bind fun y247 => (if 0 ≤ (wrap64 ((ji13) + 1)) then (if (wrap64 ((ji13) + 1)) ≤ (t229.length : Int) then ((some (t229.drop ((wrap64 ((ji13) + 1)) : Int).toNat : List (S33))).bind fun y250 => (if y247.length + y250.length < 8796093022208 then ((some (y247 ++ y250 : List (S33))).bind fun y254 => (if prop_Make.c t229 50 = true then ((prop_MakeY.f t229 50).bind fun t259 => (if prop_Make.c y254 50 = true then ((prop_MakeY.f y254 50).bind fun t262 => ((prop_Table_Of.f t259 a3).bind fun t263 => ((prop_Table_Of.f t262 a3).bind fun t264 => (if t263 = t264 then ((prop_Table_Of.f t259 (wrap32 (((rd_T33 t229 (ji13)).f0) + (wrap32 (Int.tmod (IntKind.u64.wrap (a2)) (IntKind.u64.wrap (wrap32 (((rd_T33 t229 (ji13)).f1) - ((rd_T33 t229 (ji13)).f0))))))))).bind fun t265 => ((prop_Table_Of.f t262 (wrap32 (((rd_T33 t229 (ji13)).f0) + (wrap32 (Int.tmod (IntKind.u64.wrap (a2)) (IntKind.u64.wrap (wrap32 (((rd_T33 t229 (ji13)).f1) - ((rd_T33 t229 (ji13)).f0))))))))).bind fun t266 => (if t265 = t266 then ((prop_Table_Of.f t262 (wrap32 ((wrap32 (((rd_T33 t229 (ji13)).f0) + (wrap32 (Int.tmod (IntKind.u64.wrap (a2)) (IntKind.u64.wrap (wrap32 (((rd_T33 t229 (ji13)).f1) - ((rd_T33 t229 (ji13)).f0)))))))) + 1))).bind fun t267 => (if t267 = ((rd_T33 t229 (ji13)).f2) then ((prop_Table_Blocks.f t259).bind fun t268 => ((prop_Table_Blocks.f t262).bind fun t269 => (some (t268 == t269)))) else (some false))) else (some false)))) else (some false))))) else ((prop_MakeN.f y254 50).bind fun _ => (some false)))) else ((prop_MakeN.f t229 50).bind fun _ => (if prop_Make.c y254 50 = true then ((prop_MakeY.f y254 50).bind fun t272 => (some false)) else ((prop_MakeN.f y254 50).bind fun _ => (some false)))))) else (none))) else (none)) else (none))) else (none)))) else (none))) else (none))))) else (none)) else (none)) = some r := by first | (rw [hji13] at H; exact H) | (simp only [hji13] at H ⊢; exact H)
 (try rw [hji13] at A5)
 (try rw [hji13] at A7)
 have hji13w : (IntKind.i64.wrap (Int.tmod (IntKind.u64.wrap (a1)) (IntKind.u64.wrap ((t229.length : Int))))) = ji13 := (i64_w _).trans hji13
 by_cases c14 : 0 ≤ (ji13)
 rotate_left
 ·rw [if_neg c14] at H
  exact absurd H (by simp)
 rw [if_pos c14] at H; have c14b0 : decide (0 ≤ (ji13)) = true := decide_eq_true c14
 clear c14; by_cases c15 : (ji13) < (t229.length : Int)
 rotate_left
 ·rw [if_neg c15] at H
  exact absurd H (by simp)
 rw [if_pos c15] at H; have c15b0 : decide ((ji13) < (t229.length : Int)) = true := decide_eq_true c15
 clear c15; by_cases c16 : ((rd_T33 t229 (ji13)).f0) = ((rd_T33 t229 (ji13)).f1)
 ·rw [if_pos c16] at H
  have c16b0 : (((rd_T33 t229 (ji13)).f0) == ((rd_T33 t229 (ji13)).f1)) = true := beq_iff_eq.mpr c16
  have c16b1 : (((rd_T33 t229 (ji13)).f0) != ((rd_T33 t229 (ji13)).f1)) = false := bne_eq_false_iff_eq.mpr c16
  clear c16; obtain rfl := Option.some.inj H
  go_enter Try.func6, Try.ntmps6
  go_wp2_with (first | ((with_reducible refine gate_callee (f := 9) rfl ?_); refine goesL_ (some 17) rfl rfl Try.func9 (by kernel_rfl) rfl #[] rfl aT ?_; (with_reducible refine (stanzalaw02_Awake.calls  true _ A5.out (by first | exact ⟨rfl⟩ | exact hrt_)).mono ?_); rintro e w17 ⟨rfl, hb⟩; refine ⟨_, rfl, ?_⟩; have n0_ := zA.mk (below_step (aL HB) hb); clear HB; have HB := n0_; clear n0_; (try clear hb); (try clear hb2); (try clear hk); (try clear hi)) | ((with_reducible refine gate_callee (f := 13) rfl ?_); refine goesL_ (some 20) rfl rfl Try.func13 (by kernel_rfl) rfl #[.slice A0 l0.length c0, .int .i64 50] rfl aT ?_; (with_reducible refine (stanzalaw02_Right.calls k _ _ l0 50 t229 _ ?side1 ?side2 A7.out).mono ?_); (case side1 => exact aA HR0 HB); (case side2 => exact HC0.out); rintro e w18 ⟨v230, rfl, ho0, hb⟩; refine ⟨_, rfl, ?_⟩; have n0_ := zA.mk (Kd.zM ho0 (below_size (aL HB))); have n1_ := zA.mk (below_step (aL HB) hb); clear HB; have HO231 := n0_; have HB := n1_; clear n0_ n1_; (try clear hb); (try clear hb2); (try clear hk); (try clear hi); (try clear ho0); obtain ⟨Ao19, co19, eo19⟩ := Kd.zL HO231.out; subst eo19; have p232 : 0 ≤ ((ji13) : Int) := aD; have q232 : (ji13) < (t229.length : Int) := aD; obtain ⟨ad232, e232, hx232_0, hx232_1, hx232_2⟩ := at_T33 (Kd.zI HO231.out).2.2 (ji13) p232 q232; cases e232; replace p232 := eq_true p232; replace q232 := eq_true q232) | ((with_reducible refine gate_dst (N := 10) rfl ?_); refine box_event ?hg (N := 10) ?hd (cs := #[.int .i32 0, .int .i32 0, .int .i64 0]) (t := 33) ?hr ?_; (case hd => rfl); (case hg => rfl); (case hr => first | (go_simp; done) | (go_simp; rfl)); intro gb233 hg w20 hbox hb; have n0_ := zA.mk (Kd.zJ (Kd.R_elderB (aR HO231) gb233 (Nat.le_of_eq hg.symm)) hb); have n1_ := zA.mk (below_step (aL HB) hb); have n2_ := zA.mk (hbox); have n3_ := zA.mk ((by rw [hg]; exact (below_size (aL HB)) : w.heap.size ≤ gb233)); have n4_ := zA.mk ((by rw [hg]; exact (below_size (aL HB)) : w.heap.size ≤ gb233)); clear HO231; clear HB; have HO231 := n0_; have HB := n1_; have BK233 := n2_; have GW233 := n3_; have GE233 := n4_; clear n0_ n1_ n2_ n3_ n4_; clear hb hbox hg; obtain ⟨hcz21_0, hcz21_1, hcz21_2, hfz21_0, hfz21_1, hfz21_2⟩ := aC3 BK233) | ((with_reducible refine gate_store (t := 33) (p := 10) rfl ?_); refine store_event (t := 33) (p := 10) (v := ?vo_w22) (w1 := (((w20.setCell ⟨gb233, 0, none⟩ (.int .i32 ((rd_T33 t229 (ji13)).f0))).setCell ⟨gb233, 1, none⟩ (.int .i32 ((rd_T33 t229 (ji13)).f1))).setCell ⟨gb233, 2, none⟩ (.int .i64 ((rd_T33 t229 (ji13)).f2)))) ?hg ?ho ?hn ?hr ?_; (case ho => rfl); (case hg => rfl); (case hn => rfl); (case hr => first | (go_simp; done) | (go_simp; rfl)); intro w22 hw; have n0_ : zA (Kd.R k33 33 w22 w.heap.size (fun k_ => k_ ≠ gb233) (.slice (some ad232) t229.length co19) t229) := ⟨(by rw [hw]; exact (by (with_reducible repeat (first | apply Kd.zB | apply Kd.zC | apply Kd.zD)); exact Kd.zN (Kd.zK (p := ⟨gb233, 2, none⟩) (Kd.zK (p := ⟨gb233, 1, none⟩) (Kd.zK (p := ⟨gb233, 0, none⟩) (Kd.zN HO231.out (fun k_ hk => (⟨hk, hk.2⟩ : _ ∧ k_ ≠ gb233))) (fun _ hk => hk.2) (.int .i32 ((rd_T33 t229 (ji13)).f0))) (fun _ hk => hk.2) (.int .i32 ((rd_T33 t229 (ji13)).f1))) (fun _ hk => hk.2) (.int .i64 ((rd_T33 t229 (ji13)).f2))) (fun _ hk => hk.1.2)))⟩; have n1_ : zA (w22.heap[gb233]? = some (.cells #[.int .i32 ((rd_T33 t229 (ji13)).f0), .int .i32 ((rd_T33 t229 (ji13)).f1), .int .i64 ((rd_T33 t229 (ji13)).f2)] 33 (0, 0))) := ⟨(by rw [hw]; exact (by (with_reducible repeat (first | refine blk_drewN ?_ _ | refine blk_drew ?_ | refine blk_alloc ?_ _)); refine blk_put (cs := #[.int .i32 ((rd_T33 t229 (ji13)).f0), .int .i32 ((rd_T33 t229 (ji13)).f1), .int .i64 0]) ?_ 2 _ rfl; (with_reducible repeat (first | refine blk_drewN ?_ _ | refine blk_drew ?_ | refine blk_alloc ?_ _)); refine blk_put (cs := #[.int .i32 ((rd_T33 t229 (ji13)).f0), .int .i32 0, .int .i64 0]) ?_ 1 _ rfl; (with_reducible repeat (first | refine blk_drewN ?_ _ | refine blk_drew ?_ | refine blk_alloc ?_ _)); refine blk_put (cs := #[.int .i32 0, .int .i32 0, .int .i64 0]) ?_ 0 _ rfl; (with_reducible repeat (first | refine blk_drewN ?_ _ | refine blk_drew ?_ | refine blk_alloc ?_ _)); exact BK233.out))⟩; have n2_ : zA (Below w.heap.size w w22) := ⟨(by rw [hw]; exact (aL HB))⟩; clear hw; clear HO231; clear BK233; clear HB; have HO231 := n0_; have BK233 := n1_; have HB := n2_; clear n0_ n1_ n2_; obtain ⟨hcz23_0, hcz23_1, hcz23_2, hfz23_0, hfz23_1, hfz23_2⟩ := aC3 BK233))
  go_ret
  exact ⟨by first | rfl | (simp [errW_none, errW_some] <;> rfl) | (simp only [← hji13]; first | rfl | (simp [errW_none, errW_some] <;> rfl)) | (simp [*, errW_none, errW_some] <;> rfl), aL HB⟩
 rw [if_neg c16] at H; have c16b0 : (((rd_T33 t229 (ji13)).f0) == ((rd_T33 t229 (ji13)).f1)) = false := beq_eq_false_iff_ne.mpr c16
 have c16b1 : (((rd_T33 t229 (ji13)).f0) != ((rd_T33 t229 (ji13)).f1)) = true := bne_iff_ne.mpr c16
 by_cases c24 : (IntKind.u64.wrap (wrap32 (((rd_T33 t229 (ji13)).f1) - ((rd_T33 t229 (ji13)).f0)))) = 0
 ·rw [if_pos c24] at H
  exact absurd H (by simp)
 rw [if_neg c24] at H; have c24b0 : ((IntKind.u64.wrap (wrap32 (((rd_T33 t229 (ji13)).f1) - ((rd_T33 t229 (ji13)).f0)))) == 0) = false := beq_eq_false_iff_ne.mpr c24
 have c24b1 : ((IntKind.u64.wrap (wrap32 (((rd_T33 t229 (ji13)).f1) - ((rd_T33 t229 (ji13)).f0)))) != 0) = true := bne_iff_ne.mpr c24
 obtain ⟨y234, hy234⟩ : ∃ y_ : List (S33), y_ = (([] : List (S33))) := ⟨_, rfl⟩; replace H : (if (ji13) ≤ (t229.length : Int) then ((some (t229.take ((ji13) : Int).toNat : List (S33))).bind fun y237 => (if y234.length + y237.length < 8796093022208 then ((some (y234 ++ y237 : List (S33))).bind fun y241 => ((some (([(⟨(rd_T33 t229 (ji13)).f0, wrap32 (((rd_T33 t229 (ji13)).f0) + (wrap32 (Int.tmod (IntKind.u64.wrap (a2)) (IntKind.u64.wrap (wrap32 (((rd_T33 t229 (ji13)).f1) - ((rd_T33 t229 (ji13)).f0))))))), (rd_T33 t229 (ji13)).f2⟩ : S33), (⟨wrap32 ((wrap32 (((rd_T33 t229 (ji13)).f0) + (wrap32 (Int.tmod (IntKind.u64.wrap (a2)) (IntKind.u64.wrap (wrap32 (((rd_T33 t229 (ji13)).f1) - ((rd_T33 t229 (ji13)).f0)))))))) + 1), (rd_T33 t229 (ji13)).f1, (rd_T33 t229 (ji13)).f2⟩ : S33)] : List (S33)) : List (S33))).bind fun y244 => (if y241.length + y244.length < 8796093022208 then ((some (y241 ++ y244 : List (S33))).bind fun y247 => (if 0 ≤ (wrap64 ((ji13) + 1)) then (if (wrap64 ((ji13) + 1)) ≤ (t229.length : Int) then ((some (t229.drop ((wrap64 ((ji13) + 1)) : Int).toNat : List (S33))).bind fun y250 => (if y247.length + y250.length < 8796093022208 then ((some (y247 ++ y250 : List (S33))).bind fun y254 => (if prop_Make.c t229 50 = true then ((prop_MakeY.f t229 50).bind fun t259 => (if prop_Make.c y254 50 = true then ((prop_MakeY.f y254 50).bind fun t262 => ((prop_Table_Of.f t259 a3).bind fun t263 => ((prop_Table_Of.f t262 a3).bind fun t264 => (if t263 = t264 then ((prop_Table_Of.f t259 (wrap32 (((rd_T33 t229 (ji13)).f0) + (wrap32 (Int.tmod (IntKind.u64.wrap (a2)) (IntKind.u64.wrap (wrap32 (((rd_T33 t229 (ji13)).f1) - ((rd_T33 t229 (ji13)).f0))))))))).bind fun t265 => ((prop_Table_Of.f t262 (wrap32 (((rd_T33 t229 (ji13)).f0) + (wrap32 (Int.tmod (IntKind.u64.wrap (a2)) (IntKind.u64.wrap (wrap32 (((rd_T33 t229 (ji13)).f1) - ((rd_T33 t229 (ji13)).f0))))))))).bind fun t266 => (if t265 = t266 then ((prop_Table_Of.f t262 (wrap32 ((wrap32 (((rd_T33 t229 (ji13)).f0) + (wrap32 (Int.tmod (IntKind.u64.wrap (a2)) (IntKind.u64.wrap (wrap32 (((rd_T33 t229 (ji13)).f1) - ((rd_T33 t229 (ji13)).f0)))))))) + 1))).bind fun t267 => (if t267 = ((rd_T33 t229 (ji13)).f2) then ((prop_Table_Blocks.f t259).bind fun t268 => ((prop_Table_Blocks.f t262).bind fun t269 => (some (t268 == t269)))) else (some false))) else (some false)))) else (some false))))) else ((prop_MakeN.f y254 50).bind fun _ => (some false)))) else ((prop_MakeN.f t229 50).bind fun _ => (if prop_Make.c y254 50 = true then ((prop_MakeY.f y254 50).bind fun t272 => (some false)) else ((prop_MakeN.f y254 50).bind fun _ => (some false)))))) else (none))) else (none)) else (none))) else (none)))) else (none))) else (none)) = some r := by first | (rw [hy234]; with_reducible exact H) | (have H2_ := (Option.bind_some _ _).symm.trans H; rw [hy234]; with_reducible exact H2_) | (have H2_ := (Option.bind_some _ _).symm.trans H; with_reducible exact H2_) | with_reducible exact H | (rw [hy234]; exact H) | exact H
 have Ny234 := zA.mk hy234; clear hy234; have c25b0 := eq_true (aD : 0 ≤ (ji13)); by_cases c26 : (ji13) ≤ (t229.length : Int)
 rotate_left
 ·rw [if_neg c26] at H
  exact absurd H (by simp)
 rw [if_pos c26] at H; have c26b0 := eq_true c26; have c26b1 : decide ((ji13) ≤ (t229.length : Int)) = true := decide_eq_true c26
 clear c26; obtain ⟨y237, hy237⟩ : ∃ y_ : List (S33), y_ = (t229.take ((ji13) : Int).toNat) := ⟨_, rfl⟩; replace H : (if y234.length + y237.length < 8796093022208 then ((some (y234 ++ y237 : List (S33))).bind fun y241 => ((some (([(⟨(rd_T33 t229 (ji13)).f0, wrap32 (((rd_T33 t229 (ji13)).f0) + (wrap32 (Int.tmod (IntKind.u64.wrap (a2)) (IntKind.u64.wrap (wrap32 (((rd_T33 t229 (ji13)).f1) - ((rd_T33 t229 (ji13)).f0))))))), (rd_T33 t229 (ji13)).f2⟩ : S33), (⟨wrap32 ((wrap32 (((rd_T33 t229 (ji13)).f0) + (wrap32 (Int.tmod (IntKind.u64.wrap (a2)) (IntKind.u64.wrap (wrap32 (((rd_T33 t229 (ji13)).f1) - ((rd_T33 t229 (ji13)).f0)))))))) + 1), (rd_T33 t229 (ji13)).f1, (rd_T33 t229 (ji13)).f2⟩ : S33)] : List (S33)) : List (S33))).bind fun y244 => (if y241.length + y244.length < 8796093022208 then ((some (y241 ++ y244 : List (S33))).bind fun y247 => (if 0 ≤ (wrap64 ((ji13) + 1)) then (if (wrap64 ((ji13) + 1)) ≤ (t229.length : Int) then ((some (t229.drop ((wrap64 ((ji13) + 1)) : Int).toNat : List (S33))).bind fun y250 => (if y247.length + y250.length < 8796093022208 then ((some (y247 ++ y250 : List (S33))).bind fun y254 => (if prop_Make.c t229 50 = true then ((prop_MakeY.f t229 50).bind fun t259 => (if prop_Make.c y254 50 = true then ((prop_MakeY.f y254 50).bind fun t262 => ((prop_Table_Of.f t259 a3).bind fun t263 => ((prop_Table_Of.f t262 a3).bind fun t264 => (if t263 = t264 then ((prop_Table_Of.f t259 (wrap32 (((rd_T33 t229 (ji13)).f0) + (wrap32 (Int.tmod (IntKind.u64.wrap (a2)) (IntKind.u64.wrap (wrap32 (((rd_T33 t229 (ji13)).f1) - ((rd_T33 t229 (ji13)).f0))))))))).bind fun t265 => ((prop_Table_Of.f t262 (wrap32 (((rd_T33 t229 (ji13)).f0) + (wrap32 (Int.tmod (IntKind.u64.wrap (a2)) (IntKind.u64.wrap (wrap32 (((rd_T33 t229 (ji13)).f1) - ((rd_T33 t229 (ji13)).f0))))))))).bind fun t266 => (if t265 = t266 then ((prop_Table_Of.f t262 (wrap32 ((wrap32 (((rd_T33 t229 (ji13)).f0) + (wrap32 (Int.tmod (IntKind.u64.wrap (a2)) (IntKind.u64.wrap (wrap32 (((rd_T33 t229 (ji13)).f1) - ((rd_T33 t229 (ji13)).f0)))))))) + 1))).bind fun t267 => (if t267 = ((rd_T33 t229 (ji13)).f2) then ((prop_Table_Blocks.f t259).bind fun t268 => ((prop_Table_Blocks.f t262).bind fun t269 => (some (t268 == t269)))) else (some false))) else (some false)))) else (some false))))) else ((prop_MakeN.f y254 50).bind fun _ => (some false)))) else ((prop_MakeN.f t229 50).bind fun _ => (if prop_Make.c y254 50 = true then ((prop_MakeY.f y254 50).bind fun t272 => (some false)) else ((prop_MakeN.f y254 50).bind fun _ => (some false)))))) else (none))) else (none)) else (none))) else (none)))) else (none)) = some r := by first | (rw [hy237]; with_reducible exact H) | (have H2_ := (Option.bind_some _ _).symm.trans H; rw [hy237]; with_reducible exact H2_) | (have H2_ := (Option.bind_some _ _).symm.trans H; with_reducible exact H2_) | with_reducible exact H | (rw [hy237]; exact H) | exact H
 have Ny237 := zA.mk hy237; clear hy237; by_cases c27 : y234.length + y237.length < 8796093022208
 rotate_left
 ·rw [if_neg c27] at H
  exact absurd H (by simp)
 rw [if_pos c27] at H; have LMc27 := zA.mk c27; clear c27; obtain ⟨y241, hy241⟩ : ∃ y_ : List (S33), y_ = (y234 ++ y237) := ⟨_, rfl⟩; replace H : ((some (([(⟨(rd_T33 t229 (ji13)).f0, wrap32 (((rd_T33 t229 (ji13)).f0) + (wrap32 (Int.tmod (IntKind.u64.wrap (a2)) (IntKind.u64.wrap (wrap32 (((rd_T33 t229 (ji13)).f1) - ((rd_T33 t229 (ji13)).f0))))))), (rd_T33 t229 (ji13)).f2⟩ : S33), (⟨wrap32 ((wrap32 (((rd_T33 t229 (ji13)).f0) + (wrap32 (Int.tmod (IntKind.u64.wrap (a2)) (IntKind.u64.wrap (wrap32 (((rd_T33 t229 (ji13)).f1) - ((rd_T33 t229 (ji13)).f0)))))))) + 1), (rd_T33 t229 (ji13)).f1, (rd_T33 t229 (ji13)).f2⟩ : S33)] : List (S33)) : List (S33))).bind fun y244 => (if y241.length + y244.length < 8796093022208 then ((some (y241 ++ y244 : List (S33))).bind fun y247 => (if 0 ≤ (wrap64 ((ji13) + 1)) then (if (wrap64 ((ji13) + 1)) ≤ (t229.length : Int) then ((some (t229.drop ((wrap64 ((ji13) + 1)) : Int).toNat : List (S33))).bind fun y250 => (if y247.length + y250.length < 8796093022208 then ((some (y247 ++ y250 : List (S33))).bind fun y254 => (if prop_Make.c t229 50 = true then ((prop_MakeY.f t229 50).bind fun t259 => (if prop_Make.c y254 50 = true then ((prop_MakeY.f y254 50).bind fun t262 => ((prop_Table_Of.f t259 a3).bind fun t263 => ((prop_Table_Of.f t262 a3).bind fun t264 => (if t263 = t264 then ((prop_Table_Of.f t259 (wrap32 (((rd_T33 t229 (ji13)).f0) + (wrap32 (Int.tmod (IntKind.u64.wrap (a2)) (IntKind.u64.wrap (wrap32 (((rd_T33 t229 (ji13)).f1) - ((rd_T33 t229 (ji13)).f0))))))))).bind fun t265 => ((prop_Table_Of.f t262 (wrap32 (((rd_T33 t229 (ji13)).f0) + (wrap32 (Int.tmod (IntKind.u64.wrap (a2)) (IntKind.u64.wrap (wrap32 (((rd_T33 t229 (ji13)).f1) - ((rd_T33 t229 (ji13)).f0))))))))).bind fun t266 => (if t265 = t266 then ((prop_Table_Of.f t262 (wrap32 ((wrap32 (((rd_T33 t229 (ji13)).f0) + (wrap32 (Int.tmod (IntKind.u64.wrap (a2)) (IntKind.u64.wrap (wrap32 (((rd_T33 t229 (ji13)).f1) - ((rd_T33 t229 (ji13)).f0)))))))) + 1))).bind fun t267 => (if t267 = ((rd_T33 t229 (ji13)).f2) then ((prop_Table_Blocks.f t259).bind fun t268 => ((prop_Table_Blocks.f t262).bind fun t269 => (some (t268 == t269)))) else (some false))) else (some false)))) else (some false))))) else ((prop_MakeN.f y254 50).bind fun _ => (some false)))) else ((prop_MakeN.f t229 50).bind fun _ => (if prop_Make.c y254 50 = true then ((prop_MakeY.f y254 50).bind fun t272 => (some false)) else ((prop_MakeN.f y254 50).bind fun _ => (some false)))))) else (none))) else (none)) else (none))) else (none))) = some r := by first | (rw [hy241]; with_reducible exact H) | (have H2_ := (Option.bind_some _ _).symm.trans H; rw [hy241]; with_reducible exact H2_) | (have H2_ := (Option.bind_some _ _).symm.trans H; with_reducible exact H2_) | with_reducible exact H | (rw [hy241]; exact H) | exact H
 have Ny241 := zA.mk hy241; clear hy241; obtain ⟨y244, hy244⟩ : ∃ y_ : List (S33), y_ = (([(⟨(rd_T33 t229 (ji13)).f0, wrap32 (((rd_T33 t229 (ji13)).f0) + (wrap32 (Int.tmod (IntKind.u64.wrap (a2)) (IntKind.u64.wrap (wrap32 (((rd_T33 t229 (ji13)).f1) - ((rd_T33 t229 (ji13)).f0))))))), (rd_T33 t229 (ji13)).f2⟩ : S33), (⟨wrap32 ((wrap32 (((rd_T33 t229 (ji13)).f0) + (wrap32 (Int.tmod (IntKind.u64.wrap (a2)) (IntKind.u64.wrap (wrap32 (((rd_T33 t229 (ji13)).f1) - ((rd_T33 t229 (ji13)).f0)))))))) + 1), (rd_T33 t229 (ji13)).f1, (rd_T33 t229 (ji13)).f2⟩ : S33)] : List (S33))) := ⟨_, rfl⟩; replace H : (if y241.length + y244.length < 8796093022208 then ((some (y241 ++ y244 : List (S33))).bind fun y247 => (if 0 ≤ (wrap64 ((ji13) + 1)) then (if (wrap64 ((ji13) + 1)) ≤ (t229.length : Int) then ((some (t229.drop ((wrap64 ((ji13) + 1)) : Int).toNat : List (S33))).bind fun y250 => (if y247.length + y250.length < 8796093022208 then ((some (y247 ++ y250 : List (S33))).bind fun y254 => (if prop_Make.c t229 50 = true then ((prop_MakeY.f t229 50).bind fun t259 => (if prop_Make.c y254 50 = true then ((prop_MakeY.f y254 50).bind fun t262 => ((prop_Table_Of.f t259 a3).bind fun t263 => ((prop_Table_Of.f t262 a3).bind fun t264 => (if t263 = t264 then ((prop_Table_Of.f t259 (wrap32 (((rd_T33 t229 (ji13)).f0) + (wrap32 (Int.tmod (IntKind.u64.wrap (a2)) (IntKind.u64.wrap (wrap32 (((rd_T33 t229 (ji13)).f1) - ((rd_T33 t229 (ji13)).f0))))))))).bind fun t265 => ((prop_Table_Of.f t262 (wrap32 (((rd_T33 t229 (ji13)).f0) + (wrap32 (Int.tmod (IntKind.u64.wrap (a2)) (IntKind.u64.wrap (wrap32 (((rd_T33 t229 (ji13)).f1) - ((rd_T33 t229 (ji13)).f0))))))))).bind fun t266 => (if t265 = t266 then ((prop_Table_Of.f t262 (wrap32 ((wrap32 (((rd_T33 t229 (ji13)).f0) + (wrap32 (Int.tmod (IntKind.u64.wrap (a2)) (IntKind.u64.wrap (wrap32 (((rd_T33 t229 (ji13)).f1) - ((rd_T33 t229 (ji13)).f0)))))))) + 1))).bind fun t267 => (if t267 = ((rd_T33 t229 (ji13)).f2) then ((prop_Table_Blocks.f t259).bind fun t268 => ((prop_Table_Blocks.f t262).bind fun t269 => (some (t268 == t269)))) else (some false))) else (some false)))) else (some false))))) else ((prop_MakeN.f y254 50).bind fun _ => (some false)))) else ((prop_MakeN.f t229 50).bind fun _ => (if prop_Make.c y254 50 = true then ((prop_MakeY.f y254 50).bind fun t272 => (some false)) else ((prop_MakeN.f y254 50).bind fun _ => (some false)))))) else (none))) else (none)) else (none))) else (none)) = some r := by first | (rw [hy244]; with_reducible exact H) | (have H2_ := (Option.bind_some _ _).symm.trans H; rw [hy244]; with_reducible exact H2_) | (have H2_ := (Option.bind_some _ _).symm.trans H; with_reducible exact H2_) | with_reducible exact H | (rw [hy244]; exact H) | exact H
 have Ny244 := zA.mk hy244; clear hy244; by_cases c28 : y241.length + y244.length < 8796093022208
 rotate_left
 ·rw [if_neg c28] at H
  exact absurd H (by simp)
 rw [if_pos c28] at H; have LMc28 := zA.mk c28; clear c28; obtain ⟨y247, hy247⟩ : ∃ y_ : List (S33), y_ = (y241 ++ y244) := ⟨_, rfl⟩; replace H : (if 0 ≤ (wrap64 ((ji13) + 1)) then (if (wrap64 ((ji13) + 1)) ≤ (t229.length : Int) then ((some (t229.drop ((wrap64 ((ji13) + 1)) : Int).toNat : List (S33))).bind fun y250 => (if y247.length + y250.length < 8796093022208 then ((some (y247 ++ y250 : List (S33))).bind fun y254 => (if prop_Make.c t229 50 = true then ((prop_MakeY.f t229 50).bind fun t259 => (if prop_Make.c y254 50 = true then ((prop_MakeY.f y254 50).bind fun t262 => ((prop_Table_Of.f t259 a3).bind fun t263 => ((prop_Table_Of.f t262 a3).bind fun t264 => (if t263 = t264 then ((prop_Table_Of.f t259 (wrap32 (((rd_T33 t229 (ji13)).f0) + (wrap32 (Int.tmod (IntKind.u64.wrap (a2)) (IntKind.u64.wrap (wrap32 (((rd_T33 t229 (ji13)).f1) - ((rd_T33 t229 (ji13)).f0))))))))).bind fun t265 => ((prop_Table_Of.f t262 (wrap32 (((rd_T33 t229 (ji13)).f0) + (wrap32 (Int.tmod (IntKind.u64.wrap (a2)) (IntKind.u64.wrap (wrap32 (((rd_T33 t229 (ji13)).f1) - ((rd_T33 t229 (ji13)).f0))))))))).bind fun t266 => (if t265 = t266 then ((prop_Table_Of.f t262 (wrap32 ((wrap32 (((rd_T33 t229 (ji13)).f0) + (wrap32 (Int.tmod (IntKind.u64.wrap (a2)) (IntKind.u64.wrap (wrap32 (((rd_T33 t229 (ji13)).f1) - ((rd_T33 t229 (ji13)).f0)))))))) + 1))).bind fun t267 => (if t267 = ((rd_T33 t229 (ji13)).f2) then ((prop_Table_Blocks.f t259).bind fun t268 => ((prop_Table_Blocks.f t262).bind fun t269 => (some (t268 == t269)))) else (some false))) else (some false)))) else (some false))))) else ((prop_MakeN.f y254 50).bind fun _ => (some false)))) else ((prop_MakeN.f t229 50).bind fun _ => (if prop_Make.c y254 50 = true then ((prop_MakeY.f y254 50).bind fun t272 => (some false)) else ((prop_MakeN.f y254 50).bind fun _ => (some false)))))) else (none))) else (none)) else (none)) = some r := by first | (rw [hy247]; with_reducible exact H) | (have H2_ := (Option.bind_some _ _).symm.trans H; rw [hy247]; with_reducible exact H2_) | (have H2_ := (Option.bind_some _ _).symm.trans H; with_reducible exact H2_) | with_reducible exact H | (rw [hy247]; exact H) | exact H
 have Ny247 := zA.mk hy247; clear hy247; obtain ⟨ji29, hji29⟩ : ∃ j_ : Int, (wrap64 ((ji13) + 1)) = j_ := ⟨_, rfl⟩; replace H : (if 0 ≤ (ji29) then (if (ji29) ≤ (t229.length : Int) then ((some (t229.drop ((ji29) : Int).toNat : List (S33))).bind fun y250 => (if y247.length + y250.length < 8796093022208 then ((some (y247 ++ y250 : List (S33))).bind fun y254 => (if prop_Make.c t229 50 = true then ((prop_MakeY.f t229 50).bind fun t259 => (if prop_Make.c y254 50 = true then ((prop_MakeY.f y254 50).bind fun t262 => ((prop_Table_Of.f t259 a3).bind fun t263 => ((prop_Table_Of.f t262 a3).bind fun t264 => (if t263 = t264 then ((prop_Table_Of.f t259 (wrap32 (((rd_T33 t229 (ji13)).f0) + (wrap32 (Int.tmod (IntKind.u64.wrap (a2)) (IntKind.u64.wrap (wrap32 (((rd_T33 t229 (ji13)).f1) - ((rd_T33 t229 (ji13)).f0))))))))).bind fun t265 => ((prop_Table_Of.f t262 (wrap32 (((rd_T33 t229 (ji13)).f0) + (wrap32 (Int.tmod (IntKind.u64.wrap (a2)) (IntKind.u64.wrap (wrap32 (((rd_T33 t229 (ji13)).f1) - ((rd_T33 t229 (ji13)).f0))))))))).bind fun t266 => (if t265 = t266 then ((prop_Table_Of.f t262 (wrap32 ((wrap32 (((rd_T33 t229 (ji13)).f0) + (wrap32 (Int.tmod (IntKind.u64.wrap (a2)) (IntKind.u64.wrap (wrap32 (((rd_T33 t229 (ji13)).f1) - ((rd_T33 t229 (ji13)).f0)))))))) + 1))).bind fun t267 => (if t267 = ((rd_T33 t229 (ji13)).f2) then ((prop_Table_Blocks.f t259).bind fun t268 => ((prop_Table_Blocks.f t262).bind fun t269 => (some (t268 == t269)))) else (some false))) else (some false)))) else (some false))))) else ((prop_MakeN.f y254 50).bind fun _ => (some false)))) else ((prop_MakeN.f t229 50).bind fun _ => (if prop_Make.c y254 50 = true then ((prop_MakeY.f y254 50).bind fun t272 => (some false)) else ((prop_MakeN.f y254 50).bind fun _ => (some false)))))) else (none))) else (none)) else (none)) = some r := by first | (rw [hji29] at H; exact H) | (simp only [hji29] at H ⊢; exact H)
 (try rw [hji29] at A5)
 (try rw [hji29] at A7)
 have hji29w : (IntKind.i64.wrap ((ji13) + 1)) = ji29 := (i64_w _).trans hji29
 by_cases c30 : 0 ≤ (ji29)
 rotate_left
 ·rw [if_neg c30] at H
  exact absurd H (by simp)
 rw [if_pos c30] at H; have c30b0 := eq_true c30; have c30b1 : decide (0 ≤ (ji29)) = true := decide_eq_true c30
 clear c30; by_cases c31 : (ji29) ≤ (t229.length : Int)
 rotate_left
 ·rw [if_neg c31] at H
  exact absurd H (by simp)
 rw [if_pos c31] at H; have c31b0 := eq_true c31; have c31b1 : decide ((ji29) ≤ (t229.length : Int)) = true := decide_eq_true c31
 clear c31; obtain ⟨y250, hy250⟩ : ∃ y_ : List (S33), y_ = (t229.drop ((ji29) : Int).toNat) := ⟨_, rfl⟩; replace H : (if y247.length + y250.length < 8796093022208 then ((some (y247 ++ y250 : List (S33))).bind fun y254 => (if prop_Make.c t229 50 = true then ((prop_MakeY.f t229 50).bind fun t259 => (if prop_Make.c y254 50 = true then ((prop_MakeY.f y254 50).bind fun t262 => ((prop_Table_Of.f t259 a3).bind fun t263 => ((prop_Table_Of.f t262 a3).bind fun t264 => (if t263 = t264 then ((prop_Table_Of.f t259 (wrap32 (((rd_T33 t229 (ji13)).f0) + (wrap32 (Int.tmod (IntKind.u64.wrap (a2)) (IntKind.u64.wrap (wrap32 (((rd_T33 t229 (ji13)).f1) - ((rd_T33 t229 (ji13)).f0))))))))).bind fun t265 => ((prop_Table_Of.f t262 (wrap32 (((rd_T33 t229 (ji13)).f0) + (wrap32 (Int.tmod (IntKind.u64.wrap (a2)) (IntKind.u64.wrap (wrap32 (((rd_T33 t229 (ji13)).f1) - ((rd_T33 t229 (ji13)).f0))))))))).bind fun t266 => (if t265 = t266 then ((prop_Table_Of.f t262 (wrap32 ((wrap32 (((rd_T33 t229 (ji13)).f0) + (wrap32 (Int.tmod (IntKind.u64.wrap (a2)) (IntKind.u64.wrap (wrap32 (((rd_T33 t229 (ji13)).f1) - ((rd_T33 t229 (ji13)).f0)))))))) + 1))).bind fun t267 => (if t267 = ((rd_T33 t229 (ji13)).f2) then ((prop_Table_Blocks.f t259).bind fun t268 => ((prop_Table_Blocks.f t262).bind fun t269 => (some (t268 == t269)))) else (some false))) else (some false)))) else (some false))))) else ((prop_MakeN.f y254 50).bind fun _ => (some false)))) else ((prop_MakeN.f t229 50).bind fun _ => (if prop_Make.c y254 50 = true then ((prop_MakeY.f y254 50).bind fun t272 => (some false)) else ((prop_MakeN.f y254 50).bind fun _ => (some false)))))) else (none)) = some r := by first | (rw [hy250]; with_reducible exact H) | (have H2_ := (Option.bind_some _ _).symm.trans H; rw [hy250]; with_reducible exact H2_) | (have H2_ := (Option.bind_some _ _).symm.trans H; with_reducible exact H2_) | with_reducible exact H | (rw [hy250]; exact H) | exact H
 have Ny250 := zA.mk hy250; clear hy250; by_cases c32 : y247.length + y250.length < 8796093022208
 rotate_left
 ·rw [if_neg c32] at H
  exact absurd H (by simp)
 rw [if_pos c32] at H; have LMc32 := zA.mk c32; clear c32; obtain ⟨y254, hy254⟩ : ∃ y_ : List (S33), y_ = (y247 ++ y250) := ⟨_, rfl⟩; replace H : (if prop_Make.c t229 50 = true then ((prop_MakeY.f t229 50).bind fun t259 => (if prop_Make.c y254 50 = true then ((prop_MakeY.f y254 50).bind fun t262 => ((prop_Table_Of.f t259 a3).bind fun t263 => ((prop_Table_Of.f t262 a3).bind fun t264 => (if t263 = t264 then ((prop_Table_Of.f t259 (wrap32 (((rd_T33 t229 (ji13)).f0) + (wrap32 (Int.tmod (IntKind.u64.wrap (a2)) (IntKind.u64.wrap (wrap32 (((rd_T33 t229 (ji13)).f1) - ((rd_T33 t229 (ji13)).f0))))))))).bind fun t265 => ((prop_Table_Of.f t262 (wrap32 (((rd_T33 t229 (ji13)).f0) + (wrap32 (Int.tmod (IntKind.u64.wrap (a2)) (IntKind.u64.wrap (wrap32 (((rd_T33 t229 (ji13)).f1) - ((rd_T33 t229 (ji13)).f0))))))))).bind fun t266 => (if t265 = t266 then ((prop_Table_Of.f t262 (wrap32 ((wrap32 (((rd_T33 t229 (ji13)).f0) + (wrap32 (Int.tmod (IntKind.u64.wrap (a2)) (IntKind.u64.wrap (wrap32 (((rd_T33 t229 (ji13)).f1) - ((rd_T33 t229 (ji13)).f0)))))))) + 1))).bind fun t267 => (if t267 = ((rd_T33 t229 (ji13)).f2) then ((prop_Table_Blocks.f t259).bind fun t268 => ((prop_Table_Blocks.f t262).bind fun t269 => (some (t268 == t269)))) else (some false))) else (some false)))) else (some false))))) else ((prop_MakeN.f y254 50).bind fun _ => (some false)))) else ((prop_MakeN.f t229 50).bind fun _ => (if prop_Make.c y254 50 = true then ((prop_MakeY.f y254 50).bind fun t272 => (some false)) else ((prop_MakeN.f y254 50).bind fun _ => (some false))))) = some r := by first | (rw [hy254]; with_reducible exact H) | (have H2_ := (Option.bind_some _ _).symm.trans H; rw [hy254]; with_reducible exact H2_) | (have H2_ := (Option.bind_some _ _).symm.trans H; with_reducible exact H2_) | with_reducible exact H | (rw [hy254]; exact H) | exact H
 have Ny254 := zA.mk hy254; clear hy254; by_cases c33 : prop_Make.c t229 50 = true
 rotate_left
 ·rw [if_neg c33] at H
  have c33b0 : prop_Make.c t229 50 = false := by simpa using c33
  clear c33; replace H := Option.bind_eq_some_iff.mp H; obtain ⟨_, A720, H⟩ := H; replace H : (if prop_Make.c y254 50 = true then ((prop_MakeY.f y254 50).bind fun t272 => (some false)) else ((prop_MakeN.f y254 50).bind fun _ => (some false))) = some r := H
  have A72 := zA.mk A720; clear A720; by_cases c73 : prop_Make.c y254 50 = true
  ·rw [if_pos c73] at H
   have c73b0 : prop_Make.c y254 50 = true := c73
   clear c73; replace H := Option.bind_eq_some_iff.mp H; obtain ⟨t272, A740, H⟩ := H; replace H : (some false) = some r := H; have A74 := zA.mk A740; clear A740; exact absurd ((Option.some.inj H).trans hrt_.out) (by decide)
  rw [if_neg c73] at H; have c73b0 : prop_Make.c y254 50 = false := by simpa using c73
  clear c73; replace H := Option.bind_eq_some_iff.mp H; obtain ⟨_, A750, H⟩ := H; replace H : (some false) = some r := H; have A75 := zA.mk A750; clear A750; exact absurd ((Option.some.inj H).trans hrt_.out) (by decide)
 rw [if_pos c33] at H; have c33b0 : prop_Make.c t229 50 = true := c33
 clear c33; replace H := Option.bind_eq_some_iff.mp H; obtain ⟨t259, A340, H⟩ := H; replace H : (if prop_Make.c y254 50 = true then ((prop_MakeY.f y254 50).bind fun t262 => ((prop_Table_Of.f t259 a3).bind fun t263 => ((prop_Table_Of.f t262 a3).bind fun t264 => (if t263 = t264 then ((prop_Table_Of.f t259 (wrap32 (((rd_T33 t229 (ji13)).f0) + (wrap32 (Int.tmod (IntKind.u64.wrap (a2)) (IntKind.u64.wrap (wrap32 (((rd_T33 t229 (ji13)).f1) - ((rd_T33 t229 (ji13)).f0))))))))).bind fun t265 => ((prop_Table_Of.f t262 (wrap32 (((rd_T33 t229 (ji13)).f0) + (wrap32 (Int.tmod (IntKind.u64.wrap (a2)) (IntKind.u64.wrap (wrap32 (((rd_T33 t229 (ji13)).f1) - ((rd_T33 t229 (ji13)).f0))))))))).bind fun t266 => (if t265 = t266 then ((prop_Table_Of.f t262 (wrap32 ((wrap32 (((rd_T33 t229 (ji13)).f0) + (wrap32 (Int.tmod (IntKind.u64.wrap (a2)) (IntKind.u64.wrap (wrap32 (((rd_T33 t229 (ji13)).f1) - ((rd_T33 t229 (ji13)).f0)))))))) + 1))).bind fun t267 => (if t267 = ((rd_T33 t229 (ji13)).f2) then ((prop_Table_Blocks.f t259).bind fun t268 => ((prop_Table_Blocks.f t262).bind fun t269 => (some (t268 == t269)))) else (some false))) else (some false)))) else (some false))))) else ((prop_MakeN.f y254 50).bind fun _ => (some false))) = some r := H
 have A34 := zA.mk A340; clear A340; by_cases c35 : prop_Make.c y254 50 = true
 rotate_left
 ·rw [if_neg c35] at H
  have c35b0 : prop_Make.c y254 50 = false := by simpa using c35
  clear c35; replace H := Option.bind_eq_some_iff.mp H; obtain ⟨_, A710, H⟩ := H; replace H : (some false) = some r := H; have A71 := zA.mk A710; clear A710; exact absurd ((Option.some.inj H).trans hrt_.out) (by decide)
 rw [if_pos c35] at H; have c35b0 : prop_Make.c y254 50 = true := c35
 clear c35; replace H := Option.bind_eq_some_iff.mp H; obtain ⟨t262, A360, H⟩ := H; replace H : ((prop_Table_Of.f t259 a3).bind fun t263 => ((prop_Table_Of.f t262 a3).bind fun t264 => (if t263 = t264 then ((prop_Table_Of.f t259 (wrap32 (((rd_T33 t229 (ji13)).f0) + (wrap32 (Int.tmod (IntKind.u64.wrap (a2)) (IntKind.u64.wrap (wrap32 (((rd_T33 t229 (ji13)).f1) - ((rd_T33 t229 (ji13)).f0))))))))).bind fun t265 => ((prop_Table_Of.f t262 (wrap32 (((rd_T33 t229 (ji13)).f0) + (wrap32 (Int.tmod (IntKind.u64.wrap (a2)) (IntKind.u64.wrap (wrap32 (((rd_T33 t229 (ji13)).f1) - ((rd_T33 t229 (ji13)).f0))))))))).bind fun t266 => (if t265 = t266 then ((prop_Table_Of.f t262 (wrap32 ((wrap32 (((rd_T33 t229 (ji13)).f0) + (wrap32 (Int.tmod (IntKind.u64.wrap (a2)) (IntKind.u64.wrap (wrap32 (((rd_T33 t229 (ji13)).f1) - ((rd_T33 t229 (ji13)).f0)))))))) + 1))).bind fun t267 => (if t267 = ((rd_T33 t229 (ji13)).f2) then ((prop_Table_Blocks.f t259).bind fun t268 => ((prop_Table_Blocks.f t262).bind fun t269 => (some (t268 == t269)))) else (some false))) else (some false)))) else (some false)))) = some r := H
 have A36 := zA.mk A360; clear A360; replace H := Option.bind_eq_some_iff.mp H; obtain ⟨t263, A370, H⟩ := H; replace H : ((prop_Table_Of.f t262 a3).bind fun t264 => (if t263 = t264 then ((prop_Table_Of.f t259 (wrap32 (((rd_T33 t229 (ji13)).f0) + (wrap32 (Int.tmod (IntKind.u64.wrap (a2)) (IntKind.u64.wrap (wrap32 (((rd_T33 t229 (ji13)).f1) - ((rd_T33 t229 (ji13)).f0))))))))).bind fun t265 => ((prop_Table_Of.f t262 (wrap32 (((rd_T33 t229 (ji13)).f0) + (wrap32 (Int.tmod (IntKind.u64.wrap (a2)) (IntKind.u64.wrap (wrap32 (((rd_T33 t229 (ji13)).f1) - ((rd_T33 t229 (ji13)).f0))))))))).bind fun t266 => (if t265 = t266 then ((prop_Table_Of.f t262 (wrap32 ((wrap32 (((rd_T33 t229 (ji13)).f0) + (wrap32 (Int.tmod (IntKind.u64.wrap (a2)) (IntKind.u64.wrap (wrap32 (((rd_T33 t229 (ji13)).f1) - ((rd_T33 t229 (ji13)).f0)))))))) + 1))).bind fun t267 => (if t267 = ((rd_T33 t229 (ji13)).f2) then ((prop_Table_Blocks.f t259).bind fun t268 => ((prop_Table_Blocks.f t262).bind fun t269 => (some (t268 == t269)))) else (some false))) else (some false)))) else (some false))) = some r := H
 have A37 := zA.mk A370; clear A370; replace H := Option.bind_eq_some_iff.mp H; obtain ⟨t264, A380, H⟩ := H; replace H : (if t263 = t264 then ((prop_Table_Of.f t259 (wrap32 (((rd_T33 t229 (ji13)).f0) + (wrap32 (Int.tmod (IntKind.u64.wrap (a2)) (IntKind.u64.wrap (wrap32 (((rd_T33 t229 (ji13)).f1) - ((rd_T33 t229 (ji13)).f0))))))))).bind fun t265 => ((prop_Table_Of.f t262 (wrap32 (((rd_T33 t229 (ji13)).f0) + (wrap32 (Int.tmod (IntKind.u64.wrap (a2)) (IntKind.u64.wrap (wrap32 (((rd_T33 t229 (ji13)).f1) - ((rd_T33 t229 (ji13)).f0))))))))).bind fun t266 => (if t265 = t266 then ((prop_Table_Of.f t262 (wrap32 ((wrap32 (((rd_T33 t229 (ji13)).f0) + (wrap32 (Int.tmod (IntKind.u64.wrap (a2)) (IntKind.u64.wrap (wrap32 (((rd_T33 t229 (ji13)).f1) - ((rd_T33 t229 (ji13)).f0)))))))) + 1))).bind fun t267 => (if t267 = ((rd_T33 t229 (ji13)).f2) then ((prop_Table_Blocks.f t259).bind fun t268 => ((prop_Table_Blocks.f t262).bind fun t269 => (some (t268 == t269)))) else (some false))) else (some false)))) else (some false)) = some r := H
 have A38 := zA.mk A380; clear A380; by_cases c39 : t263 = t264
 rotate_left
 ·rw [if_neg c39] at H
  have c39b0 : (t263 == t264) = false := beq_eq_false_iff_ne.mpr c39
  have c39b1 : (t263 != t264) = true := bne_iff_ne.mpr c39
  exact absurd ((Option.some.inj H).trans hrt_.out) (by decide)
 rw [if_pos c39] at H; have c39b0 : (t263 == t264) = true := beq_iff_eq.mpr c39
 have c39b1 : (t263 != t264) = false := bne_eq_false_iff_eq.mpr c39
 clear c39; replace H := Option.bind_eq_some_iff.mp H; obtain ⟨t265, A400, H⟩ := H; replace H : ((prop_Table_Of.f t262 (wrap32 (((rd_T33 t229 (ji13)).f0) + (wrap32 (Int.tmod (IntKind.u64.wrap (a2)) (IntKind.u64.wrap (wrap32 (((rd_T33 t229 (ji13)).f1) - ((rd_T33 t229 (ji13)).f0))))))))).bind fun t266 => (if t265 = t266 then ((prop_Table_Of.f t262 (wrap32 ((wrap32 (((rd_T33 t229 (ji13)).f0) + (wrap32 (Int.tmod (IntKind.u64.wrap (a2)) (IntKind.u64.wrap (wrap32 (((rd_T33 t229 (ji13)).f1) - ((rd_T33 t229 (ji13)).f0)))))))) + 1))).bind fun t267 => (if t267 = ((rd_T33 t229 (ji13)).f2) then ((prop_Table_Blocks.f t259).bind fun t268 => ((prop_Table_Blocks.f t262).bind fun t269 => (some (t268 == t269)))) else (some false))) else (some false))) = some r := H
 have A40 := zA.mk A400; clear A400; replace H := Option.bind_eq_some_iff.mp H; obtain ⟨t266, A410, H⟩ := H; replace H : (if t265 = t266 then ((prop_Table_Of.f t262 (wrap32 ((wrap32 (((rd_T33 t229 (ji13)).f0) + (wrap32 (Int.tmod (IntKind.u64.wrap (a2)) (IntKind.u64.wrap (wrap32 (((rd_T33 t229 (ji13)).f1) - ((rd_T33 t229 (ji13)).f0)))))))) + 1))).bind fun t267 => (if t267 = ((rd_T33 t229 (ji13)).f2) then ((prop_Table_Blocks.f t259).bind fun t268 => ((prop_Table_Blocks.f t262).bind fun t269 => (some (t268 == t269)))) else (some false))) else (some false)) = some r := H
 have A41 := zA.mk A410; clear A410; by_cases c42 : t265 = t266
 rotate_left
 ·rw [if_neg c42] at H
  have c42b0 : (t265 == t266) = false := beq_eq_false_iff_ne.mpr c42
  have c42b1 : (t265 != t266) = true := bne_iff_ne.mpr c42
  exact absurd ((Option.some.inj H).trans hrt_.out) (by decide)
 rw [if_pos c42] at H; have c42b0 : (t265 == t266) = true := beq_iff_eq.mpr c42
 have c42b1 : (t265 != t266) = false := bne_eq_false_iff_eq.mpr c42
 clear c42; replace H := Option.bind_eq_some_iff.mp H; obtain ⟨t267, A430, H⟩ := H; replace H : (if t267 = ((rd_T33 t229 (ji13)).f2) then ((prop_Table_Blocks.f t259).bind fun t268 => ((prop_Table_Blocks.f t262).bind fun t269 => (some (t268 == t269)))) else (some false)) = some r := H
 have A43 := zA.mk A430; clear A430; by_cases c44 : t267 = ((rd_T33 t229 (ji13)).f2)
 rotate_left
 ·rw [if_neg c44] at H
  have c44b0 : (t267 == ((rd_T33 t229 (ji13)).f2)) = false := beq_eq_false_iff_ne.mpr c44
  have c44b1 : (t267 != ((rd_T33 t229 (ji13)).f2)) = true := bne_iff_ne.mpr c44
  exact absurd ((Option.some.inj H).trans hrt_.out) (by decide)
 rw [if_pos c44] at H; have c44b0 : (t267 == ((rd_T33 t229 (ji13)).f2)) = true := beq_iff_eq.mpr c44
 have c44b1 : (t267 != ((rd_T33 t229 (ji13)).f2)) = false := bne_eq_false_iff_eq.mpr c44
 clear c44; replace H := Option.bind_eq_some_iff.mp H; obtain ⟨t268, A450, H⟩ := H; replace H : ((prop_Table_Blocks.f t262).bind fun t269 => (some (t268 == t269))) = some r := H
 have A45 := zA.mk A450; clear A450; replace H := Option.bind_eq_some_iff.mp H; obtain ⟨t269, A460, H⟩ := H; replace H : (some (t268 == t269)) = some r := H; have A46 := zA.mk A460; clear A460; obtain rfl := Option.some.inj H
 go_enter Try.func6, Try.ntmps6
 try go_wp2_with (first | ((with_reducible refine gate_callee (f := 9) rfl ?_); refine goesL_ (some 17) rfl rfl Try.func9 (by kernel_rfl) rfl #[] rfl aT ?_; (with_reducible refine (stanzalaw02_Awake.calls  true _ A5.out (by first | exact ⟨rfl⟩ | exact hrt_)).mono ?_); rintro e w47 ⟨rfl, hb⟩; refine ⟨_, rfl, ?_⟩; have n0_ := zA.mk (below_step (aL HB) hb); clear HB; have HB := n0_; clear n0_; (try clear hb); (try clear hb2); (try clear hk); (try clear hi)) | ((with_reducible refine gate_callee (f := 13) rfl ?_); refine goesL_ (some 20) rfl rfl Try.func13 (by kernel_rfl) rfl #[.slice A0 l0.length c0, .int .i64 50] rfl aT ?_; (with_reducible refine (stanzalaw02_Right.calls k _ _ l0 50 t229 _ ?side1 ?side2 A7.out).mono ?_); (case side1 => exact aA HR0 HB); (case side2 => exact HC0.out); rintro e w48 ⟨v230, rfl, ho0, hb⟩; refine ⟨_, rfl, ?_⟩; have n0_ := zA.mk (Kd.zM ho0 (below_size (aL HB))); have n1_ := zA.mk (below_step (aL HB) hb); clear HB; have HO231 := n0_; have HB := n1_; clear n0_ n1_; (try clear hb); (try clear hb2); (try clear hk); (try clear hi); (try clear ho0); obtain ⟨Ao49, co49, eo49⟩ := Kd.zL HO231.out; subst eo49; have p232 : 0 ≤ ((ji13) : Int) := aD; have q232 : (ji13) < (t229.length : Int) := aD; obtain ⟨ad232, e232, hx232_0, hx232_1, hx232_2⟩ := at_T33 (Kd.zI HO231.out).2.2 (ji13) p232 q232; cases e232; replace p232 := eq_true p232; replace q232 := eq_true q232) | ((with_reducible refine gate_dst (N := 10) rfl ?_); refine box_event ?hg (N := 10) ?hd (cs := #[.int .i32 0, .int .i32 0, .int .i64 0]) (t := 33) ?hr ?_; (case hd => rfl); (case hg => rfl); (case hr => first | (go_simp; done) | (go_simp; rfl)); intro gb233 hg w50 hbox hb; have n0_ := zA.mk (Kd.zJ (Kd.R_elderB (aR HO231) gb233 (Nat.le_of_eq hg.symm)) hb); have n1_ := zA.mk (below_step (aL HB) hb); have n2_ := zA.mk (hbox); have n3_ := zA.mk ((by rw [hg]; exact (below_size (aL HB)) : w.heap.size ≤ gb233)); have n4_ := zA.mk ((by rw [hg]; exact (below_size (aL HB)) : w.heap.size ≤ gb233)); clear HO231; clear HB; have HO231 := n0_; have HB := n1_; have BK233 := n2_; have GW233 := n3_; have GE233 := n4_; clear n0_ n1_ n2_ n3_ n4_; clear hb hbox hg; obtain ⟨hcz51_0, hcz51_1, hcz51_2, hfz51_0, hfz51_1, hfz51_2⟩ := aC3 BK233) | ((with_reducible refine gate_store (t := 33) (p := 10) rfl ?_); refine store_event (t := 33) (p := 10) (v := ?vo_w52) (w1 := (((w50.setCell ⟨gb233, 0, none⟩ (.int .i32 ((rd_T33 t229 (ji13)).f0))).setCell ⟨gb233, 1, none⟩ (.int .i32 ((rd_T33 t229 (ji13)).f1))).setCell ⟨gb233, 2, none⟩ (.int .i64 ((rd_T33 t229 (ji13)).f2)))) ?hg ?ho ?hn ?hr ?_; (case ho => rfl); (case hg => rfl); (case hn => rfl); (case hr => first | (go_simp; done) | (go_simp; rfl)); intro w52 hw; have n0_ : zA (Kd.R k33 33 w52 w.heap.size (fun k_ => k_ ≠ gb233) (.slice (some ad232) t229.length co49) t229) := ⟨(by rw [hw]; exact (by (with_reducible repeat (first | apply Kd.zB | apply Kd.zC | apply Kd.zD)); exact Kd.zN (Kd.zK (p := ⟨gb233, 2, none⟩) (Kd.zK (p := ⟨gb233, 1, none⟩) (Kd.zK (p := ⟨gb233, 0, none⟩) (Kd.zN HO231.out (fun k_ hk => (⟨hk, hk.2⟩ : _ ∧ k_ ≠ gb233))) (fun _ hk => hk.2) (.int .i32 ((rd_T33 t229 (ji13)).f0))) (fun _ hk => hk.2) (.int .i32 ((rd_T33 t229 (ji13)).f1))) (fun _ hk => hk.2) (.int .i64 ((rd_T33 t229 (ji13)).f2))) (fun _ hk => hk.1.2)))⟩; have n1_ : zA (w52.heap[gb233]? = some (.cells #[.int .i32 ((rd_T33 t229 (ji13)).f0), .int .i32 ((rd_T33 t229 (ji13)).f1), .int .i64 ((rd_T33 t229 (ji13)).f2)] 33 (0, 0))) := ⟨(by rw [hw]; exact (by (with_reducible repeat (first | refine blk_drewN ?_ _ | refine blk_drew ?_ | refine blk_alloc ?_ _)); refine blk_put (cs := #[.int .i32 ((rd_T33 t229 (ji13)).f0), .int .i32 ((rd_T33 t229 (ji13)).f1), .int .i64 0]) ?_ 2 _ rfl; (with_reducible repeat (first | refine blk_drewN ?_ _ | refine blk_drew ?_ | refine blk_alloc ?_ _)); refine blk_put (cs := #[.int .i32 ((rd_T33 t229 (ji13)).f0), .int .i32 0, .int .i64 0]) ?_ 1 _ rfl; (with_reducible repeat (first | refine blk_drewN ?_ _ | refine blk_drew ?_ | refine blk_alloc ?_ _)); refine blk_put (cs := #[.int .i32 0, .int .i32 0, .int .i64 0]) ?_ 0 _ rfl; (with_reducible repeat (first | refine blk_drewN ?_ _ | refine blk_drew ?_ | refine blk_alloc ?_ _)); exact BK233.out))⟩; have n2_ : zA (Below w.heap.size w w52) := ⟨(by rw [hw]; exact (aL HB))⟩; clear hw; clear HO231; clear BK233; clear HB; have HO231 := n0_; have BK233 := n1_; have HB := n2_; clear n0_ n1_ n2_; obtain ⟨hcz53_0, hcz53_1, hcz53_2, hfz53_0, hfz53_1, hfz53_2⟩ := aC3 BK233))
 have n0_ := zA.mk (Kd.zD HO231.out); have n1_ := zA.mk (blk_drew BK233.out); have n2_ := zA.mk (below_drew1 HB.out); clear HO231; clear BK233; clear HB; have HO231 := n0_; have BK233 := n1_; have HB := n2_; clear n0_ n1_ n2_; refine start_ (n := 14) (S := fun w' => w'.cell? ⟨gb233, 0, none⟩ = some (.int .i32 ((rd_T33 t229 (ji13)).f0)) ∧ w'.cell? ⟨gb233, 1, none⟩ = some (.int .i32 ((rd_T33 t229 (ji13)).f1)) ∧ w'.cell? ⟨gb233, 2, none⟩ = some (.int .i64 ((rd_T33 t229 (ji13)).f2))) (ds := []) #[false, false, false, false, false, false, false, false, false, false, false, false, false, false] (by kernel_rfl) rfl rfl ⟨(blk_cell BK233.out 0).trans rfl, (blk_cell BK233.out 1).trans rfl, (blk_cell BK233.out 2).trans rfl⟩ (fun hHeld => ?_); refine with_tabW stanzalaw02_PropSplits.tab10 stanzalaw02_PropSplits.bits10 (fun HT_ HW_ => ?_)
 generalize w52.drew = w54 at HO231 BK233 HB hHeld ⊢
 refine aP 0 (some 40) (tf_ 1 14) HT_ ?_
 refine aP 2 (some 42) #[true, false, true, false, false, false, false, false, false, false, false, false, false, false] HT_ ?_
 refine aP 3 (some 43) #[true, false, true, true, false, false, false, false, false, false, false, false, false, false] HT_ ?_
 refine aP 4 (some 44) #[true, false, true, true, true, false, false, false, false, false, false, false, false, false] HT_ ?_
 refine aP 6 (some 46) #[true, false, true, true, true, false, true, false, false, false, false, false, false, false] HT_ ?_
 refine take_ (i := 1) (N := some 41) (v := ?_) (a' := ?_) #[true, true, true, true, true, false, true, false, false, false, false, false, false, false] rfl rfl (take_ofW HT_.out HW_.out (by kernel_rfl)) (fun _ _ _ h => h) (Or.inl ⟨by rfl, ?_⟩) hHeld ?_ ?_
 rotate_left
 ·rintro w' ⟨s0, s1, s2⟩
  go_simp
  with_reducible rfl
 rotate_left
 ·simp only [Act.put, sA_, sB_, sC_, i64_w, i32_w]
  rfl
 refine take_ (i := 5) (N := some 45) (v := ?_) (a' := ?_) (tf_ 7 14) rfl rfl (take_ofW HT_.out HW_.out (by kernel_rfl)) (fun _ _ _ h => h) (Or.inl ⟨by rfl, ?_⟩) hHeld ?_ ?_
 rotate_left
 ·rintro w' ⟨s0, s1, s2⟩
  go_simp
  with_reducible rfl
 rotate_left
 ·simp only [Act.put, sA_, sB_, sC_, i64_w, i32_w]
  rfl
 refine take_ (i := 7) (N := some 47) (v := ?_) (a' := ?_) (tf_ 8 14) rfl rfl (take_ofW HT_.out HW_.out (by kernel_rfl)) (fun _ _ _ h => h) (Or.inl ⟨by rfl, ?_⟩) hHeld ?_ ?_
 rotate_left
 ·rintro w' ⟨s0, s1, s2⟩
  go_simp
  with_reducible rfl
 rotate_left
 ·simp only [Act.put, sA_, sB_, sC_, i64_w, i32_w]
  rfl
 refine aP 8 (some 48) (tf_ 9 14) HT_ ?_
 refine aP 9 (some 49) (tf_ 10 14) HT_ ?_
 refine aP 10 (some 50) (tf_ 11 14) HT_ ?_
 refine aP 11 (some 51) (tf_ 12 14) HT_ ?_
 refine aP 12 (some 52) (tf_ 13 14) HT_ ?_
 refine aP 13 (some 11) #[true, true, true, true, true, true, true, true, true, true, true, true, true, true] HT_ ?_
 refine done_ (done_of HT_.out (by kernel_rfl)) ?_
 try go_wp2
 have n0_ := zA.mk (Kd.zD HO231.out); have n1_ := zA.mk (blk_drew BK233.out); have n2_ := zA.mk (below_drew1 HB.out); clear HO231; clear BK233; clear HB; have HO231 := n0_; have BK233 := n1_; have HB := n2_; clear n0_ n1_ n2_; have q56 : ((ji13) : Int) ≤ ((t229.length : Int) : Int) := aD
 obtain ⟨i056, hi056, _, hsz56, _⟩ := info_parts info33; have hroom56 : t229.length ≤ co49 := (Kd.zI HO231.out).2.1
 have hC56 : Kd.C k33 _ (some ad232) t229.length t229 := (Kd.zI HO231.out).2.2
 have hcut56 := cut_to (P := Try.prog) 22 33 .i64 Try.underlying22 hi056 (some ad232) t229.length co49 (ji13) (aD) q56 hroom56; have hr56 := Kd.C_take (m := ((ji13) : Int).toNat) hC56 (by omega)
 have hy56 : y237.length = ((ji13) : Int).toNat := (by rw [Ny237.out, List.length_take]; omega)
 rw [← Ny237.out] at hr56; rw [← hy56] at hcut56; have HR240 := zA.mk hr56; have HC240 := zA.mk (show y237.length ≤ co49 from by omega)
 clear hr56 hC56 hroom56 hi056 hsz56; have KY56 := zA.mk hy56; clear hy56; have KL56 := zA.mk (show ((ji13) : Int).toNat ≤ t229.length from by omega)
 replace q56 := eq_true q56; refine start_ (n := 21) (S := fun w' => w'.cell? ⟨gb233, 0, none⟩ = some (.int .i32 ((rd_T33 t229 (ji13)).f0)) ∧ w'.cell? ⟨gb233, 1, none⟩ = some (.int .i32 ((rd_T33 t229 (ji13)).f1)) ∧ w'.cell? ⟨gb233, 2, none⟩ = some (.int .i64 ((rd_T33 t229 (ji13)).f2))) (ds := []) #[false, false, false, false, false, false, false, false, false, false, false, false, false, false, false, false, false, false, false, false, false] (by kernel_rfl) rfl rfl ⟨(blk_cell BK233.out 0).trans rfl, (blk_cell BK233.out 1).trans rfl, (blk_cell BK233.out 2).trans rfl⟩ (fun hHeld => ?_); refine with_tabW stanzalaw02_PropSplits.tab11 stanzalaw02_PropSplits.bits11 (fun HT_ HW_ => ?_)
 generalize w54.drew = w55 at HO231 BK233 HB HR240 hHeld ⊢
 refine aP 1 (some 54) #[false, true, false, false, false, false, false, false, false, false, false, false, false, false, false, false, false, false, false, false, false] HT_ ?_
 refine aP 2 (some 55) #[false, true, true, false, false, false, false, false, false, false, false, false, false, false, false, false, false, false, false, false, false] HT_ ?_
 refine aP 3 (some 56) #[false, true, true, true, false, false, false, false, false, false, false, false, false, false, false, false, false, false, false, false, false] HT_ ?_
 refine aP 5 (some 58) #[false, true, true, true, false, true, false, false, false, false, false, false, false, false, false, false, false, false, false, false, false] HT_ ?_
 refine aP 7 (some 60) #[false, true, true, true, false, true, false, true, false, false, false, false, false, false, false, false, false, false, false, false, false] HT_ ?_
 refine aP 8 (some 61) #[false, true, true, true, false, true, false, true, true, false, false, false, false, false, false, false, false, false, false, false, false] HT_ ?_
 refine aP 11 (some 64) #[false, true, true, true, false, true, false, true, true, false, false, true, false, false, false, false, false, false, false, false, false] HT_ ?_
 refine aP 12 (some 65) #[false, true, true, true, false, true, false, true, true, false, false, true, true, false, false, false, false, false, false, false, false] HT_ ?_
 refine aP 13 (some 66) #[false, true, true, true, false, true, false, true, true, false, false, true, true, true, false, false, false, false, false, false, false] HT_ ?_
 refine aP 15 (some 68) #[false, true, true, true, false, true, false, true, true, false, false, true, true, true, false, true, false, false, false, false, false] HT_ ?_
 refine take_ (i := 6) (N := some 59) (v := ?_) (a' := ?_) #[false, true, true, true, false, true, true, true, true, false, false, true, true, true, false, true, false, false, false, false, false] rfl rfl (take_ofW HT_.out HW_.out (by kernel_rfl)) (fun _ _ _ h => h) (Or.inl ⟨by rfl, ?_⟩) hHeld ?_ ?_
 rotate_left
 ·rintro w' ⟨s0, s1, s2⟩
  go_simp
  with_reducible rfl
 rotate_left
 ·simp only [Act.put, sA_, sB_, sC_, i64_w, i32_w]
  rfl
 refine take_ (i := 9) (N := some 62) (v := ?_) (a' := ?_) #[false, true, true, true, false, true, true, true, true, true, false, true, true, true, false, true, false, false, false, false, false] rfl rfl (take_ofW HT_.out HW_.out (by kernel_rfl)) (fun _ _ _ h => h) (Or.inl ⟨by rfl, ?_⟩) hHeld ?_ ?_
 rotate_left
 ·rintro w' ⟨s0, s1, s2⟩
  go_simp
  with_reducible rfl
 rotate_left
 ·simp only [Act.put, sA_, sB_, sC_, i64_w, i32_w]
  rfl
 refine aP 10 (some 63) #[false, true, true, true, false, true, true, true, true, true, true, true, true, true, false, true, false, false, false, false, false] HT_ ?_
 refine take_ (i := 14) (N := some 67) (v := ?_) (a' := ?_) #[false, true, true, true, false, true, true, true, true, true, true, true, true, true, true, true, false, false, false, false, false] rfl rfl (take_ofW HT_.out HW_.out (by kernel_rfl)) (fun _ _ _ h => h) (Or.inl ⟨by rfl, ?_⟩) hHeld ?_ ?_
 rotate_left
 ·rintro w' ⟨s0, s1, s2⟩
  go_simp
  with_reducible rfl
 rotate_left
 ·simp only [Act.put, sA_, sB_, sC_, i64_w, i32_w]
  rfl
 refine take_ (i := 16) (N := some 69) (v := ?_) (a' := ?_) #[false, true, true, true, false, true, true, true, true, true, true, true, true, true, true, true, true, false, false, false, false] rfl rfl (take_ofW HT_.out HW_.out (by kernel_rfl)) (fun _ _ _ h => h) (Or.inl ⟨by rfl, ?_⟩) hHeld ?_ ?_
 rotate_left
 ·rintro w' ⟨s0, s1, s2⟩
  go_simp
  with_reducible rfl
 rotate_left
 ·simp only [Act.put, sA_, sB_, sC_, i64_w, i32_w]
  rfl
 refine aP 17 (some 70) #[false, true, true, true, false, true, true, true, true, true, true, true, true, true, true, true, true, true, false, false, false] HT_ ?_
 refine join_ (σ := Value × Value × Value) 2 #[true, true, true, true, true, true, true, true, true, true, true, true, true, true, true, true, true, true, true, false, false] (fun s_ => [(53, s_.1), (57, s_.2.1), (71, s_.2.2)]) (fun s_ w' => (w'.cell? ⟨gb233, 0, none⟩ = some (.int .i32 ((rd_T33 t229 (ji13)).f0)) ∧ w'.cell? ⟨gb233, 1, none⟩ = some (.int .i32 ((rd_T33 t229 (ji13)).f1)) ∧ w'.cell? ⟨gb233, 2, none⟩ = some (.int .i64 ((rd_T33 t229 (ji13)).f2))) ∧ (Kd.R k33 33 w' w.heap.size (fun k_ => some k_ ≠ (s_.2.1 : Value).ownBlock ∧ some k_ ≠ (s_.2.2 : Value).ownBlock ∧ k_ ≠ gb233) (.slice (some ad232) t229.length co49) t229) ∧ (Kd.R k33 33 w' w.heap.size (fun k_ => some k_ ≠ (.slice (some ad232) t229.length co49 : Value).ownBlock ∧ some k_ ≠ (s_.2.2 : Value).ownBlock ∧ k_ ≠ gb233) s_.2.1 y241) ∧ (Kd.R k33 33 w' w.heap.size (fun k_ => some k_ ≠ (.slice (some ad232) t229.length co49 : Value).ownBlock ∧ some k_ ≠ (s_.2.1 : Value).ownBlock ∧ k_ ≠ gb233) s_.2.2 y244) ∧ (w'.heap[gb233]? = some (.cells #[.int .i32 ((rd_T33 t229 (ji13)).f0), .int .i32 ((rd_T33 t229 (ji13)).f1), .int .i64 ((rd_T33 t229 (ji13)).f2)] 33 (0, 0))) ∧ (Below w.heap.size w w')) ?_ ?_
 rotate_left
 ·intro hCont
  refine two_ (i := 0) (j := 18) (Ni := some 53) (Nj := some 71) #[true, true, true, true, false, true, true, true, true, true, true, true, true, true, true, true, true, true, false, false, false] #[false, true, true, true, false, true, true, true, true, true, true, true, true, true, true, true, true, true, true, false, false] rfl rfl rfl rfl (two_of HT_.out (by kernel_rfl)) (by decide) (by decide) (fun K hK => ?_) (fun K hK => ?_)
  ·skip
   refine Kd.R_lit_step k33 _ 33 ?hg (N := 53) ?hd (xs := ([] : List (S33))) (inner := []) (ok := fun _ => True) (okp := fun _ => True) ?hr ?hp (fun _ hk => hk) trivial (Below.refl _ _) (Nat.le_refl _) (by simp) ?_; (case hd => rfl); (case hg => rfl); (case hr => first | (go_simp; done) | (go_simp; rfl)); (case hp => exact (Reps.none _ _))
   intro v235 w57 ho58 hb hg_ hnew_
   clear hg_ hnew_; (first | rw [← Ny234.out] at ho58 | (simp only [Int.reduceToNat] at ho58; rw [← Ny234.out] at ho58))
   have n0_ := zA.mk (Kd.R_elder' (aR HO231) (Kd.R_base ho58) hb); have n1_ := zA.mk (Kd.zM (Kd.R_newB (Kd.R_new' ho58 (Kd.R_lt (aR HO231))) (g := gb233) (o := .cells #[.int .i32 ((rd_T33 t229 (ji13)).f0), .int .i32 ((rd_T33 t229 (ji13)).f1), .int .i64 ((rd_T33 t229 (ji13)).f2)] 33 (0, 0)) (aB BK233)) (below_size (aL HB))); have n2_ := zA.mk (blk_below (g := gb233) (o := .cells #[.int .i32 ((rd_T33 t229 (ji13)).f0), .int .i32 ((rd_T33 t229 (ji13)).f1), .int .i64 ((rd_T33 t229 (ji13)).f2)] 33 (0, 0)) (aB BK233) hb); have n3_ := zA.mk (Kd.zH (aH HR240) hb); have n4_ := zA.mk (below_step (aL HB) hb); clear HO231; clear BK233; clear HR240; clear HB; have HO231 := n0_; have HO236 := n1_; have BK233 := n2_; have HR240 := n3_; have HB := n4_; clear n0_ n1_ n2_ n3_ n4_; clear hb ho58; refine hK.out _ _ ⟨(blk_cell BK233.out 0).trans rfl, (blk_cell BK233.out 1).trans rfl, (blk_cell BK233.out 2).trans rfl⟩ (fun hHeld => ?_)
   clear hK K; refine norm_ (a' := ?_) ?_ ?_
   rotate_left
   ·show Act.put _ (some 53) _ = _
    simp only [Act.put, sA_, sB_, sC_, i64_w, i32_w]; rfl
   refine two_ (i := 4) (j := 18) (Ni := some 57) (Nj := some 71) #[true, true, true, true, true, true, true, true, true, true, true, true, true, true, true, true, true, true, false, false, false] #[true, true, true, true, false, true, true, true, true, true, true, true, true, true, true, true, true, true, true, false, false] rfl rfl rfl rfl (two_of HT_.out (by kernel_rfl)) (by decide) (by decide) (fun K hK => ?_) (fun K hK => ?_)
   ·skip
    refine Kd.R_append_rows_step k33 (w0 := w) w.heap.size (by rfl) (.tmp 53) (.tmp 56) 22 33 (.agg #[(.int .i32 0), (.int .i32 0), (.int .i64 0)]) 16 rfl Try.underlying22 info33 rfl (by decide) (by omega) v235 y234 y237 _ _ _ (fun k_ => some k_ ≠ (.slice (some ad232) t229.length co49 : Value).ownBlock ∧ k_ ≠ gb233) (fun _ => False) rfl rfl ?aO ?aR (fun _ _ h => h) (fun _ h => h.elim) ?aF ?aB ?aS ?aL ?_
    (case aR => exact aH HR240)
    (case aB => exact (aL HB))
    (case aF => exact (fun k_ hk => ⟨Kd.fresh' (Kd.R_lt (aR HO231)) k_ hk, Kd.freshB (g := gb233) (o := .cells #[.int .i32 ((rd_T33 t229 (ji13)).f0), .int .i32 ((rd_T33 t229 (ji13)).f1), .int .i64 ((rd_T33 t229 (ji13)).f2)] 33 (0, 0)) (aB BK233) k_ hk⟩))
    (case aO => exact (by (with_reducible repeat (first | apply Kd.zB | apply Kd.zC | apply Kd.zD)); exact Kd.zN HO236.out (fun _ hk => ⟨hk.1.2, hk.2⟩)))
    (case aS => exact (below_size (aL HB)))
    (case aL => have := LMc27.out; omega)
    intro v242 w59 ho hb hg hat
    rw [← Ny241.out] at ho; have n0_ := zA.mk (Kd.R_after (ok := (fun k_ => k_ ≠ gb233)) (aR HO231) hg hat)
    have n1_ := zA.mk (blk_grown (g := gb233) (o := .cells #[.int .i32 ((rd_T33 t229 (ji13)).f0), .int .i32 ((rd_T33 t229 (ji13)).f1), .int .i64 ((rd_T33 t229 (ji13)).f2)] 33 (0, 0)) (aB BK233) hg (Kd.R_away HO236.out (fun _ hk => hk.2)))
    have n2_ := zA.mk (hb); have n3_ := zA.mk ((show Kd.C k33 w59 (some ad232) y237.length y237 from by rw [Ny237.out]; exact Kd.C_take (m := ((ji13) : Int).toNat) ((Kd.zI (Kd.R_after (ok := (fun k_ => k_ ≠ gb233)) (aR HO231) hg hat)).2.2) KL56.out))
    have n4_ := zA.mk (ho); clear HO231; clear BK233; clear HB; clear HR240; clear HO236; have HO231 := n0_; have BK233 := n1_; have HB := n2_; have HR240 := n3_; have HO243 := n4_; clear n0_ n1_ n2_ n3_ n4_; clear ho hb hg hat; refine hK.out _ _ ⟨(blk_cell BK233.out 0).trans rfl, (blk_cell BK233.out 1).trans rfl, (blk_cell BK233.out 2).trans rfl⟩ (fun hHeld => ?_)
    clear hK K; refine norm_ (a' := ?_) ?_ ?_
    rotate_left
    ·show Act.put _ (some 57) _ = _
     simp only [Act.put, sA_, sB_, sC_, i64_w, i32_w]; rfl
    refine one_ (i := 18) (N := some 71) #[true, true, true, true, true, true, true, true, true, true, true, true, true, true, true, true, true, true, true, false, false] rfl rfl (one_of HT_.out (by kernel_rfl)) (by decide) (fun K hK => ?_)
    refine Kd.R_lit_step k33 _ 33 ?hg (N := 71) ?hd (xs := ([(⟨(rd_T33 t229 (ji13)).f0, wrap32 (((rd_T33 t229 (ji13)).f0) + (wrap32 (Int.tmod (IntKind.u64.wrap (a2)) (IntKind.u64.wrap (wrap32 (((rd_T33 t229 (ji13)).f1) - ((rd_T33 t229 (ji13)).f0))))))), (rd_T33 t229 (ji13)).f2⟩ : S33), (⟨wrap32 ((wrap32 (((rd_T33 t229 (ji13)).f0) + (wrap32 (Int.tmod (IntKind.u64.wrap (a2)) (IntKind.u64.wrap (wrap32 (((rd_T33 t229 (ji13)).f1) - ((rd_T33 t229 (ji13)).f0)))))))) + 1), (rd_T33 t229 (ji13)).f1, (rd_T33 t229 (ji13)).f2⟩ : S33)] : List (S33))) (inner := [.int .i32 ((rd_T33 t229 (ji13)).f0), .int .i32 (wrap32 (((rd_T33 t229 (ji13)).f0) + (wrap32 (Int.tmod (IntKind.u64.wrap (a2)) (IntKind.u64.wrap (wrap32 (((rd_T33 t229 (ji13)).f1) - ((rd_T33 t229 (ji13)).f0)))))))), .int .i64 ((rd_T33 t229 (ji13)).f2), .int .i32 (wrap32 ((wrap32 (((rd_T33 t229 (ji13)).f0) + (wrap32 (Int.tmod (IntKind.u64.wrap (a2)) (IntKind.u64.wrap (wrap32 (((rd_T33 t229 (ji13)).f1) - ((rd_T33 t229 (ji13)).f0)))))))) + 1)), .int .i32 ((rd_T33 t229 (ji13)).f1), .int .i64 ((rd_T33 t229 (ji13)).f2)]) (ok := fun _ => True) (okp := fun _ => True) ?hr ?hp (fun _ hk => hk) trivial (Below.refl _ _) (Nat.le_refl _) (by simp) ?_; (case hd => rfl); (case hg => rfl); (case hr => first | (go_simp; done) | (go_simp; rfl)); (case hp => exact (Reps.c3 (show Kd.M k33 _ _ _ (⟨(rd_T33 t229 (ji13)).f0, wrap32 (((rd_T33 t229 (ji13)).f0) + (wrap32 (Int.tmod (IntKind.u64.wrap (a2)) (IntKind.u64.wrap (wrap32 (((rd_T33 t229 (ji13)).f1) - ((rd_T33 t229 (ji13)).f0))))))), (rd_T33 t229 (ji13)).f2⟩ : S33) [.int .i32 ((rd_T33 t229 (ji13)).f0), .int .i32 (wrap32 (((rd_T33 t229 (ji13)).f0) + (wrap32 (Int.tmod (IntKind.u64.wrap (a2)) (IntKind.u64.wrap (wrap32 (((rd_T33 t229 (ji13)).f1) - ((rd_T33 t229 (ji13)).f0)))))))), .int .i64 ((rd_T33 t229 (ji13)).f2)] from (k33_mkM _ _ _ (⟨(rd_T33 t229 (ji13)).f0, wrap32 (((rd_T33 t229 (ji13)).f0) + (wrap32 (Int.tmod (IntKind.u64.wrap (a2)) (IntKind.u64.wrap (wrap32 (((rd_T33 t229 (ji13)).f1) - ((rd_T33 t229 (ji13)).f0))))))), (rd_T33 t229 (ji13)).f2⟩ : S33) )) (Reps.c3 (show Kd.M k33 _ _ _ (⟨wrap32 ((wrap32 (((rd_T33 t229 (ji13)).f0) + (wrap32 (Int.tmod (IntKind.u64.wrap (a2)) (IntKind.u64.wrap (wrap32 (((rd_T33 t229 (ji13)).f1) - ((rd_T33 t229 (ji13)).f0)))))))) + 1), (rd_T33 t229 (ji13)).f1, (rd_T33 t229 (ji13)).f2⟩ : S33) [.int .i32 (wrap32 ((wrap32 (((rd_T33 t229 (ji13)).f0) + (wrap32 (Int.tmod (IntKind.u64.wrap (a2)) (IntKind.u64.wrap (wrap32 (((rd_T33 t229 (ji13)).f1) - ((rd_T33 t229 (ji13)).f0)))))))) + 1)), .int .i32 ((rd_T33 t229 (ji13)).f1), .int .i64 ((rd_T33 t229 (ji13)).f2)] from (k33_mkM _ _ _ (⟨wrap32 ((wrap32 (((rd_T33 t229 (ji13)).f0) + (wrap32 (Int.tmod (IntKind.u64.wrap (a2)) (IntKind.u64.wrap (wrap32 (((rd_T33 t229 (ji13)).f1) - ((rd_T33 t229 (ji13)).f0)))))))) + 1), (rd_T33 t229 (ji13)).f1, (rd_T33 t229 (ji13)).f2⟩ : S33) )) (Reps.none _ _))))
    intro v245 w60 ho61 hb hg_ hnew_
    clear hg_ hnew_; (first | rw [← Ny244.out] at ho61 | (simp only [Int.reduceToNat] at ho61; rw [← Ny244.out] at ho61))
    have n0_ := zA.mk (Kd.R_elder' (aR HO231) (Kd.R_base ho61) hb); have n1_ := zA.mk (Kd.R_elder' (aR HO243) (Kd.R_base ho61) hb); have n2_ := zA.mk (Kd.zM (Kd.R_newB (Kd.R_new' (Kd.R_new' ho61 (Kd.R_lt (aR HO231))) (Kd.R_lt (aR HO243))) (g := gb233) (o := .cells #[.int .i32 ((rd_T33 t229 (ji13)).f0), .int .i32 ((rd_T33 t229 (ji13)).f1), .int .i64 ((rd_T33 t229 (ji13)).f2)] 33 (0, 0)) (aB BK233)) (below_size (aL HB))); have n3_ := zA.mk (blk_below (g := gb233) (o := .cells #[.int .i32 ((rd_T33 t229 (ji13)).f0), .int .i32 ((rd_T33 t229 (ji13)).f1), .int .i64 ((rd_T33 t229 (ji13)).f2)] 33 (0, 0)) (aB BK233) hb); have n4_ := zA.mk (Kd.zH (aH HR240) hb); have n5_ := zA.mk (below_step (aL HB) hb); clear HO231; clear HO243; clear BK233; clear HR240; clear HB; have HO231 := n0_; have HO243 := n1_; have HO246 := n2_; have BK233 := n3_; have HR240 := n4_; have HB := n5_; clear n0_ n1_ n2_ n3_ n4_ n5_; clear hb ho61; refine hK.out _ _ ⟨(blk_cell BK233.out 0).trans rfl, (blk_cell BK233.out 1).trans rfl, (blk_cell BK233.out 2).trans rfl⟩ (fun hHeld => ?_)
    clear hK K; refine norm_ (a' := ?_) ?_ ?_
    rotate_left
    ·show Act.put _ (some 71) _ = _
     simp only [Act.put, sA_, sB_, sC_, i64_w, i32_w]; rfl
    exact norm_ (by simp only [putAll, Act.put, sA_, sB_, sC_]) (hCont (v235, v242, v245) _ ⟨hHeld, (by (with_reducible repeat (first | apply Kd.zB | apply Kd.zC | apply Kd.zD)); exact Kd.zN HO231.out (fun _ hk => ⟨hk.1.2, ⟨hk.2, hk.1.1⟩⟩)), (by (with_reducible repeat (first | apply Kd.zB | apply Kd.zC | apply Kd.zD)); exact Kd.zN HO243.out (fun _ hk => ⟨hk.1.1, ⟨hk.2, hk.1.2⟩⟩)), (by (with_reducible repeat (first | apply Kd.zB | apply Kd.zC | apply Kd.zD)); exact Kd.zN HO246.out (fun _ hk => ⟨hk.1.1.2, ⟨hk.1.2, hk.2⟩⟩)), (aB BK233), (aL HB)⟩)
   skip
   refine Kd.R_lit_step k33 _ 33 ?hg (N := 71) ?hd (xs := ([(⟨(rd_T33 t229 (ji13)).f0, wrap32 (((rd_T33 t229 (ji13)).f0) + (wrap32 (Int.tmod (IntKind.u64.wrap (a2)) (IntKind.u64.wrap (wrap32 (((rd_T33 t229 (ji13)).f1) - ((rd_T33 t229 (ji13)).f0))))))), (rd_T33 t229 (ji13)).f2⟩ : S33), (⟨wrap32 ((wrap32 (((rd_T33 t229 (ji13)).f0) + (wrap32 (Int.tmod (IntKind.u64.wrap (a2)) (IntKind.u64.wrap (wrap32 (((rd_T33 t229 (ji13)).f1) - ((rd_T33 t229 (ji13)).f0)))))))) + 1), (rd_T33 t229 (ji13)).f1, (rd_T33 t229 (ji13)).f2⟩ : S33)] : List (S33))) (inner := [.int .i32 ((rd_T33 t229 (ji13)).f0), .int .i32 (wrap32 (((rd_T33 t229 (ji13)).f0) + (wrap32 (Int.tmod (IntKind.u64.wrap (a2)) (IntKind.u64.wrap (wrap32 (((rd_T33 t229 (ji13)).f1) - ((rd_T33 t229 (ji13)).f0)))))))), .int .i64 ((rd_T33 t229 (ji13)).f2), .int .i32 (wrap32 ((wrap32 (((rd_T33 t229 (ji13)).f0) + (wrap32 (Int.tmod (IntKind.u64.wrap (a2)) (IntKind.u64.wrap (wrap32 (((rd_T33 t229 (ji13)).f1) - ((rd_T33 t229 (ji13)).f0)))))))) + 1)), .int .i32 ((rd_T33 t229 (ji13)).f1), .int .i64 ((rd_T33 t229 (ji13)).f2)]) (ok := fun _ => True) (okp := fun _ => True) ?hr ?hp (fun _ hk => hk) trivial (Below.refl _ _) (Nat.le_refl _) (by simp) ?_; (case hd => rfl); (case hg => rfl); (case hr => first | (go_simp; done) | (go_simp; rfl)); (case hp => exact (Reps.c3 (show Kd.M k33 _ _ _ (⟨(rd_T33 t229 (ji13)).f0, wrap32 (((rd_T33 t229 (ji13)).f0) + (wrap32 (Int.tmod (IntKind.u64.wrap (a2)) (IntKind.u64.wrap (wrap32 (((rd_T33 t229 (ji13)).f1) - ((rd_T33 t229 (ji13)).f0))))))), (rd_T33 t229 (ji13)).f2⟩ : S33) [.int .i32 ((rd_T33 t229 (ji13)).f0), .int .i32 (wrap32 (((rd_T33 t229 (ji13)).f0) + (wrap32 (Int.tmod (IntKind.u64.wrap (a2)) (IntKind.u64.wrap (wrap32 (((rd_T33 t229 (ji13)).f1) - ((rd_T33 t229 (ji13)).f0)))))))), .int .i64 ((rd_T33 t229 (ji13)).f2)] from (k33_mkM _ _ _ (⟨(rd_T33 t229 (ji13)).f0, wrap32 (((rd_T33 t229 (ji13)).f0) + (wrap32 (Int.tmod (IntKind.u64.wrap (a2)) (IntKind.u64.wrap (wrap32 (((rd_T33 t229 (ji13)).f1) - ((rd_T33 t229 (ji13)).f0))))))), (rd_T33 t229 (ji13)).f2⟩ : S33) )) (Reps.c3 (show Kd.M k33 _ _ _ (⟨wrap32 ((wrap32 (((rd_T33 t229 (ji13)).f0) + (wrap32 (Int.tmod (IntKind.u64.wrap (a2)) (IntKind.u64.wrap (wrap32 (((rd_T33 t229 (ji13)).f1) - ((rd_T33 t229 (ji13)).f0)))))))) + 1), (rd_T33 t229 (ji13)).f1, (rd_T33 t229 (ji13)).f2⟩ : S33) [.int .i32 (wrap32 ((wrap32 (((rd_T33 t229 (ji13)).f0) + (wrap32 (Int.tmod (IntKind.u64.wrap (a2)) (IntKind.u64.wrap (wrap32 (((rd_T33 t229 (ji13)).f1) - ((rd_T33 t229 (ji13)).f0)))))))) + 1)), .int .i32 ((rd_T33 t229 (ji13)).f1), .int .i64 ((rd_T33 t229 (ji13)).f2)] from (k33_mkM _ _ _ (⟨wrap32 ((wrap32 (((rd_T33 t229 (ji13)).f0) + (wrap32 (Int.tmod (IntKind.u64.wrap (a2)) (IntKind.u64.wrap (wrap32 (((rd_T33 t229 (ji13)).f1) - ((rd_T33 t229 (ji13)).f0)))))))) + 1), (rd_T33 t229 (ji13)).f1, (rd_T33 t229 (ji13)).f2⟩ : S33) )) (Reps.none _ _))))
   intro v245 w59 ho60 hb hg_ hnew_
   clear hg_ hnew_; (first | rw [← Ny244.out] at ho60 | (simp only [Int.reduceToNat] at ho60; rw [← Ny244.out] at ho60))
   have n0_ := zA.mk (Kd.R_elder' (aR HO231) (Kd.R_base ho60) hb); have n1_ := zA.mk (Kd.R_elder' (aR HO236) (Kd.R_base ho60) hb); have n2_ := zA.mk (Kd.zM (Kd.R_newB (Kd.R_new' (Kd.R_new' ho60 (Kd.R_lt (aR HO231))) (Kd.R_lt (aR HO236))) (g := gb233) (o := .cells #[.int .i32 ((rd_T33 t229 (ji13)).f0), .int .i32 ((rd_T33 t229 (ji13)).f1), .int .i64 ((rd_T33 t229 (ji13)).f2)] 33 (0, 0)) (aB BK233)) (below_size (aL HB))); have n3_ := zA.mk (blk_below (g := gb233) (o := .cells #[.int .i32 ((rd_T33 t229 (ji13)).f0), .int .i32 ((rd_T33 t229 (ji13)).f1), .int .i64 ((rd_T33 t229 (ji13)).f2)] 33 (0, 0)) (aB BK233) hb); have n4_ := zA.mk (Kd.zH (aH HR240) hb); have n5_ := zA.mk (below_step (aL HB) hb); clear HO231; clear HO236; clear BK233; clear HR240; clear HB; have HO231 := n0_; have HO236 := n1_; have HO246 := n2_; have BK233 := n3_; have HR240 := n4_; have HB := n5_; clear n0_ n1_ n2_ n3_ n4_ n5_; clear hb ho60; refine hK.out _ _ ⟨(blk_cell BK233.out 0).trans rfl, (blk_cell BK233.out 1).trans rfl, (blk_cell BK233.out 2).trans rfl⟩ (fun hHeld => ?_)
   clear hK K; refine norm_ (a' := ?_) ?_ ?_
   rotate_left
   ·show Act.put _ (some 71) _ = _
    simp only [Act.put, sA_, sB_, sC_, i64_w, i32_w]; rfl
   refine one_ (i := 4) (N := some 57) #[true, true, true, true, true, true, true, true, true, true, true, true, true, true, true, true, true, true, true, false, false] rfl rfl (one_of HT_.out (by kernel_rfl)) (by decide) (fun K hK => ?_)
   refine Kd.R_append_rows_step k33 (w0 := w) w.heap.size (by rfl) (.tmp 53) (.tmp 56) 22 33 (.agg #[(.int .i32 0), (.int .i32 0), (.int .i64 0)]) 16 rfl Try.underlying22 info33 rfl (by decide) (by omega) v235 y234 y237 _ _ _ (fun k_ => some k_ ≠ (.slice (some ad232) t229.length co49 : Value).ownBlock ∧ some k_ ≠ (v245 : Value).ownBlock ∧ k_ ≠ gb233) (fun _ => False) rfl rfl ?aO ?aR (fun _ _ h => h) (fun _ h => h.elim) ?aF ?aB ?aS ?aL ?_
   (case aR => exact aH HR240)
   (case aB => exact (aL HB))
   (case aF => exact (fun k_ hk => ⟨Kd.fresh' (Kd.R_lt (aR HO231)) k_ hk, Kd.fresh' (Kd.R_lt (aR HO246)) k_ hk, Kd.freshB (g := gb233) (o := .cells #[.int .i32 ((rd_T33 t229 (ji13)).f0), .int .i32 ((rd_T33 t229 (ji13)).f1), .int .i64 ((rd_T33 t229 (ji13)).f2)] 33 (0, 0)) (aB BK233) k_ hk⟩))
   (case aO => exact (by (with_reducible repeat (first | apply Kd.zB | apply Kd.zC | apply Kd.zD)); exact Kd.zN HO236.out (fun _ hk => ⟨hk.1.1.2, ⟨hk.2, hk.1.2⟩⟩)))
   (case aS => exact (below_size (aL HB)))
   (case aL => have := LMc27.out; omega)
   intro v242 w61 ho hb hg hat
   rw [← Ny241.out] at ho; have n0_ := zA.mk (Kd.R_after (ok := (fun k_ => some k_ ≠ (v245 : Value).ownBlock ∧ k_ ≠ gb233)) (by (with_reducible repeat (first | apply Kd.zB | apply Kd.zC | apply Kd.zD)); exact Kd.zN HO231.out (fun _ hk => ⟨⟨hk.2, hk.1.1⟩, hk.1.2⟩)) hg hat)
   have n1_ := zA.mk (blk_grown (g := gb233) (o := .cells #[.int .i32 ((rd_T33 t229 (ji13)).f0), .int .i32 ((rd_T33 t229 (ji13)).f1), .int .i64 ((rd_T33 t229 (ji13)).f2)] 33 (0, 0)) (aB BK233) hg (Kd.R_away HO236.out (fun _ hk => hk.1.2)))
   have n2_ := zA.mk (Kd.R_after (ok := (fun k_ => some k_ ≠ (.slice (some ad232) t229.length co49 : Value).ownBlock ∧ k_ ≠ gb233)) (by (with_reducible repeat (first | apply Kd.zB | apply Kd.zC | apply Kd.zD)); exact Kd.zN HO246.out (fun _ hk => ⟨⟨hk.1.1.2, hk.2⟩, hk.1.2⟩)) hg hat)
   have n3_ := zA.mk (hb); have n4_ := zA.mk ((show Kd.C k33 w61 (some ad232) y237.length y237 from by rw [Ny237.out]; exact Kd.C_take (m := ((ji13) : Int).toNat) ((Kd.zI (Kd.R_after (ok := (fun k_ => some k_ ≠ (v245 : Value).ownBlock ∧ k_ ≠ gb233)) (by (with_reducible repeat (first | apply Kd.zB | apply Kd.zC | apply Kd.zD)); exact Kd.zN HO231.out (fun _ hk => ⟨⟨hk.2, hk.1.1⟩, hk.1.2⟩)) hg hat)).2.2) KL56.out))
   have n5_ := zA.mk (ho); clear HO231; clear BK233; clear HO246; clear HB; clear HR240; clear HO236; have HO231 := n0_; have BK233 := n1_; have HO246 := n2_; have HB := n3_; have HR240 := n4_; have HO243 := n5_; clear n0_ n1_ n2_ n3_ n4_ n5_; clear ho hb hg hat; refine hK.out _ _ ⟨(blk_cell BK233.out 0).trans rfl, (blk_cell BK233.out 1).trans rfl, (blk_cell BK233.out 2).trans rfl⟩ (fun hHeld => ?_)
   clear hK K; refine norm_ (a' := ?_) ?_ ?_
   rotate_left
   ·show Act.put _ (some 57) _ = _
    simp only [Act.put, sA_, sB_, sC_, i64_w, i32_w]; rfl
   exact norm_ (by simp only [putAll, Act.put, sA_, sB_, sC_]) (hCont (v235, v242, v245) _ ⟨hHeld, (by (with_reducible repeat (first | apply Kd.zB | apply Kd.zC | apply Kd.zD)); exact Kd.zN HO231.out (fun _ hk => ⟨hk.2, ⟨hk.1.1, hk.1.2⟩⟩)), (aR HO243), (by (with_reducible repeat (first | apply Kd.zB | apply Kd.zC | apply Kd.zD)); exact Kd.zN HO246.out (fun _ hk => ⟨hk.1.1, ⟨hk.2, hk.1.2⟩⟩)), (aB BK233), (aL HB)⟩)
  skip
  refine Kd.R_lit_step k33 _ 33 ?hg (N := 71) ?hd (xs := ([(⟨(rd_T33 t229 (ji13)).f0, wrap32 (((rd_T33 t229 (ji13)).f0) + (wrap32 (Int.tmod (IntKind.u64.wrap (a2)) (IntKind.u64.wrap (wrap32 (((rd_T33 t229 (ji13)).f1) - ((rd_T33 t229 (ji13)).f0))))))), (rd_T33 t229 (ji13)).f2⟩ : S33), (⟨wrap32 ((wrap32 (((rd_T33 t229 (ji13)).f0) + (wrap32 (Int.tmod (IntKind.u64.wrap (a2)) (IntKind.u64.wrap (wrap32 (((rd_T33 t229 (ji13)).f1) - ((rd_T33 t229 (ji13)).f0)))))))) + 1), (rd_T33 t229 (ji13)).f1, (rd_T33 t229 (ji13)).f2⟩ : S33)] : List (S33))) (inner := [.int .i32 ((rd_T33 t229 (ji13)).f0), .int .i32 (wrap32 (((rd_T33 t229 (ji13)).f0) + (wrap32 (Int.tmod (IntKind.u64.wrap (a2)) (IntKind.u64.wrap (wrap32 (((rd_T33 t229 (ji13)).f1) - ((rd_T33 t229 (ji13)).f0)))))))), .int .i64 ((rd_T33 t229 (ji13)).f2), .int .i32 (wrap32 ((wrap32 (((rd_T33 t229 (ji13)).f0) + (wrap32 (Int.tmod (IntKind.u64.wrap (a2)) (IntKind.u64.wrap (wrap32 (((rd_T33 t229 (ji13)).f1) - ((rd_T33 t229 (ji13)).f0)))))))) + 1)), .int .i32 ((rd_T33 t229 (ji13)).f1), .int .i64 ((rd_T33 t229 (ji13)).f2)]) (ok := fun _ => True) (okp := fun _ => True) ?hr ?hp (fun _ hk => hk) trivial (Below.refl _ _) (Nat.le_refl _) (by simp) ?_; (case hd => rfl); (case hg => rfl); (case hr => first | (go_simp; done) | (go_simp; rfl)); (case hp => exact (Reps.c3 (show Kd.M k33 _ _ _ (⟨(rd_T33 t229 (ji13)).f0, wrap32 (((rd_T33 t229 (ji13)).f0) + (wrap32 (Int.tmod (IntKind.u64.wrap (a2)) (IntKind.u64.wrap (wrap32 (((rd_T33 t229 (ji13)).f1) - ((rd_T33 t229 (ji13)).f0))))))), (rd_T33 t229 (ji13)).f2⟩ : S33) [.int .i32 ((rd_T33 t229 (ji13)).f0), .int .i32 (wrap32 (((rd_T33 t229 (ji13)).f0) + (wrap32 (Int.tmod (IntKind.u64.wrap (a2)) (IntKind.u64.wrap (wrap32 (((rd_T33 t229 (ji13)).f1) - ((rd_T33 t229 (ji13)).f0)))))))), .int .i64 ((rd_T33 t229 (ji13)).f2)] from (k33_mkM _ _ _ (⟨(rd_T33 t229 (ji13)).f0, wrap32 (((rd_T33 t229 (ji13)).f0) + (wrap32 (Int.tmod (IntKind.u64.wrap (a2)) (IntKind.u64.wrap (wrap32 (((rd_T33 t229 (ji13)).f1) - ((rd_T33 t229 (ji13)).f0))))))), (rd_T33 t229 (ji13)).f2⟩ : S33) )) (Reps.c3 (show Kd.M k33 _ _ _ (⟨wrap32 ((wrap32 (((rd_T33 t229 (ji13)).f0) + (wrap32 (Int.tmod (IntKind.u64.wrap (a2)) (IntKind.u64.wrap (wrap32 (((rd_T33 t229 (ji13)).f1) - ((rd_T33 t229 (ji13)).f0)))))))) + 1), (rd_T33 t229 (ji13)).f1, (rd_T33 t229 (ji13)).f2⟩ : S33) [.int .i32 (wrap32 ((wrap32 (((rd_T33 t229 (ji13)).f0) + (wrap32 (Int.tmod (IntKind.u64.wrap (a2)) (IntKind.u64.wrap (wrap32 (((rd_T33 t229 (ji13)).f1) - ((rd_T33 t229 (ji13)).f0)))))))) + 1)), .int .i32 ((rd_T33 t229 (ji13)).f1), .int .i64 ((rd_T33 t229 (ji13)).f2)] from (k33_mkM _ _ _ (⟨wrap32 ((wrap32 (((rd_T33 t229 (ji13)).f0) + (wrap32 (Int.tmod (IntKind.u64.wrap (a2)) (IntKind.u64.wrap (wrap32 (((rd_T33 t229 (ji13)).f1) - ((rd_T33 t229 (ji13)).f0)))))))) + 1), (rd_T33 t229 (ji13)).f1, (rd_T33 t229 (ji13)).f2⟩ : S33) )) (Reps.none _ _))))
  intro v245 w57 ho58 hb hg_ hnew_
  clear hg_ hnew_; (first | rw [← Ny244.out] at ho58 | (simp only [Int.reduceToNat] at ho58; rw [← Ny244.out] at ho58))
  have n0_ := zA.mk (Kd.R_elder' (aR HO231) (Kd.R_base ho58) hb); have n1_ := zA.mk (Kd.zM (Kd.R_newB (Kd.R_new' ho58 (Kd.R_lt (aR HO231))) (g := gb233) (o := .cells #[.int .i32 ((rd_T33 t229 (ji13)).f0), .int .i32 ((rd_T33 t229 (ji13)).f1), .int .i64 ((rd_T33 t229 (ji13)).f2)] 33 (0, 0)) (aB BK233)) (below_size (aL HB))); have n2_ := zA.mk (blk_below (g := gb233) (o := .cells #[.int .i32 ((rd_T33 t229 (ji13)).f0), .int .i32 ((rd_T33 t229 (ji13)).f1), .int .i64 ((rd_T33 t229 (ji13)).f2)] 33 (0, 0)) (aB BK233) hb); have n3_ := zA.mk (Kd.zH (aH HR240) hb); have n4_ := zA.mk (below_step (aL HB) hb); clear HO231; clear BK233; clear HR240; clear HB; have HO231 := n0_; have HO246 := n1_; have BK233 := n2_; have HR240 := n3_; have HB := n4_; clear n0_ n1_ n2_ n3_ n4_; clear hb ho58; refine hK.out _ _ ⟨(blk_cell BK233.out 0).trans rfl, (blk_cell BK233.out 1).trans rfl, (blk_cell BK233.out 2).trans rfl⟩ (fun hHeld => ?_)
  clear hK K; refine norm_ (a' := ?_) ?_ ?_
  rotate_left
  ·show Act.put _ (some 71) _ = _
   simp only [Act.put, sA_, sB_, sC_, i64_w, i32_w]; rfl
  refine one_ (i := 0) (N := some 53) #[true, true, true, true, false, true, true, true, true, true, true, true, true, true, true, true, true, true, true, false, false] rfl rfl (one_of HT_.out (by kernel_rfl)) (by decide) (fun K hK => ?_)
  refine Kd.R_lit_step k33 _ 33 ?hg (N := 53) ?hd (xs := ([] : List (S33))) (inner := []) (ok := fun _ => True) (okp := fun _ => True) ?hr ?hp (fun _ hk => hk) trivial (Below.refl _ _) (Nat.le_refl _) (by simp) ?_; (case hd => rfl); (case hg => rfl); (case hr => first | (go_simp; done) | (go_simp; rfl)); (case hp => exact (Reps.none _ _))
  intro v235 w59 ho60 hb hg_ hnew_
  clear hg_ hnew_; (first | rw [← Ny234.out] at ho60 | (simp only [Int.reduceToNat] at ho60; rw [← Ny234.out] at ho60))
  have n0_ := zA.mk (Kd.R_elder' (aR HO231) (Kd.R_base ho60) hb); have n1_ := zA.mk (Kd.R_elder' (aR HO246) (Kd.R_base ho60) hb); have n2_ := zA.mk (Kd.zM (Kd.R_newB (Kd.R_new' (Kd.R_new' ho60 (Kd.R_lt (aR HO231))) (Kd.R_lt (aR HO246))) (g := gb233) (o := .cells #[.int .i32 ((rd_T33 t229 (ji13)).f0), .int .i32 ((rd_T33 t229 (ji13)).f1), .int .i64 ((rd_T33 t229 (ji13)).f2)] 33 (0, 0)) (aB BK233)) (below_size (aL HB))); have n3_ := zA.mk (blk_below (g := gb233) (o := .cells #[.int .i32 ((rd_T33 t229 (ji13)).f0), .int .i32 ((rd_T33 t229 (ji13)).f1), .int .i64 ((rd_T33 t229 (ji13)).f2)] 33 (0, 0)) (aB BK233) hb); have n4_ := zA.mk (Kd.zH (aH HR240) hb); have n5_ := zA.mk (below_step (aL HB) hb); clear HO231; clear HO246; clear BK233; clear HR240; clear HB; have HO231 := n0_; have HO246 := n1_; have HO236 := n2_; have BK233 := n3_; have HR240 := n4_; have HB := n5_; clear n0_ n1_ n2_ n3_ n4_ n5_; clear hb ho60; refine hK.out _ _ ⟨(blk_cell BK233.out 0).trans rfl, (blk_cell BK233.out 1).trans rfl, (blk_cell BK233.out 2).trans rfl⟩ (fun hHeld => ?_)
  clear hK K; refine norm_ (a' := ?_) ?_ ?_
  rotate_left
  ·show Act.put _ (some 53) _ = _
   simp only [Act.put, sA_, sB_, sC_, i64_w, i32_w]; rfl
  refine one_ (i := 4) (N := some 57) #[true, true, true, true, true, true, true, true, true, true, true, true, true, true, true, true, true, true, true, false, false] rfl rfl (one_of HT_.out (by kernel_rfl)) (by decide) (fun K hK => ?_)
  refine Kd.R_append_rows_step k33 (w0 := w) w.heap.size (by rfl) (.tmp 53) (.tmp 56) 22 33 (.agg #[(.int .i32 0), (.int .i32 0), (.int .i64 0)]) 16 rfl Try.underlying22 info33 rfl (by decide) (by omega) v235 y234 y237 _ _ _ (fun k_ => some k_ ≠ (.slice (some ad232) t229.length co49 : Value).ownBlock ∧ some k_ ≠ (v245 : Value).ownBlock ∧ k_ ≠ gb233) (fun _ => False) rfl rfl ?aO ?aR (fun _ _ h => h) (fun _ h => h.elim) ?aF ?aB ?aS ?aL ?_
  (case aR => exact aH HR240)
  (case aB => exact (aL HB))
  (case aF => exact (fun k_ hk => ⟨Kd.fresh' (Kd.R_lt (aR HO231)) k_ hk, Kd.fresh' (Kd.R_lt (aR HO246)) k_ hk, Kd.freshB (g := gb233) (o := .cells #[.int .i32 ((rd_T33 t229 (ji13)).f0), .int .i32 ((rd_T33 t229 (ji13)).f1), .int .i64 ((rd_T33 t229 (ji13)).f2)] 33 (0, 0)) (aB BK233) k_ hk⟩))
  (case aO => exact (by (with_reducible repeat (first | apply Kd.zB | apply Kd.zC | apply Kd.zD)); exact Kd.zN HO236.out (fun _ hk => ⟨hk.1.1.2, ⟨hk.1.2, hk.2⟩⟩)))
  (case aS => exact (below_size (aL HB)))
  (case aL => have := LMc27.out; omega)
  intro v242 w61 ho hb hg hat
  rw [← Ny241.out] at ho; have n0_ := zA.mk (Kd.R_after (ok := (fun k_ => some k_ ≠ (v245 : Value).ownBlock ∧ k_ ≠ gb233)) (by (with_reducible repeat (first | apply Kd.zB | apply Kd.zC | apply Kd.zD)); exact Kd.zN HO231.out (fun _ hk => ⟨⟨hk.1.2, hk.1.1⟩, hk.2⟩)) hg hat)
  have n1_ := zA.mk (blk_grown (g := gb233) (o := .cells #[.int .i32 ((rd_T33 t229 (ji13)).f0), .int .i32 ((rd_T33 t229 (ji13)).f1), .int .i64 ((rd_T33 t229 (ji13)).f2)] 33 (0, 0)) (aB BK233) hg (Kd.R_away HO236.out (fun _ hk => hk.2)))
  have n2_ := zA.mk (Kd.R_after (ok := (fun k_ => some k_ ≠ (.slice (some ad232) t229.length co49 : Value).ownBlock ∧ k_ ≠ gb233)) (by (with_reducible repeat (first | apply Kd.zB | apply Kd.zC | apply Kd.zD)); exact Kd.zN HO246.out (fun _ hk => ⟨⟨hk.1.1.2, hk.1.2⟩, hk.2⟩)) hg hat)
  have n3_ := zA.mk (hb); have n4_ := zA.mk ((show Kd.C k33 w61 (some ad232) y237.length y237 from by rw [Ny237.out]; exact Kd.C_take (m := ((ji13) : Int).toNat) ((Kd.zI (Kd.R_after (ok := (fun k_ => some k_ ≠ (v245 : Value).ownBlock ∧ k_ ≠ gb233)) (by (with_reducible repeat (first | apply Kd.zB | apply Kd.zC | apply Kd.zD)); exact Kd.zN HO231.out (fun _ hk => ⟨⟨hk.1.2, hk.1.1⟩, hk.2⟩)) hg hat)).2.2) KL56.out))
  have n5_ := zA.mk (ho); clear HO231; clear BK233; clear HO246; clear HB; clear HR240; clear HO236; have HO231 := n0_; have BK233 := n1_; have HO246 := n2_; have HB := n3_; have HR240 := n4_; have HO243 := n5_; clear n0_ n1_ n2_ n3_ n4_ n5_; clear ho hb hg hat; refine hK.out _ _ ⟨(blk_cell BK233.out 0).trans rfl, (blk_cell BK233.out 1).trans rfl, (blk_cell BK233.out 2).trans rfl⟩ (fun hHeld => ?_)
  clear hK K; refine norm_ (a' := ?_) ?_ ?_
  rotate_left
  ·show Act.put _ (some 57) _ = _
   simp only [Act.put, sA_, sB_, sC_, i64_w, i32_w]; rfl
  exact norm_ (by simp only [putAll, Act.put, sA_, sB_, sC_]) (hCont (v235, v242, v245) _ ⟨hHeld, (by (with_reducible repeat (first | apply Kd.zB | apply Kd.zC | apply Kd.zD)); exact Kd.zN HO231.out (fun _ hk => ⟨hk.2, ⟨hk.1.1, hk.1.2⟩⟩)), (aR HO243), (by (with_reducible repeat (first | apply Kd.zB | apply Kd.zC | apply Kd.zD)); exact Kd.zN HO246.out (fun _ hk => ⟨hk.1.1, ⟨hk.2, hk.1.2⟩⟩)), (aB BK233), (aL HB)⟩)
 rintro ⟨v235, v242, v245⟩ w62 ⟨hS_, h0_, h1_, h2_, h3_, h4_⟩
 have n0_ : zA (Kd.R k33 33 w62 w.heap.size (fun k_ => some k_ ≠ (v242 : Value).ownBlock ∧ some k_ ≠ (v245 : Value).ownBlock ∧ k_ ≠ gb233) (.slice (some ad232) t229.length co49) t229) := ⟨h0_⟩
 have n1_ : zA (Kd.R k33 33 w62 w.heap.size (fun k_ => some k_ ≠ (.slice (some ad232) t229.length co49 : Value).ownBlock ∧ some k_ ≠ (v245 : Value).ownBlock ∧ k_ ≠ gb233) v242 y241) := ⟨h1_⟩
 have n2_ : zA (Kd.R k33 33 w62 w.heap.size (fun k_ => some k_ ≠ (.slice (some ad232) t229.length co49 : Value).ownBlock ∧ some k_ ≠ (v242 : Value).ownBlock ∧ k_ ≠ gb233) v245 y244) := ⟨h2_⟩
 have n3_ : zA (w62.heap[gb233]? = some (.cells #[.int .i32 ((rd_T33 t229 (ji13)).f0), .int .i32 ((rd_T33 t229 (ji13)).f1), .int .i64 ((rd_T33 t229 (ji13)).f2)] 33 (0, 0))) := ⟨h3_⟩
 have n4_ : zA (Below w.heap.size w w62) := ⟨h4_⟩
 clear HO231 BK233 HB h0_ h1_ h2_ h3_ h4_; have HO231 := n0_; have HO243 := n1_; have HO246 := n2_; have BK233 := n3_; have HB := n4_; clear n0_ n1_ n2_ n3_ n4_; have hHeld : w62.cell? ⟨gb233, 0, none⟩ = some (.int .i32 ((rd_T33 t229 (ji13)).f0)) ∧ w62.cell? ⟨gb233, 1, none⟩ = some (.int .i32 ((rd_T33 t229 (ji13)).f1)) ∧ w62.cell? ⟨gb233, 2, none⟩ = some (.int .i64 ((rd_T33 t229 (ji13)).f2)) := hS_
 obtain ⟨Ao64, co64, eo64⟩ := Kd.zL HO246.out; (first | subst eo64 | (injection eo64 with f1_ f2_ f3_; have f4_ := f1_.symm; have f5_ := f3_.symm; clear f1_ f2_ f3_; subst f4_; subst f5_))
 refine norm_ (a' := ?_) ?_ ?_
 rotate_left
 ·simp only [putAll, Act.put, sA_, sB_, sC_]
  rfl
 refine one_ (i := 19) (N := some 72) #[true, true, true, true, true, true, true, true, true, true, true, true, true, true, true, true, true, true, true, true, false] rfl rfl (one_of HT_.out (by kernel_rfl)) (by decide) (fun K hK => ?_)
 refine Kd.R_append_rows_step k33 (w0 := w) w.heap.size (by rfl) (.tmp 57) (.tmp 71) 22 33 (.agg #[(.int .i32 0), (.int .i32 0), (.int .i64 0)]) 16 rfl Try.underlying22 info33 rfl (by decide) (by omega) v242 y241 y244 _ _ _ (fun k_ => some k_ ≠ (.slice (some ad232) t229.length co49 : Value).ownBlock ∧ some k_ ≠ (.slice Ao64 y244.length co64 : Value).ownBlock ∧ k_ ≠ gb233) (fun _ => False) rfl rfl ?aO ?aR (fun _ _ h => h) (fun _ h => h.elim) ?aF ?aB ?aS ?aL ?_
 (case aR => exact aF HO246)
 (case aB => exact (aL HB))
 (case aF => exact (fun k_ hk => ⟨Kd.fresh' (Kd.R_lt (aR HO231)) k_ hk, Kd.fresh' (Kd.R_lt (aR HO246)) k_ hk, Kd.freshB (g := gb233) (o := .cells #[.int .i32 ((rd_T33 t229 (ji13)).f0), .int .i32 ((rd_T33 t229 (ji13)).f1), .int .i64 ((rd_T33 t229 (ji13)).f2)] 33 (0, 0)) (aB BK233) k_ hk⟩))
 (case aO => exact (aR HO243))
 (case aS => exact (below_size (aL HB)))
 (case aL => have := LMc28.out; omega)
 intro v248 w63 ho hb hg hat
 rw [← Ny247.out] at ho; have n0_ := zA.mk (Kd.R_after (ok := (fun k_ => some k_ ≠ (.slice Ao64 y244.length co64 : Value).ownBlock ∧ k_ ≠ gb233)) (by (with_reducible repeat (first | apply Kd.zB | apply Kd.zC | apply Kd.zD)); exact Kd.zN HO231.out (fun _ hk => ⟨⟨hk.2.1, hk.2.2⟩, hk.1⟩)) hg hat)
 have n1_ := zA.mk (blk_grown (g := gb233) (o := .cells #[.int .i32 ((rd_T33 t229 (ji13)).f0), .int .i32 ((rd_T33 t229 (ji13)).f1), .int .i64 ((rd_T33 t229 (ji13)).f2)] 33 (0, 0)) (aB BK233) hg (Kd.R_away HO243.out (fun _ hk => hk.2.2)))
 have n2_ := zA.mk (Kd.R_after (ok := (fun k_ => some k_ ≠ (.slice (some ad232) t229.length co49 : Value).ownBlock ∧ k_ ≠ gb233)) (by (with_reducible repeat (first | apply Kd.zB | apply Kd.zC | apply Kd.zD)); exact Kd.zN HO246.out (fun _ hk => ⟨⟨hk.1, hk.2.2⟩, hk.2.1⟩)) hg hat)
 have n3_ := zA.mk (hb); have n4_ := zA.mk (ho); clear HO231; clear BK233; clear HO246; clear HB; clear HO243; have HO231 := n0_; have BK233 := n1_; have HO246 := n2_; have HB := n3_; have HO249 := n4_; clear n0_ n1_ n2_ n3_ n4_; clear ho hb hg hat; refine hK.out _ _ ⟨(blk_cell BK233.out 0).trans rfl, (blk_cell BK233.out 1).trans rfl, (blk_cell BK233.out 2).trans rfl⟩ (fun hHeld => ?_)
 clear hK K; refine norm_ (a' := ?_) ?_ ?_
 rotate_left
 ·show Act.put _ (some 72) _ = _
  simp only [Act.put, sA_, sB_, sC_, i64_w, i32_w]; rfl
 refine aP 20 (some 12) #[true, true, true, true, true, true, true, true, true, true, true, true, true, true, true, true, true, true, true, true, true] HT_ ?_
 refine done_ (done_of HT_.out (by kernel_rfl)) ?_
 have q65 : ((ji29) : Int) ≤ ((t229.length : Int) : Int) := aD
 obtain ⟨i065, hi065, _, hsz65, _⟩ := info_parts info33; have hroom65 : t229.length ≤ co49 := (Kd.zI HO231.out).2.1
 have hC65 : Kd.C k33 _ (some ad232) t229.length t229 := (Kd.zI HO231.out).2.2
 have q065 : (0 : Int) ≤ ((ji29) : Int) := aD
 have hcut65 := cut_from (P := Try.prog) 22 33 .i64 Try.underlying22 hi065 3 hsz65 (some ad232) t229.length co49 (ji29) q065 q65; have hr65 := Kd.C_drop (m := ((ji29) : Int).toNat) (c := co49) hC65 (by omega) hroom65
 obtain ⟨A65, hA65⟩ : ∃ A1, A1 = (if co49 = ((ji29) : Int).toNat then (some ad232) else ((some ad232) : Option Addr).map (·.add (((ji29) : Int).toNat * 3))) := ⟨_, rfl⟩
 obtain ⟨c65, hc65⟩ : ∃ c1, c1 = co49 - ((ji29) : Int).toNat := ⟨_, rfl⟩; have hy65 : y250.length = t229.length - ((ji29) : Int).toNat := (by rw [Ny250.out, List.length_drop] <;> omega)
 rw [show (t229).drop ((ji29) : Int).toNat = y250 from Ny250.out.symm] at hr65; replace hr65 : Kd.C k33 _ A65 y250.length y250 := (by rw [hA65]; exact hr65)
 rw [← hy65, ← hA65, ← hc65] at hcut65; have HR253 := zA.mk hr65; have HC253 := zA.mk (show y250.length ≤ c65 from by rw [hy65, hc65]; exact Nat.sub_le_sub_right hroom65 _)
 clear hr65 hC65 hroom65 hi065 hsz65 hc65; have KY65 := zA.mk hy65; have KA65 := zA.mk hA65; clear hy65 hA65; have KL65 := zA.mk (show ((ji29) : Int).toNat ≤ t229.length from by omega)
 replace q65 := eq_true q65; try go_wp2_with (first | ((with_reducible refine gate_builtin (b := .append) (xs := #[.tmp 73, .tmp 77]) rfl ?_); at_builtin; refine Kd.R_append_rows k33 (w0 := w) w.heap.size rfl (.tmp 73) (.tmp 77) 22 33 (.agg #[(.int .i32 0), (.int .i32 0), (.int .i64 0)]) 16 rfl Try.underlying22 info33 rfl (by decide) (by omega) v248 y247 y250 _ _ _ (fun k_ => some k_ ≠ (.slice (some ad232) t229.length co49 : Value).ownBlock ∧ some k_ ≠ (.slice Ao64 y244.length co64 : Value).ownBlock ∧ k_ ≠ gb233) (fun _ => False) rfl rfl ?aO ?aR (fun _ _ h => h) (fun _ h => h.elim) ?aF ?aB ?aS ?aL ?_; (case aR => exact aH HR253); (case aB => exact (aL HB)); (case aF => exact (fun k_ hk => ⟨Kd.fresh' (Kd.R_lt (aR HO231)) k_ hk, Kd.fresh' (Kd.R_lt (aR HO246)) k_ hk, Kd.freshB (g := gb233) (o := .cells #[.int .i32 ((rd_T33 t229 (ji13)).f0), .int .i32 ((rd_T33 t229 (ji13)).f1), .int .i64 ((rd_T33 t229 (ji13)).f2)] 33 (0, 0)) (aB BK233) k_ hk⟩)); (case aO => exact (aR HO249)); (case aS => exact (below_size (aL HB))); (case aL => have := LMc32.out; omega); intro v255 w66 ho hb hg hat; rw [← Ny254.out] at ho; have n0_ := zA.mk (Kd.R_after (ok := (fun k_ => some k_ ≠ (.slice Ao64 y244.length co64 : Value).ownBlock ∧ k_ ≠ gb233)) (aR HO231) hg hat); have n1_ := zA.mk (blk_grown (g := gb233) (o := .cells #[.int .i32 ((rd_T33 t229 (ji13)).f0), .int .i32 ((rd_T33 t229 (ji13)).f1), .int .i64 ((rd_T33 t229 (ji13)).f2)] 33 (0, 0)) (aB BK233) hg (Kd.R_away HO249.out (fun _ hk => hk.2.2))); have n2_ := zA.mk (Kd.R_after (ok := (fun k_ => some k_ ≠ (.slice (some ad232) t229.length co49 : Value).ownBlock ∧ k_ ≠ gb233)) (aR HO246) hg hat); have n3_ := zA.mk (hb); have n4_ := zA.mk ((show Kd.C k33 w66 A65 y250.length y250 from by rw [Ny250.out, KA65.out]; exact Kd.C_drop (m := ((ji29) : Int).toNat) (c := co49) ((Kd.zI (Kd.R_after (ok := (fun k_ => some k_ ≠ (.slice Ao64 y244.length co64 : Value).ownBlock ∧ k_ ≠ gb233)) (aR HO231) hg hat)).2.2) KL65.out ((Kd.zI (Kd.R_after (ok := (fun k_ => some k_ ≠ (.slice Ao64 y244.length co64 : Value).ownBlock ∧ k_ ≠ gb233)) (aR HO231) hg hat)).2.1))); have n5_ := zA.mk (ho); clear HO231; clear BK233; clear HO246; clear HB; clear HR253; clear HO249; have HO231 := n0_; have BK233 := n1_; have HO246 := n2_; have HB := n3_; have HR253 := n4_; have HO256 := n5_; clear n0_ n1_ n2_ n3_ n4_ n5_; clear ho hb hg hat) | ((with_reducible refine gate_callee (f := 11) rfl ?_); refine goesL_ (some 81) rfl rfl Try.func11 (by kernel_rfl) rfl #[.slice (some ad232) t229.length co49, .int .i64 50] rfl aT ?_; (with_reducible refine (prop_MakeY.calls _ _ t229 50 t259 _ ?side1 ?side2 A34.out).mono ?_); (case side1 => exact aF HO231); (case side2 => exact (Kd.zI HO231.out).2.1); rintro e w67 ⟨gb258, ob258, gb259, ob259, rfl, hx1, hx2, hg1, hg2, hne, htb, hb⟩; refine ⟨_, rfl, ?_⟩; have n0_ := zA.mk (Kd.zJ (Kd.R_elderB (Kd.R_elderB (aR HO231) gb258 hg1) gb259 hg2) hb); have n1_ := zA.mk (Kd.zJ (Kd.R_elderB (Kd.R_elderB (aR HO246) gb258 hg1) gb259 hg2) hb); have n2_ := zA.mk (Kd.zJ (Kd.R_elderB (Kd.R_elderB (aR HO256) gb258 hg1) gb259 hg2) hb); have n3_ := zA.mk (blk_below (g := gb233) (o := .cells #[.int .i32 ((rd_T33 t229 (ji13)).f0), .int .i32 ((rd_T33 t229 (ji13)).f1), .int .i64 ((rd_T33 t229 (ji13)).f2)] 33 (0, 0)) (aB BK233) hb); have n4_ := zA.mk (Kd.zH (aH HR253) hb); have n5_ := zA.mk (below_step (aL HB) hb); have n6_ := zA.mk (hx1); have n7_ := zA.mk ((Nat.le_trans (below_size (aL HB)) hg1 : w.heap.size ≤ gb258)); have n8_ := zA.mk ((Nat.le_trans (below_size (aL HB)) hg1 : w.heap.size ≤ gb258)); have n9_ := zA.mk (hne); have n10_ := zA.mk ((Nat.ne_of_lt (Nat.lt_of_lt_of_le (blk_lt (g := gb233) (o := .cells #[.int .i32 ((rd_T33 t229 (ji13)).f0), .int .i32 ((rd_T33 t229 (ji13)).f1), .int .i64 ((rd_T33 t229 (ji13)).f2)] 33 (0, 0)) (aB BK233)) hg1) : gb233 ≠ gb258)); have n11_ := zA.mk ((Nat.ne_of_gt (Nat.lt_of_lt_of_le (blk_lt (g := gb233) (o := .cells #[.int .i32 ((rd_T33 t229 (ji13)).f0), .int .i32 ((rd_T33 t229 (ji13)).f1), .int .i64 ((rd_T33 t229 (ji13)).f2)] 33 (0, 0)) (aB BK233)) hg1) : gb258 ≠ gb233)); have n12_ := zA.mk (hx2); have n13_ := zA.mk ((Nat.le_trans (below_size (aL HB)) hg2 : w.heap.size ≤ gb259)); have n14_ := zA.mk ((Nat.le_trans (below_size (aL HB)) hg2 : w.heap.size ≤ gb259)); have n15_ := zA.mk (Ne.symm hne); have n16_ := zA.mk ((Nat.ne_of_lt (Nat.lt_of_lt_of_le (blk_lt (g := gb233) (o := .cells #[.int .i32 ((rd_T33 t229 (ji13)).f0), .int .i32 ((rd_T33 t229 (ji13)).f1), .int .i64 ((rd_T33 t229 (ji13)).f2)] 33 (0, 0)) (aB BK233)) hg2) : gb233 ≠ gb259)); have n17_ := zA.mk ((Nat.ne_of_gt (Nat.lt_of_lt_of_le (blk_lt (g := gb233) (o := .cells #[.int .i32 ((rd_T33 t229 (ji13)).f0), .int .i32 ((rd_T33 t229 (ji13)).f1), .int .i64 ((rd_T33 t229 (ji13)).f2)] 33 (0, 0)) (aB BK233)) hg2) : gb259 ≠ gb233)); have n18_ := zA.mk (htb); clear HO231; clear HO246; clear HO256; clear BK233; clear HR253; clear HB; have HO231 := n0_; have HO246 := n1_; have HO256 := n2_; have BK233 := n3_; have HR253 := n4_; have HB := n5_; have BK258 := n6_; have GW258 := n7_; have GE258 := n8_; have NB258_259 := n9_; have NB233_258 := n10_; have NB258_233 := n11_; have BK259 := n12_; have GW259 := n13_; have GE259 := n14_; have NB259_258 := n15_; have NB233_259 := n16_; have NB259_233 := n17_; have HTt259 := n18_; clear n0_ n1_ n2_ n3_ n4_ n5_ n6_ n7_ n8_ n9_ n10_ n11_ n12_ n13_ n14_ n15_ n16_ n17_ n18_; clear hb hx1 hx2 hg1 hg2 hne htb; obtain ⟨Ao68, co68, eo68⟩ := Kd.zL HO256.out; subst eo68) | ((with_reducible refine gate_callee (f := 11) rfl ?_); refine goesL_ (some 86) rfl rfl Try.func11 (by kernel_rfl) rfl #[.slice Ao68 y254.length co68, .int .i64 50] rfl aT ?_; (with_reducible refine (prop_MakeY.calls _ _ y254 50 t262 _ ?side1 ?side2 A36.out).mono ?_); (case side1 => exact aF HO256); (case side2 => exact (Kd.zI HO256.out).2.1); rintro e w69 ⟨gb261, ob261, gb262, ob262, rfl, hx1, hx2, hg1, hg2, hne, htb, hb⟩; refine ⟨_, rfl, ?_⟩; have n0_ := zA.mk (Kd.zJ (Kd.R_elderB (Kd.R_elderB (aR HO231) gb261 hg1) gb262 hg2) hb); have n1_ := zA.mk (Kd.zJ (Kd.R_elderB (Kd.R_elderB (aR HO246) gb261 hg1) gb262 hg2) hb); have n2_ := zA.mk (Kd.zJ (Kd.R_elderB (Kd.R_elderB (aR HO256) gb261 hg1) gb262 hg2) hb); have n3_ := zA.mk (blk_below (g := gb233) (o := .cells #[.int .i32 ((rd_T33 t229 (ji13)).f0), .int .i32 ((rd_T33 t229 (ji13)).f1), .int .i64 ((rd_T33 t229 (ji13)).f2)] 33 (0, 0)) (aB BK233) hb); have n4_ := zA.mk (Kd.zH (aH HR253) hb); have n5_ := zA.mk (blk_below (g := gb258) (o := ob258) (aB BK258) hb); have n6_ := zA.mk (blk_below (g := gb259) (o := ob259) (aB BK259) hb); have n7_ := zA.mk (below_step (aL HB) hb); have n8_ := zA.mk (hx1); have n9_ := zA.mk ((Nat.le_trans (below_size (aL HB)) hg1 : w.heap.size ≤ gb261)); have n10_ := zA.mk ((Nat.le_trans (below_size (aL HB)) hg1 : w.heap.size ≤ gb261)); have n11_ := zA.mk (hne); have n12_ := zA.mk ((Nat.ne_of_lt (Nat.lt_of_lt_of_le (blk_lt (g := gb233) (o := .cells #[.int .i32 ((rd_T33 t229 (ji13)).f0), .int .i32 ((rd_T33 t229 (ji13)).f1), .int .i64 ((rd_T33 t229 (ji13)).f2)] 33 (0, 0)) (aB BK233)) hg1) : gb233 ≠ gb261)); have n13_ := zA.mk ((Nat.ne_of_gt (Nat.lt_of_lt_of_le (blk_lt (g := gb233) (o := .cells #[.int .i32 ((rd_T33 t229 (ji13)).f0), .int .i32 ((rd_T33 t229 (ji13)).f1), .int .i64 ((rd_T33 t229 (ji13)).f2)] 33 (0, 0)) (aB BK233)) hg1) : gb261 ≠ gb233)); have n14_ := zA.mk ((Nat.ne_of_lt (Nat.lt_of_lt_of_le (blk_lt (g := gb258) (o := ob258) (aB BK258)) hg1) : gb258 ≠ gb261)); have n15_ := zA.mk ((Nat.ne_of_gt (Nat.lt_of_lt_of_le (blk_lt (g := gb258) (o := ob258) (aB BK258)) hg1) : gb261 ≠ gb258)); have n16_ := zA.mk ((Nat.ne_of_lt (Nat.lt_of_lt_of_le (blk_lt (g := gb259) (o := ob259) (aB BK259)) hg1) : gb259 ≠ gb261)); have n17_ := zA.mk ((Nat.ne_of_gt (Nat.lt_of_lt_of_le (blk_lt (g := gb259) (o := ob259) (aB BK259)) hg1) : gb261 ≠ gb259)); have n18_ := zA.mk (hx2); have n19_ := zA.mk ((Nat.le_trans (below_size (aL HB)) hg2 : w.heap.size ≤ gb262)); have n20_ := zA.mk ((Nat.le_trans (below_size (aL HB)) hg2 : w.heap.size ≤ gb262)); have n21_ := zA.mk (Ne.symm hne); have n22_ := zA.mk ((Nat.ne_of_lt (Nat.lt_of_lt_of_le (blk_lt (g := gb233) (o := .cells #[.int .i32 ((rd_T33 t229 (ji13)).f0), .int .i32 ((rd_T33 t229 (ji13)).f1), .int .i64 ((rd_T33 t229 (ji13)).f2)] 33 (0, 0)) (aB BK233)) hg2) : gb233 ≠ gb262)); have n23_ := zA.mk ((Nat.ne_of_gt (Nat.lt_of_lt_of_le (blk_lt (g := gb233) (o := .cells #[.int .i32 ((rd_T33 t229 (ji13)).f0), .int .i32 ((rd_T33 t229 (ji13)).f1), .int .i64 ((rd_T33 t229 (ji13)).f2)] 33 (0, 0)) (aB BK233)) hg2) : gb262 ≠ gb233)); have n24_ := zA.mk ((Nat.ne_of_lt (Nat.lt_of_lt_of_le (blk_lt (g := gb258) (o := ob258) (aB BK258)) hg2) : gb258 ≠ gb262)); have n25_ := zA.mk ((Nat.ne_of_gt (Nat.lt_of_lt_of_le (blk_lt (g := gb258) (o := ob258) (aB BK258)) hg2) : gb262 ≠ gb258)); have n26_ := zA.mk ((Nat.ne_of_lt (Nat.lt_of_lt_of_le (blk_lt (g := gb259) (o := ob259) (aB BK259)) hg2) : gb259 ≠ gb262)); have n27_ := zA.mk ((Nat.ne_of_gt (Nat.lt_of_lt_of_le (blk_lt (g := gb259) (o := ob259) (aB BK259)) hg2) : gb262 ≠ gb259)); have n28_ := zA.mk (htb); clear HO231; clear HO246; clear HO256; clear BK233; clear HR253; clear BK258; clear BK259; clear HB; have HO231 := n0_; have HO246 := n1_; have HO256 := n2_; have BK233 := n3_; have HR253 := n4_; have BK258 := n5_; have BK259 := n6_; have HB := n7_; have BK261 := n8_; have GW261 := n9_; have GE261 := n10_; have NB261_262 := n11_; have NB233_261 := n12_; have NB261_233 := n13_; have NB258_261 := n14_; have NB261_258 := n15_; have NB259_261 := n16_; have NB261_259 := n17_; have BK262 := n18_; have GW262 := n19_; have GE262 := n20_; have NB262_261 := n21_; have NB233_262 := n22_; have NB262_233 := n23_; have NB258_262 := n24_; have NB262_258 := n25_; have NB259_262 := n26_; have NB262_259 := n27_; have HTt262 := n28_; clear n0_ n1_ n2_ n3_ n4_ n5_ n6_ n7_ n8_ n9_ n10_ n11_ n12_ n13_ n14_ n15_ n16_ n17_ n18_ n19_ n20_ n21_ n22_ n23_ n24_ n25_ n26_ n27_ n28_; clear hb hx1 hx2 hg1 hg2 hne htb))
 have n0_ := zA.mk (Kd.zD HO231.out); have n1_ := zA.mk (Kd.zD HO246.out); have n2_ := zA.mk (Kd.zD HO256.out); have n3_ := zA.mk (blk_drew BK233.out); have n4_ := zA.mk (blk_drew BK258.out); have n5_ := zA.mk (blk_drew BK259.out); have n6_ := zA.mk (blk_drew BK261.out); have n7_ := zA.mk (blk_drew BK262.out); have n8_ := zA.mk (Kd.zG HR253.out); have n9_ := zA.mk (below_drew1 HB.out); clear HO231; clear HO246; clear HO256; clear BK233; clear BK258; clear BK259; clear BK261; clear BK262; clear HR253; clear HB; have HO231 := n0_; have HO246 := n1_; have HO256 := n2_; have BK233 := n3_; have BK258 := n4_; have BK259 := n5_; have BK261 := n6_; have BK262 := n7_; have HR253 := n8_; have HB := n9_; clear n0_ n1_ n2_ n3_ n4_ n5_ n6_ n7_ n8_ n9_; refine start_ (n := 41) (S := fun w' => w'.cell? ⟨gb233, 0, none⟩ = some (.int .i32 ((rd_T33 t229 (ji13)).f0)) ∧ w'.cell? ⟨gb233, 1, none⟩ = some (.int .i32 ((rd_T33 t229 (ji13)).f1)) ∧ w'.cell? ⟨gb233, 2, none⟩ = some (.int .i64 ((rd_T33 t229 (ji13)).f2))) (ds := []) #[false, false, false, false, false, false, false, false, false, false, false, false, false, false, false, false, false, false, false, false, false, false, false, false, false, false, false, false, false, false, false, false, false, false, false, false, false, false, false, false, false] (by kernel_rfl) rfl rfl ⟨(blk_cell BK233.out 0).trans rfl, (blk_cell BK233.out 1).trans rfl, (blk_cell BK233.out 2).trans rfl⟩ (fun hHeld => ?_); refine with_tabW stanzalaw02_PropSplits.tab15 stanzalaw02_PropSplits.bits15 (fun HT_ HW_ => ?_)
 generalize w69.drew = w70 at HO231 HO246 HO256 BK233 BK258 BK259 BK261 BK262 HR253 HB hHeld ⊢
 refine aP 0 (some 89) (tf_ 1 41) HT_ ?_
 refine aP 1 (some 90) (tf_ 2 41) HT_ ?_
 refine aP 2 (some 91) (tf_ 3 41) HT_ ?_
 refine aP 3 (some 92) (tf_ 4 41) HT_ ?_
 refine aP 4 (some 93) (tf_ 5 41) HT_ ?_
 refine aP 5 (some 94) (tf_ 6 41) HT_ ?_
 refine aP 6 (some 95) (tf_ 7 41) HT_ ?_
 refine aP 7 (some 96) (tf_ 8 41) HT_ ?_
 refine aP 8 (some 97) (tf_ 9 41) HT_ ?_
 refine aP 10 (some 99) #[true, true, true, true, true, true, true, true, true, false, true, false, false, false, false, false, false, false, false, false, false, false, false, false, false, false, false, false, false, false, false, false, false, false, false, false, false, false, false, false, false] HT_ ?_
 refine aP 11 (some 100) #[true, true, true, true, true, true, true, true, true, false, true, true, false, false, false, false, false, false, false, false, false, false, false, false, false, false, false, false, false, false, false, false, false, false, false, false, false, false, false, false, false] HT_ ?_
 refine one_ (i := 9) (N := some 98) #[true, true, true, true, true, true, true, true, true, true, true, true, false, false, false, false, false, false, false, false, false, false, false, false, false, false, false, false, false, false, false, false, false, false, false, false, false, false, false, false, false] rfl rfl (one_of HT_.out (by kernel_rfl)) (by decide) (fun K hK => ?_)
 refine goes_ Try.func14 (by kernel_rfl) rfl #[.pointer (some ⟨gb258, 0, none⟩), .int .i32 a3] (by rfl) rfl rfl aT ?_
 with_reducible refine (prop_Table_Of.calls (.pointer (some ⟨gb258, 0, none⟩)) t259 a3 t263 _ ?side1 A37.out).mono ?_
 (case side1 => exact TabO.at HTt259.out (aB BK258) (aB BK259))
 rintro e w' ⟨rfl, ⟨nd, rfl⟩⟩
 refine ⟨_, rfl, ?_⟩
 refine hK.out _ _ ⟨(blk_cell BK233.out 0).trans rfl, (blk_cell BK233.out 1).trans rfl, (blk_cell BK233.out 2).trans rfl⟩ (fun hHeld => ?_)
 clear hK K; refine norm_ (a' := ?_) ?_ ?_
 rotate_left
 ·show Act.put _ (some 98) _ = _
  simp only [Act.put, sA_, sB_, sC_, i64_w, i32_w]; rfl
 refine one_ (i := 12) (N := some 101) #[true, true, true, true, true, true, true, true, true, true, true, true, true, false, false, false, false, false, false, false, false, false, false, false, false, false, false, false, false, false, false, false, false, false, false, false, false, false, false, false, false] rfl rfl (one_of HT_.out (by kernel_rfl)) (by decide) (fun K hK => ?_)
 refine goes_ Try.func14 (by kernel_rfl) rfl #[.pointer (some ⟨gb261, 0, none⟩), .int .i32 a3] (by rfl) rfl rfl aT ?_
 with_reducible refine (prop_Table_Of.calls (.pointer (some ⟨gb261, 0, none⟩)) t262 a3 t264 _ ?side1 A38.out).mono ?_
 (case side1 => exact TabO.at HTt262.out (aB BK261) (aB BK262))
 rintro e w' ⟨rfl, ⟨nd, rfl⟩⟩
 refine ⟨_, rfl, ?_⟩
 refine hK.out _ _ ⟨(blk_cell BK233.out 0).trans rfl, (blk_cell BK233.out 1).trans rfl, (blk_cell BK233.out 2).trans rfl⟩ (fun hHeld => ?_)
 clear hK K; refine norm_ (a' := ?_) ?_ ?_
 rotate_left
 ·show Act.put _ (some 101) _ = _
  simp only [Act.put, sA_, sB_, sC_, i64_w, i32_w]; rfl
 refine aP 13 (some 102) (tf_ 14 41) HT_ ?_
 refine aP 14 (some 103) (tf_ 15 41) HT_ ?_
 refine aP 15 (some 104) (tf_ 16 41) HT_ ?_
 refine aP 16 (some 105) (tf_ 17 41) HT_ ?_
 refine aP 17 (some 106) (tf_ 18 41) HT_ ?_
 refine aP 19 (some 108) #[true, true, true, true, true, true, true, true, true, true, true, true, true, true, true, true, true, true, false, true, false, false, false, false, false, false, false, false, false, false, false, false, false, false, false, false, false, false, false, false, false] HT_ ?_
 refine aP 20 (some 109) #[true, true, true, true, true, true, true, true, true, true, true, true, true, true, true, true, true, true, false, true, true, false, false, false, false, false, false, false, false, false, false, false, false, false, false, false, false, false, false, false, false] HT_ ?_
 refine one_ (i := 18) (N := some 107) #[true, true, true, true, true, true, true, true, true, true, true, true, true, true, true, true, true, true, true, true, true, false, false, false, false, false, false, false, false, false, false, false, false, false, false, false, false, false, false, false, false] rfl rfl (one_of HT_.out (by kernel_rfl)) (by decide) (fun K hK => ?_)
 refine goes_ Try.func14 (by kernel_rfl) rfl #[.pointer (some ⟨gb258, 0, none⟩), .int .i32 (wrap32 (((rd_T33 t229 (ji13)).f0) + (wrap32 (Int.tmod (IntKind.u64.wrap (a2)) (IntKind.u64.wrap (wrap32 (((rd_T33 t229 (ji13)).f1) - ((rd_T33 t229 (ji13)).f0))))))))] (by rfl) rfl rfl (by (try simp only [List.map_toArray, List.map_cons, List.map_nil]); first | done | (simp only [hji13]; rfl) | rfl | (simp only [List.length_drop, List.length_take]; rfl)) ?_
 with_reducible refine (prop_Table_Of.calls (.pointer (some ⟨gb258, 0, none⟩)) t259 (wrap32 (((rd_T33 t229 (ji13)).f0) + (wrap32 (Int.tmod (IntKind.u64.wrap (a2)) (IntKind.u64.wrap (wrap32 (((rd_T33 t229 (ji13)).f1) - ((rd_T33 t229 (ji13)).f0)))))))) t265 _ ?side1 A40.out).mono ?_
 (case side1 => exact TabO.at HTt259.out (aB BK258) (aB BK259))
 rintro e w' ⟨rfl, ⟨nd, rfl⟩⟩
 refine ⟨_, rfl, ?_⟩
 refine hK.out _ _ ⟨(blk_cell BK233.out 0).trans rfl, (blk_cell BK233.out 1).trans rfl, (blk_cell BK233.out 2).trans rfl⟩ (fun hHeld => ?_)
 clear hK K; refine norm_ (a' := ?_) ?_ ?_
 rotate_left
 ·show Act.put _ (some 107) _ = _
  simp only [Act.put, sA_, sB_, sC_, i64_w, i32_w]; rfl
 refine one_ (i := 21) (N := some 110) #[true, true, true, true, true, true, true, true, true, true, true, true, true, true, true, true, true, true, true, true, true, true, false, false, false, false, false, false, false, false, false, false, false, false, false, false, false, false, false, false, false] rfl rfl (one_of HT_.out (by kernel_rfl)) (by decide) (fun K hK => ?_)
 refine goes_ Try.func14 (by kernel_rfl) rfl #[.pointer (some ⟨gb261, 0, none⟩), .int .i32 (wrap32 (((rd_T33 t229 (ji13)).f0) + (wrap32 (Int.tmod (IntKind.u64.wrap (a2)) (IntKind.u64.wrap (wrap32 (((rd_T33 t229 (ji13)).f1) - ((rd_T33 t229 (ji13)).f0))))))))] (by rfl) rfl rfl (by (try simp only [List.map_toArray, List.map_cons, List.map_nil]); first | done | (simp only [hji13]; rfl) | rfl | (simp only [List.length_drop, List.length_take]; rfl)) ?_
 with_reducible refine (prop_Table_Of.calls (.pointer (some ⟨gb261, 0, none⟩)) t262 (wrap32 (((rd_T33 t229 (ji13)).f0) + (wrap32 (Int.tmod (IntKind.u64.wrap (a2)) (IntKind.u64.wrap (wrap32 (((rd_T33 t229 (ji13)).f1) - ((rd_T33 t229 (ji13)).f0)))))))) t266 _ ?side1 A41.out).mono ?_
 (case side1 => exact TabO.at HTt262.out (aB BK261) (aB BK262))
 rintro e w' ⟨rfl, ⟨nd, rfl⟩⟩
 refine ⟨_, rfl, ?_⟩
 refine hK.out _ _ ⟨(blk_cell BK233.out 0).trans rfl, (blk_cell BK233.out 1).trans rfl, (blk_cell BK233.out 2).trans rfl⟩ (fun hHeld => ?_)
 clear hK K; refine norm_ (a' := ?_) ?_ ?_
 rotate_left
 ·show Act.put _ (some 110) _ = _
  simp only [Act.put, sA_, sB_, sC_, i64_w, i32_w]; rfl
 refine aP 22 (some 111) (tf_ 23 41) HT_ ?_
 refine aP 23 (some 112) (tf_ 24 41) HT_ ?_
 refine aP 24 (some 113) (tf_ 25 41) HT_ ?_
 refine aP 25 (some 114) (tf_ 26 41) HT_ ?_
 refine aP 26 (some 115) (tf_ 27 41) HT_ ?_
 refine aP 27 (some 116) (tf_ 28 41) HT_ ?_
 refine aP 29 (some 118) #[true, true, true, true, true, true, true, true, true, true, true, true, true, true, true, true, true, true, true, true, true, true, true, true, true, true, true, true, false, true, false, false, false, false, false, false, false, false, false, false, false] HT_ ?_
 refine take_ (i := 30) (N := some 119) (v := ?_) (a' := ?_) #[true, true, true, true, true, true, true, true, true, true, true, true, true, true, true, true, true, true, true, true, true, true, true, true, true, true, true, true, false, true, true, false, false, false, false, false, false, false, false, false, false] rfl rfl (take_ofW HT_.out HW_.out (by kernel_rfl)) (fun _ _ _ h => h) (Or.inl ⟨by rfl, ?_⟩) hHeld ?_ ?_
 rotate_left
 ·rintro w' ⟨s0, s1, s2⟩
  go_simp
  with_reducible rfl
 rotate_left
 ·simp only [Act.put, sA_, sB_, sC_, i64_w, i32_w]
  rfl
 refine one_ (i := 28) (N := some 117) #[true, true, true, true, true, true, true, true, true, true, true, true, true, true, true, true, true, true, true, true, true, true, true, true, true, true, true, true, true, true, true, false, false, false, false, false, false, false, false, false, false] rfl rfl (one_of HT_.out (by kernel_rfl)) (by decide) (fun K hK => ?_)
 refine goes_ Try.func14 (by kernel_rfl) rfl #[.pointer (some ⟨gb261, 0, none⟩), .int .i32 (wrap32 ((wrap32 (((rd_T33 t229 (ji13)).f0) + (wrap32 (Int.tmod (IntKind.u64.wrap (a2)) (IntKind.u64.wrap (wrap32 (((rd_T33 t229 (ji13)).f1) - ((rd_T33 t229 (ji13)).f0)))))))) + 1))] (by rfl) rfl rfl (by (try simp only [List.map_toArray, List.map_cons, List.map_nil]); first | done | (simp only [hji13]; rfl) | rfl | (simp only [List.length_drop, List.length_take]; rfl)) ?_
 with_reducible refine (prop_Table_Of.calls (.pointer (some ⟨gb261, 0, none⟩)) t262 (wrap32 ((wrap32 (((rd_T33 t229 (ji13)).f0) + (wrap32 (Int.tmod (IntKind.u64.wrap (a2)) (IntKind.u64.wrap (wrap32 (((rd_T33 t229 (ji13)).f1) - ((rd_T33 t229 (ji13)).f0)))))))) + 1)) t267 _ ?side1 A43.out).mono ?_
 (case side1 => exact TabO.at HTt262.out (aB BK261) (aB BK262))
 rintro e w' ⟨rfl, ⟨nd, rfl⟩⟩
 refine ⟨_, rfl, ?_⟩
 refine hK.out _ _ ⟨(blk_cell BK233.out 0).trans rfl, (blk_cell BK233.out 1).trans rfl, (blk_cell BK233.out 2).trans rfl⟩ (fun hHeld => ?_)
 clear hK K; refine norm_ (a' := ?_) ?_ ?_
 rotate_left
 ·show Act.put _ (some 117) _ = _
  simp only [Act.put, sA_, sB_, sC_, i64_w, i32_w]; rfl
 refine aP 31 (some 120) (tf_ 32 41) HT_ ?_
 refine aP 32 (some 121) (tf_ 33 41) HT_ ?_
 refine aP 33 (some 122) (tf_ 34 41) HT_ ?_
 refine aP 34 (some 123) (tf_ 35 41) HT_ ?_
 refine aP 36 (some 125) #[true, true, true, true, true, true, true, true, true, true, true, true, true, true, true, true, true, true, true, true, true, true, true, true, true, true, true, true, true, true, true, true, true, true, true, false, true, false, false, false, false] HT_ ?_
 refine one_ (i := 35) (N := some 124) #[true, true, true, true, true, true, true, true, true, true, true, true, true, true, true, true, true, true, true, true, true, true, true, true, true, true, true, true, true, true, true, true, true, true, true, true, true, false, false, false, false] rfl rfl (one_of HT_.out (by kernel_rfl)) (by decide) (fun K hK => ?_)
 refine goes_ Try.func16 (by kernel_rfl) rfl #[.pointer (some ⟨gb258, 0, none⟩)] (by rfl) rfl rfl aT ?_
 with_reducible refine (prop_Table_Blocks.calls (.pointer (some ⟨gb258, 0, none⟩)) t259 t268 _ ?side1 A45.out).mono ?_
 (case side1 => exact TabO.at HTt259.out (aB BK258) (aB BK259))
 rintro e w' ⟨rfl, ⟨nd, rfl⟩⟩
 refine ⟨_, rfl, ?_⟩
 refine hK.out _ _ ⟨(blk_cell BK233.out 0).trans rfl, (blk_cell BK233.out 1).trans rfl, (blk_cell BK233.out 2).trans rfl⟩ (fun hHeld => ?_)
 clear hK K; refine norm_ (a' := ?_) ?_ ?_
 rotate_left
 ·show Act.put _ (some 124) _ = _
  simp only [Act.put, sA_, sB_, sC_, i64_w, i32_w]; rfl
 refine one_ (i := 37) (N := some 126) #[true, true, true, true, true, true, true, true, true, true, true, true, true, true, true, true, true, true, true, true, true, true, true, true, true, true, true, true, true, true, true, true, true, true, true, true, true, true, false, false, false] rfl rfl (one_of HT_.out (by kernel_rfl)) (by decide) (fun K hK => ?_)
 refine goes_ Try.func16 (by kernel_rfl) rfl #[.pointer (some ⟨gb261, 0, none⟩)] (by rfl) rfl rfl aT ?_
 with_reducible refine (prop_Table_Blocks.calls (.pointer (some ⟨gb261, 0, none⟩)) t262 t269 _ ?side1 A46.out).mono ?_
 (case side1 => exact TabO.at HTt262.out (aB BK261) (aB BK262))
 rintro e w' ⟨rfl, ⟨nd, rfl⟩⟩
 refine ⟨_, rfl, ?_⟩
 refine hK.out _ _ ⟨(blk_cell BK233.out 0).trans rfl, (blk_cell BK233.out 1).trans rfl, (blk_cell BK233.out 2).trans rfl⟩ (fun hHeld => ?_)
 clear hK K; refine norm_ (a' := ?_) ?_ ?_
 rotate_left
 ·show Act.put _ (some 126) _ = _
  simp only [Act.put, sA_, sB_, sC_, i64_w, i32_w]; rfl
 refine aP 38 (some 127) (tf_ 39 41) HT_ ?_
 refine aP 39 (some 128) (tf_ 40 41) HT_ ?_
 refine aP 40 (some 8) #[true, true, true, true, true, true, true, true, true, true, true, true, true, true, true, true, true, true, true, true, true, true, true, true, true, true, true, true, true, true, true, true, true, true, true, true, true, true, true, true, true] HT_ ?_
 refine done_ (done_of HT_.out (by kernel_rfl)) ?_
 try go_wp2
 go_ret
 exact ⟨by first | rfl | (simp [errW_none, errW_some] <;> rfl) | (simp only [← hji13, ← hji29]; first | rfl | (simp [errW_none, errW_some] <;> rfl)) | (simp [*, errW_none, errW_some] <;> rfl), aL HB⟩
def stanzalaw02_PropSplits.Pure : Prop := ∀ (l0 : List (S33)) (a1 : Int) (a2 : Int) (a3 : Int), (l0.length * 16 ≤ 140737488351232 ∧ ∀ y0 ∈ l0, ((Lit.int .i32 y0.f0).wf = true ∧ ((Lit.int .i32 y0.f1).wf = true ∧ (Lit.int .i64 y0.f2).wf = true))) → (Lit.int .i64 a1).wf = true → (Lit.int .i64 a2).wf = true → (Lit.int .i32 a3).wf = true → ∃ k, stanzalaw02_PropSplits.f k l0 a1 a2 a3 = some true
def stanzaref01_Of.l0 : Nat → List (S33) → Int → Int → Option (Int)
 | 0, _, _, _ => none
 | k + 1, x0, x1, x5 => if x5 < (x0.length : Int) then (if 0 ≤ x5 then (if ((rd_T33 x0 x5).f0) ≤ x1 then (if x1 ≤ ((rd_T33 x0 x5).f1) then (some ((rd_T33 x0 x5).f2)) else (stanzaref01_Of.l0 k x0 x1 (wrap64 (x5 + 1)))) else (stanzaref01_Of.l0 k x0 x1 (wrap64 (x5 + 1)))) else (none)) else (some 0)
def stanzaref01_Of.f (k : Nat) (l0 : List (S33)) (a1 : Int) : Option (Int) := stanzaref01_Of.l0 k l0 a1 0
theorem stanzaref01_Of.mono_l : ∀ k, (∀ y0 y1 y2, LeO (stanzaref01_Of.l0 k y0 y1 y2) (stanzaref01_Of.l0 (k + 1) y0 y1 y2))
 | 0 => fun _ _ _ r h => by simp [stanzaref01_Of.l0] at h
 | k + 1 => by
  have ih0 := stanzaref01_Of.mono_l k
  ·intro y0 y1 y2
   unfold stanzaref01_Of.l0
   repeat' (with_reducible first | exact ih0 _ _ _ | exact LeO.refl _ | exact LeO.none _ | refine LeO.ite ?_ ?_ | refine LeO.bind ?_ (fun _ => ?_))
theorem stanzaref01_Of.mono : ∀ a0 a1 k, LeO (stanzaref01_Of.f k a0 a1) (stanzaref01_Of.f (k + 1) a0 a1) := by
 intro a0 a1 k
 have ih0 := stanzaref01_Of.mono_l k; unfold stanzaref01_Of.f
 repeat' (with_reducible first | exact ih0 _ _ _ | exact LeO.refl _ | exact LeO.none _ | refine LeO.ite ?_ ?_ | refine LeO.bind ?_ (fun _ => ?_))
set_option maxHeartbeats 8000000 in
set_option maxRecDepth 100000 in
theorem stanzaref01_Of.calls (k : Nat) (A0 : Option Addr) (c0 : Nat) (l0 : List (S33)) (a1 : Int) (r : Int) (w : World) (hr0 : Kd.C k33 w A0 l0.length l0) (hc0 : l0.length ≤ c0) (h : stanzaref01_Of.f k l0 a1 = some r) :
  Calls Try.prog 15 #[.slice A0 l0.length c0, .int .i32 a1] w fun e w' => e = .returned (.int .i64 r) ∧ Drawn0 w w' := by
 have HR0 := zA.mk hr0; have HC0 := zA.mk hc0; clear hr0 hc0; have H : (stanzaref01_Of.l0 k l0 a1 0) = some r := h
 clear h; have H' := zA.mk H
 clear H; go_enter Try.func15, Try.ntmps15
 go_wp2
 go_loopg [5] k (fun kq v5 w' => ∃ (x5_1 : Int), v5 = .int .i64 x5_1 ∧ zA (stanzaref01_Of.l0 kq l0 a1 x5_1 = some r) ∧ zA (kq ≤ k) ∧ Drawn0 w w')
 case atStart => exact ⟨(0), aZ, H', ⟨Nat.le_refl _⟩, by repeat (first | exact Drawn0.refl _ | apply Drawn0.step)⟩
 clear H'; obtain ⟨x5_1, rfl, HA, HK1, ⟨m1, rfl⟩⟩ := hrel; cases gk with
 | zero => exact absurd HA.out (by simp [stanzaref01_Of.l0])
 | succ k1 =>
  have H := HA.out; clear HA; simp only [stanzaref01_Of.l0] at H; by_cases c3 : x5_1 < (l0.length : Int)
  rotate_left
  ·rw [if_neg c3] at H
   have c3b0 : decide (x5_1 < (l0.length : Int)) = false := decide_eq_false c3
   clear c3; obtain rfl := Option.some.inj H
   go_wp2
   go_ret
   exact ⟨by first | rfl | (simp; done) | (simp [*]; done), by repeat (first | exact Drawn0.refl _ | apply Drawn0.step)⟩
  rw [if_pos c3] at H; have c3b0 : decide (x5_1 < (l0.length : Int)) = true := decide_eq_true c3
  clear c3; by_cases c4 : 0 ≤ x5_1
  rotate_left
  ·rw [if_neg c4] at H
   exact absurd H (by simp)
  rw [if_pos c4] at H; have c4b0 : decide (0 ≤ x5_1) = true := decide_eq_true c4
  clear c4; by_cases c5 : ((rd_T33 l0 x5_1).f0) ≤ a1
  rotate_left
  ·rw [if_neg c5] at H
   have c5b0 : decide (((rd_T33 l0 x5_1).f0) ≤ a1) = false := decide_eq_false c5
   clear c5; have H' := zA.mk H
   clear H; have p126 : 0 ≤ (x5_1 : Int) := aD
   have q126 : x5_1 < (l0.length : Int) := aD
   obtain ⟨ad126, e126, hx126_0, hx126_1, hx126_2⟩ := at_T33 HR0.out x5_1 p126 q126; cases e126
   replace p126 := eq_true p126; replace q126 := eq_true q126; go_wp2
   go_roundg k1
   case measure => have := HK1.out; omega
   case rel => exact ⟨(wrap64 (x5_1 + 1)), aZ, H', ⟨by have := HK1.out; omega⟩, by repeat (first | exact Drawn0.refl _ | apply Drawn0.step)⟩
  rw [if_pos c5] at H; have c5b0 : decide (((rd_T33 l0 x5_1).f0) ≤ a1) = true := decide_eq_true c5
  clear c5; by_cases c6 : a1 ≤ ((rd_T33 l0 x5_1).f1)
  rotate_left
  ·rw [if_neg c6] at H
   have c6b0 : decide (a1 ≤ ((rd_T33 l0 x5_1).f1)) = false := decide_eq_false c6
   clear c6; have H' := zA.mk H
   clear H; have p126 : 0 ≤ (x5_1 : Int) := aD
   have q126 : x5_1 < (l0.length : Int) := aD
   obtain ⟨ad126, e126, hx126_0, hx126_1, hx126_2⟩ := at_T33 HR0.out x5_1 p126 q126; cases e126
   replace p126 := eq_true p126; replace q126 := eq_true q126; have p127 : 0 ≤ (x5_1 : Int) := aD
   have q127 : x5_1 < (l0.length : Int) := aD
   obtain ⟨ad127, e127, hx127_0, hx127_1, hx127_2⟩ := at_T33 HR0.out x5_1 p127 q127; obtain rfl : ad126 = ad127 := (by injection e127)
   replace p127 := eq_true p127; replace q127 := eq_true q127; go_wp2
   go_roundg k1
   case measure => have := HK1.out; omega
   case rel => exact ⟨(wrap64 (x5_1 + 1)), aZ, H', ⟨by have := HK1.out; omega⟩, by repeat (first | exact Drawn0.refl _ | apply Drawn0.step)⟩
  rw [if_pos c6] at H; have c6b0 : decide (a1 ≤ ((rd_T33 l0 x5_1).f1)) = true := decide_eq_true c6
  clear c6; obtain rfl := Option.some.inj H
  have p126 : 0 ≤ (x5_1 : Int) := aD
  have q126 : x5_1 < (l0.length : Int) := aD
  obtain ⟨ad126, e126, hx126_0, hx126_1, hx126_2⟩ := at_T33 HR0.out x5_1 p126 q126; cases e126
  replace p126 := eq_true p126; replace q126 := eq_true q126; have p127 : 0 ≤ (x5_1 : Int) := aD
  have q127 : x5_1 < (l0.length : Int) := aD
  obtain ⟨ad127, e127, hx127_0, hx127_1, hx127_2⟩ := at_T33 HR0.out x5_1 p127 q127; obtain rfl : ad126 = ad127 := (by injection e127)
  replace p127 := eq_true p127; replace q127 := eq_true q127; have p128 : 0 ≤ (x5_1 : Int) := aD
  have q128 : x5_1 < (l0.length : Int) := aD
  obtain ⟨ad128, e128, hx128_0, hx128_1, hx128_2⟩ := at_T33 HR0.out x5_1 p128 q128; obtain rfl : ad126 = ad128 := (by injection e128)
  replace p128 := eq_true p128; replace q128 := eq_true q128; go_wp2
  go_ret
  exact ⟨by first | rfl | (simp; done) | (simp [*]; done), by repeat (first | exact Drawn0.refl _ | apply Drawn0.step)⟩
end Go.Proofs.Ytcgbndojpcaboaa.F
end
