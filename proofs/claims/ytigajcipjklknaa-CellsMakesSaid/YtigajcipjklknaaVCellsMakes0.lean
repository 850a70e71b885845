/- Printed by a program: Lean functions that answer as the Go functions do, and the proofs of it. -/
import Derived.Test.YtigajcipjklknaaProg
import Derived.Below
import Derived.Deep.Draws
import Derived.Deep.AppendLies
import Derived.Maps.AppendAt
import Derived.OwnWalk
import Derived.Laws.BytesArg
import Derived.Laws.MakeOwn
import Derived.Laws.OwnMore
import Derived.Deep.OwnRows
import Derived.Tactics
import Derived.Lib.ConvBytes
import Derived.Laws.Slices
import Derived.WalkKit
import Derived.KernelRfl
import Derived.RowKit3
import Derived.Deep.LoopGhost
import Derived.Deep.QuietTactic
import Derived.BigQuiet
import Derived.WideLaws
import Derived.Deep.DeepCutAuto
import Derived.Deep.CutBlock
import Derived.Deep.RegionHeld3
import Derived.Laws.Rows
import Derived.Lib.AppendStr
import Derived.ArgAppend
import Derived.Laws.IdiomCopy
import Derived.OrdersHeld
import Derived.Laws.BitsLemmas
import Derived.RowKit
import Derived.Laws.FloatArith
import Derived.Laws.CopyOwn
import Derived.Deep.RegionLaw
import Derived.Laws.MathBits
import Derived.Test.YtigajcipjklknaaXCellsMakes0
section
namespace Go.Proofs.Ytigajcipjklknaa.F
open Go.RowKit Go.Proofs.YtigajcipjklknaaW.PrintWords Go.Proofs.YtigajcipjklknaaW.PrintLast Go.Proofs.YtigajcipjklknaaW.PrintMore
attribute [local go_sem] max2_int min2_int max_two min_two max_three min_three max_four min_four   -- for this text's walks alone
set_option linter.unusedVariables false
set_option linter.unusedSimpArgs false
def errW : Option Int → Value
 | none => .nilIface
 | some c => .iface 0 (.int .i64 c)
theorem errW_none : errW none = .nilIface := rfl
theorem errW_some (c : Int) : errW (some c) = .iface 0 (.int .i64 c) := rfl
theorem info3 : (Try.prog.info? 3).map (fun i => (i.zero, i.size, i.bytes)) = some (some (.int .i64 0), 1, 8) := by kernel_rfl
theorem info5 : (Try.prog.info? 5).map (fun i => (i.zero, i.size, i.bytes)) = some (some (.int .u8 0), 1, 1) := by kernel_rfl
theorem info9 : (Try.prog.info? 9).map (fun i => (i.zero, i.size, i.bytes)) = some (some (.string ⟨#[]⟩), 1, 16) := by kernel_rfl
theorem info21 : (Try.prog.info? 21).map (fun i => (i.zero, i.size, i.bytes)) = some (some (.int .i32 0), 1, 4) := by kernel_rfl
theorem info22 : (Try.prog.info? 22).map (fun i => (i.zero, i.size, i.bytes)) = some (some (.slice none 0 0), 1, 24) := by kernel_rfl
theorem info45 : (Try.prog.info? 45).map (fun i => (i.zero, i.size, i.bytes)) = some (some (.agg #[(.int .i32 0), (.int .i32 0), (.int .i64 0)]), 3, 16) := by kernel_rfl
theorem info48 : (Try.prog.info? 48).map (fun i => (i.zero, i.size, i.bytes)) = some (some (.agg #[(.int .i64 0), (.int .i64 0), (.int .i64 0), (.int .u8 0)]), 4, 32) := by kernel_rfl
theorem info50 : (Try.prog.info? 50).map (fun i => (i.zero, i.size, i.bytes)) = some (some (.agg #[(.int .i32 0), (.int .i64 0), (.int .i64 0)]), 3, 24) := by kernel_rfl
theorem info53 : (Try.prog.info? 53).map (fun i => (i.zero, i.size, i.bytes)) = some (some (.int .u8 0), 1, 1) := by kernel_rfl
structure S45 where
 f0 : Int
 f1 : Int
 f2 : Int
def z45 : S45 := ⟨(0 : Int), (0 : Int), (0 : Int)⟩
def k45 : Kd S45 := Kd.iso (Kd.pair (Kd.int .i32) (Kd.pair (Kd.int .i32) (Kd.int .i64))) (fun x : S45 => (x.f0, x.f1, x.f2))
theorem k45_open {w : World} {x : S45} {cs : List Value} (h : k45.K w x cs) : cs = [.int .i32 x.f0, .int .i32 x.f1, .int .i64 x.f2] := by
 obtain ⟨_, _, rfl, rfl, ⟨_, _, rfl, rfl, rfl⟩⟩ := h; exact rfl
theorem k45_openM {w : World} {base : Nat} {ok : Nat → Prop} {x : S45} {cs : List Value} (h : k45.M w base ok x cs) : cs = [.int .i32 x.f0, .int .i32 x.f1, .int .i64 x.f2] := by
 obtain ⟨_, _, rfl, rfl, ⟨_, _, rfl, rfl, rfl⟩⟩ := h; exact rfl
theorem k45_mk (w : World) (x : S45)  : k45.K w x [.int .i32 x.f0, .int .i32 x.f1, .int .i64 x.f2] := ⟨[.int .i32 x.f0], [.int .i32 x.f1, .int .i64 x.f2], rfl, rfl, ⟨[.int .i32 x.f1], [.int .i64 x.f2], rfl, rfl, rfl⟩⟩
theorem k45_mkM (w : World) (base : Nat) (ok : Nat → Prop) (x : S45)  : k45.M w base ok x [.int .i32 x.f0, .int .i32 x.f1, .int .i64 x.f2] := ⟨[.int .i32 x.f0], [.int .i32 x.f1, .int .i64 x.f2], rfl, rfl, ⟨[.int .i32 x.f1], [.int .i64 x.f2], rfl, rfl, rfl⟩⟩
theorem k45_mkF (W : World) (ok : Nat → Prop) (x : S45) : Kd.FK k45 W ok x [.int .i32 x.f0, .int .i32 x.f1, .int .i64 x.f2] := fun W2 _ => k45_mk W2 x
def rd_T45 (xs : List S45) (i : Int) : S45 := xs.getD i.toNat z45
theorem at_T45 {w : World} {A : Option Addr} {n : Nat} {xs : List S45} (h : Kd.C k45 w A n xs) (i : Int) (h0 : 0 ≤ i) (h1 : i < n) : ∃ ad , A = some ad ∧ w.cell? (ad.add (i.toNat * 3)) = some (.int .i32 (rd_T45 xs i).f0) ∧ w.cell? ⟨(ad.add (i.toNat * 3)).block, (ad.add (i.toNat * 3)).off + 1, none⟩ = some (.int .i32 (rd_T45 xs i).f1) ∧ w.cell? ⟨(ad.add (i.toNat * 3)).block, (ad.add (i.toNat * 3)).off + 2, none⟩ = some (.int .i64 (rd_T45 xs i).f2) := by
 obtain ⟨ad, c, e, _, hK, hc0⟩ := Kd.C_get h z45 i h0 h1; have hc : ∀ j u, c[j]? = some u → w.cell? (ad.add (i.toNat * 3 + j)) = some u := hc0
 obtain rfl := k45_open hK
 exact ⟨ad, e, hc 0 _ rfl, by rw [← add_field _ _ 1 (by omega)]; exact hc 1 _ rfl, by rw [← add_field _ _ 2 (by omega)]; exact hc 2 _ rfl⟩
def rd_L3 (xs : List (List S45)) (i : Int) : (List S45) := xs.getD i.toNat ([] : List S45)
theorem at_L3 {w : World} {A : Option Addr} {n : Nat} {xs : List (List S45)} (h : Kd.C (Kd.slice 45 k45) w A n xs) (i : Int) (h0 : 0 ≤ i) (h1 : i < n) : ∃ ad A0 c0, A = some ad ∧ w.cell? (ad.add i.toNat) = some (.slice A0 (rd_L3 xs i).length c0) ∧ (rd_L3 xs i).length ≤ c0 ∧ k45.C w A0 (rd_L3 xs i).length (rd_L3 xs i) := by
 obtain ⟨ad, c, e, _, hK, hc0⟩ := Kd.C_get h ([] : List S45) i h0 h1; have hc : ∀ j u, c[j]? = some u → w.cell? (ad.add (i.toNat * 1 + j)) = some u := hc0
 obtain ⟨A0, c0, rfl, l0, g0⟩ := hK; exact ⟨ad, A0, c0, e, by have hq := hc 0 _ rfl; rwa [Nat.mul_one, Nat.add_zero] at hq, l0, g0⟩
structure S50 where
 f0 : Int
 f1 : Int
 f2 : Int
def z50 : S50 := ⟨(0 : Int), (0 : Int), (0 : Int)⟩
def k50 : Kd S50 := Kd.iso (Kd.pair (Kd.int .i32) (Kd.pair (Kd.int .i64) (Kd.int .i64))) (fun x : S50 => (x.f0, x.f1, x.f2))
theorem k50_open {w : World} {x : S50} {cs : List Value} (h : k50.K w x cs) : cs = [.int .i32 x.f0, .int .i64 x.f1, .int .i64 x.f2] := by
 obtain ⟨_, _, rfl, rfl, ⟨_, _, rfl, rfl, rfl⟩⟩ := h; exact rfl
theorem k50_openM {w : World} {base : Nat} {ok : Nat → Prop} {x : S50} {cs : List Value} (h : k50.M w base ok x cs) : cs = [.int .i32 x.f0, .int .i64 x.f1, .int .i64 x.f2] := by
 obtain ⟨_, _, rfl, rfl, ⟨_, _, rfl, rfl, rfl⟩⟩ := h; exact rfl
theorem k50_mk (w : World) (x : S50)  : k50.K w x [.int .i32 x.f0, .int .i64 x.f1, .int .i64 x.f2] := ⟨[.int .i32 x.f0], [.int .i64 x.f1, .int .i64 x.f2], rfl, rfl, ⟨[.int .i64 x.f1], [.int .i64 x.f2], rfl, rfl, rfl⟩⟩
theorem k50_mkM (w : World) (base : Nat) (ok : Nat → Prop) (x : S50)  : k50.M w base ok x [.int .i32 x.f0, .int .i64 x.f1, .int .i64 x.f2] := ⟨[.int .i32 x.f0], [.int .i64 x.f1, .int .i64 x.f2], rfl, rfl, ⟨[.int .i64 x.f1], [.int .i64 x.f2], rfl, rfl, rfl⟩⟩
theorem k50_mkF (W : World) (ok : Nat → Prop) (x : S50) : Kd.FK k50 W ok x [.int .i32 x.f0, .int .i64 x.f1, .int .i64 x.f2] := fun W2 _ => k50_mk W2 x
def rd_T50 (xs : List S50) (i : Int) : S50 := xs.getD i.toNat z50
theorem at_T50 {w : World} {A : Option Addr} {n : Nat} {xs : List S50} (h : Kd.C k50 w A n xs) (i : Int) (h0 : 0 ≤ i) (h1 : i < n) : ∃ ad , A = some ad ∧ w.cell? (ad.add (i.toNat * 3)) = some (.int .i32 (rd_T50 xs i).f0) ∧ w.cell? ⟨(ad.add (i.toNat * 3)).block, (ad.add (i.toNat * 3)).off + 1, none⟩ = some (.int .i64 (rd_T50 xs i).f1) ∧ w.cell? ⟨(ad.add (i.toNat * 3)).block, (ad.add (i.toNat * 3)).off + 2, none⟩ = some (.int .i64 (rd_T50 xs i).f2) := by
 obtain ⟨ad, c, e, _, hK, hc0⟩ := Kd.C_get h z50 i h0 h1; have hc : ∀ j u, c[j]? = some u → w.cell? (ad.add (i.toNat * 3 + j)) = some u := hc0
 obtain rfl := k50_open hK
 exact ⟨ad, e, hc 0 _ rfl, by rw [← add_field _ _ 1 (by omega)]; exact hc 1 _ rfl, by rw [← add_field _ _ 2 (by omega)]; exact hc 2 _ rfl⟩
structure S48 where
 f0 : Int
 f1 : Int
 f2 : Int
 f3 : Int
def z48 : S48 := ⟨(0 : Int), (0 : Int), (0 : Int), (0 : Int)⟩
def k48 : Kd S48 := Kd.iso (Kd.pair (Kd.int .i64) (Kd.pair (Kd.int .i64) (Kd.pair (Kd.int .i64) (Kd.int .u8)))) (fun x : S48 => (x.f0, x.f1, x.f2, x.f3))
theorem k48_open {w : World} {x : S48} {cs : List Value} (h : k48.K w x cs) : cs = [.int .i64 x.f0, .int .i64 x.f1, .int .i64 x.f2, .int .u8 x.f3] := by
 obtain ⟨_, _, rfl, rfl, ⟨_, _, rfl, rfl, ⟨_, _, rfl, rfl, rfl⟩⟩⟩ := h; exact rfl
theorem k48_openM {w : World} {base : Nat} {ok : Nat → Prop} {x : S48} {cs : List Value} (h : k48.M w base ok x cs) : cs = [.int .i64 x.f0, .int .i64 x.f1, .int .i64 x.f2, .int .u8 x.f3] := by
 obtain ⟨_, _, rfl, rfl, ⟨_, _, rfl, rfl, ⟨_, _, rfl, rfl, rfl⟩⟩⟩ := h; exact rfl
theorem k48_mk (w : World) (x : S48)  : k48.K w x [.int .i64 x.f0, .int .i64 x.f1, .int .i64 x.f2, .int .u8 x.f3] := ⟨[.int .i64 x.f0], [.int .i64 x.f1, .int .i64 x.f2, .int .u8 x.f3], rfl, rfl, ⟨[.int .i64 x.f1], [.int .i64 x.f2, .int .u8 x.f3], rfl, rfl, ⟨[.int .i64 x.f2], [.int .u8 x.f3], rfl, rfl, rfl⟩⟩⟩
theorem k48_mkM (w : World) (base : Nat) (ok : Nat → Prop) (x : S48)  : k48.M w base ok x [.int .i64 x.f0, .int .i64 x.f1, .int .i64 x.f2, .int .u8 x.f3] := ⟨[.int .i64 x.f0], [.int .i64 x.f1, .int .i64 x.f2, .int .u8 x.f3], rfl, rfl, ⟨[.int .i64 x.f1], [.int .i64 x.f2, .int .u8 x.f3], rfl, rfl, ⟨[.int .i64 x.f2], [.int .u8 x.f3], rfl, rfl, rfl⟩⟩⟩
theorem k48_mkF (W : World) (ok : Nat → Prop) (x : S48) : Kd.FK k48 W ok x [.int .i64 x.f0, .int .i64 x.f1, .int .i64 x.f2, .int .u8 x.f3] := fun W2 _ => k48_mk W2 x
def rd_T48 (xs : List S48) (i : Int) : S48 := xs.getD i.toNat z48
theorem at_T48 {w : World} {A : Option Addr} {n : Nat} {xs : List S48} (h : Kd.C k48 w A n xs) (i : Int) (h0 : 0 ≤ i) (h1 : i < n) : ∃ ad , A = some ad ∧ w.cell? (ad.add (i.toNat * 4)) = some (.int .i64 (rd_T48 xs i).f0) ∧ w.cell? ⟨(ad.add (i.toNat * 4)).block, (ad.add (i.toNat * 4)).off + 1, none⟩ = some (.int .i64 (rd_T48 xs i).f1) ∧ w.cell? ⟨(ad.add (i.toNat * 4)).block, (ad.add (i.toNat * 4)).off + 2, none⟩ = some (.int .i64 (rd_T48 xs i).f2) ∧ w.cell? ⟨(ad.add (i.toNat * 4)).block, (ad.add (i.toNat * 4)).off + 3, none⟩ = some (.int .u8 (rd_T48 xs i).f3) := by
 obtain ⟨ad, c, e, _, hK, hc0⟩ := Kd.C_get h z48 i h0 h1; have hc : ∀ j u, c[j]? = some u → w.cell? (ad.add (i.toNat * 4 + j)) = some u := hc0
 obtain rfl := k48_open hK
 exact ⟨ad, e, hc 0 _ rfl, by rw [← add_field _ _ 1 (by omega)]; exact hc 1 _ rfl, by rw [← add_field _ _ 2 (by omega)]; exact hc 2 _ rfl, by rw [← add_field _ _ 3 (by omega)]; exact hc 3 _ rfl⟩
def rd_L8 (xs : List (List Int)) (i : Int) : (List Int) := xs.getD i.toNat ([] : List Int)
theorem at_L8 {w : World} {A : Option Addr} {n : Nat} {xs : List (List Int)} (h : Kd.C (Kd.slice 5 (Kd.int .u8)) w A n xs) (i : Int) (h0 : 0 ≤ i) (h1 : i < n) : ∃ ad A0 c0, A = some ad ∧ w.cell? (ad.add i.toNat) = some (.slice A0 (rd_L8 xs i).length c0) ∧ (rd_L8 xs i).length ≤ c0 ∧ (Kd.int .u8).C w A0 (rd_L8 xs i).length (rd_L8 xs i) := by
 obtain ⟨ad, c, e, _, hK, hc0⟩ := Kd.C_get h ([] : List Int) i h0 h1; have hc : ∀ j u, c[j]? = some u → w.cell? (ad.add (i.toNat * 1 + j)) = some u := hc0
 obtain ⟨A0, c0, rfl, l0, g0⟩ := hK; exact ⟨ad, A0, c0, e, by have hq := hc 0 _ rfl; rwa [Nat.mul_one, Nat.add_zero] at hq, l0, g0⟩
def prop_Check.l0 : Nat → Int → Int → List (S45) → Int → Int → Option (Bool)
 | 0, _, _, _, _, _ => none
 | k + 1, x1, x5, x11, x12, x13 => if x13 < x12 then (if 0 ≤ x13 then (if x13 < (x11.length : Int) then (if ((rd_T45 x11 x13).f0) ≤ x5 then (some false) else (if ((rd_T45 x11 x13).f1) < ((rd_T45 x11 x13).f0) then (some false) else (if ((rd_T45 x11 x13).f1) > 1114111 then (some false) else (if ((rd_T45 x11 x13).f2) < 0 then (some false) else (if ((rd_T45 x11 x13).f2) ≥ x1 then (some false) else (if ((rd_T45 x11 x13).f2) > 255 then (some false) else (prop_Check.l0 k x1 ((rd_T45 x11 x13).f1) x11 x12 (wrap64 (x13 + 1))))))))) else (none)) else (none)) else (some true)
def prop_Check.f (k : Nat) (l0 : List (S45)) (a1 : Int) : Option (Bool) := if (l0.length : Int) > 256 then (some false) else (prop_Check.l0 k a1 (-1) l0 (l0.length : Int) 0)
theorem prop_Check.mono_l : ∀ k, (∀ y0 y1 y2 y3 y4, LeO (prop_Check.l0 k y0 y1 y2 y3 y4) (prop_Check.l0 (k + 1) y0 y1 y2 y3 y4))
 | 0 => fun _ _ _ _ _ r h => by simp [prop_Check.l0] at h
 | k + 1 => by
  have ih0 := prop_Check.mono_l k
  ·intro y0 y1 y2 y3 y4
   unfold prop_Check.l0
   repeat' (with_reducible first | exact ih0 _ _ _ _ _ | exact LeO.refl _ | exact LeO.none _ | refine LeO.ite ?_ ?_ | refine LeO.bind ?_ (fun _ => ?_))
theorem prop_Check.mono : ∀ a0 a1 k, LeO (prop_Check.f k a0 a1) (prop_Check.f (k + 1) a0 a1) := by
 intro a0 a1 k
 have ih0 := prop_Check.mono_l k; unfold prop_Check.f
 repeat' (with_reducible first | exact ih0 _ _ _ _ _ | exact LeO.refl _ | exact LeO.none _ | refine LeO.ite ?_ ?_ | refine LeO.bind ?_ (fun _ => ?_))
set_option maxHeartbeats 8000000 in
set_option maxRecDepth 100000 in
theorem prop_Check.calls (k : Nat) (A0 : Option Addr) (c0 : Nat) (l0 : List (S45)) (a1 : Int) (r : Bool) (w : World) (hr0 : Kd.C k45 w A0 l0.length l0) (hc0 : l0.length ≤ c0) (h : prop_Check.f k l0 a1 = some r) :
  Calls Try.prog 33 #[.slice A0 l0.length c0, .int .i64 a1] w fun e w' => e = .returned (.bool r) ∧ Below w.heap.size w w' := by
 have hu45 := Try.underlying45; have HR0 := zA.mk hr0; have HC0 := zA.mk hc0; clear hr0 hc0; have HB := zA.mk (Below.refl w.heap.size w); have H : (if (l0.length : Int) > 256 then (some false) else (prop_Check.l0 k a1 (-1) l0 (l0.length : Int) 0)) = some r := h
 clear h; by_cases c3 : (l0.length : Int) > 256
 ·rw [if_pos c3] at H
  have c3b0 : decide (256 < (l0.length : Int)) = true := decide_eq_true c3
  have c3b1 : decide (256 < l0.length) = true := decide_eq_true (by omega)
  clear c3; obtain rfl := Option.some.inj H
  go_enter Try.func33, Try.ntmps33
  go_wp2
  go_ret
  exact ⟨aX, aL HB⟩
 rw [if_neg c3] at H; have c3b0 : decide (256 < (l0.length : Int)) = false := decide_eq_false c3
 have c3b1 : decide (256 < l0.length) = false := decide_eq_false (by omega)
 clear c3; have H' := zA.mk H
 clear H; go_enter Try.func33, Try.ntmps33
 go_wp2
 go_loopg [5, 13] k (fun kq v5 v13 w' => ∃ (x5_1 : Int) (x13_1 : Int), v5 = .int .i32 x5_1 ∧ v13 = .int .i64 x13_1 ∧ zA (prop_Check.l0 kq a1 x5_1 l0 (l0.length : Int) x13_1 = some r) ∧ zA (kq ≤ k) ∧ zA (Below w.heap.size w w'))
 case atStart => exact ⟨((-1)), (0), aZ, aZ, H', ⟨Nat.le_refl _⟩, ⟨aL HB⟩⟩
 clear H'; obtain ⟨x5_1, x13_1, rfl, rfl, HA, HK1, HB⟩ := hrel; cases gk with
 | zero => exact absurd HA.out (by simp [prop_Check.l0])
 | succ k1 =>
  have H := HA.out; clear HA; simp only [prop_Check.l0] at H; by_cases c4 : x13_1 < (l0.length : Int)
  rotate_left
  ·rw [if_neg c4] at H
   have c4b0 : decide (x13_1 < (l0.length : Int)) = false := decide_eq_false c4
   clear c4; obtain rfl := Option.some.inj H
   go_wp2
   go_ret
   exact ⟨aX, aL HB⟩
  rw [if_pos c4] at H; have c4b0 : decide (x13_1 < (l0.length : Int)) = true := decide_eq_true c4
  clear c4; by_cases c5 : 0 ≤ x13_1
  rotate_left
  ·rw [if_neg c5] at H
   exact absurd H (by simp)
  rw [if_pos c5] at H; have c5b0 : decide (0 ≤ x13_1) = true := decide_eq_true c5
  clear c5; by_cases c6 : x13_1 < (l0.length : Int)
  rotate_left
  ·rw [if_neg c6] at H
   exact absurd H (by simp)
  rw [if_pos c6] at H; have c6b0 : decide (x13_1 < (l0.length : Int)) = true := decide_eq_true c6
  clear c6; by_cases c7 : ((rd_T45 l0 x13_1).f0) ≤ x5_1
  ·rw [if_pos c7] at H
   have c7b0 : decide (((rd_T45 l0 x13_1).f0) ≤ x5_1) = true := decide_eq_true c7
   clear c7; obtain rfl := Option.some.inj H
   have p101 : 0 ≤ (x13_1 : Int) := aD
   have q101 : x13_1 < (l0.length : Int) := aD
   obtain ⟨ad101, e101, hx101_0, hx101_1, hx101_2⟩ := at_T45 HR0.out x13_1 p101 q101; cases e101
   replace hx101_0 := (HB.out.cell (World.block_lt_of_cell? w _ hx101_0)).trans hx101_0; replace hx101_1 := (HB.out.cell (World.block_lt_of_cell? w _ hx101_1)).trans hx101_1; replace hx101_2 := (HB.out.cell (World.block_lt_of_cell? w _ hx101_2)).trans hx101_2; replace p101 := eq_true p101; replace q101 := eq_true q101; go_wp2_with (first | ((with_reducible refine gate_dst (N := 7) rfl ?_); refine box_event ?hg (N := 7) ?hd (cs := #[.int .i32 0, .int .i32 0, .int .i64 0]) (t := 45) ?hr ?_; (case hd => rfl); (case hg => rfl); (case hr => first | (go_simp; done) | (go_simp; rfl)); intro gb102 hg w8 hbox hb; have BK102 := zA.mk (hbox); have GW102 := zA.mk ((by rw [hg]; exact (below_size (aL HB)) : w.heap.size ≤ gb102)); replace HB := zA.mk (below_step (aL HB) hb); have GE102 := GW102; clear hb hbox hg; obtain ⟨hcz9_0, hcz9_1, hcz9_2, hfz9_0, hfz9_1, hfz9_2⟩ := aC3 BK102) | ((with_reducible refine gate_store (t := 45) (p := 7) rfl ?_); refine store_event (t := 45) (p := 7) (v := ?vo_w10) (w1 := (((w8.setCell ⟨gb102, 0, none⟩ (.int .i32 ((rd_T45 l0 x13_1).f0))).setCell ⟨gb102, 1, none⟩ (.int .i32 ((rd_T45 l0 x13_1).f1))).setCell ⟨gb102, 2, none⟩ (.int .i64 ((rd_T45 l0 x13_1).f2)))) ?hg ?ho ?hn ?hr ?_; (case ho => rfl); (case hg => rfl); (case hn => rfl); (case hr => first | (go_simp; done) | (go_simp; rfl)); intro w10 hw; have n0_ : zA (w10.heap[gb102]? = some (.cells #[.int .i32 ((rd_T45 l0 x13_1).f0), .int .i32 ((rd_T45 l0 x13_1).f1), .int .i64 ((rd_T45 l0 x13_1).f2)] 45 (0, 0))) := ⟨(by rw [hw]; exact (by (with_reducible repeat (first | refine blk_drewN ?_ _ | refine blk_drew ?_ | refine blk_alloc ?_ _)); refine blk_put (cs := #[.int .i32 ((rd_T45 l0 x13_1).f0), .int .i32 ((rd_T45 l0 x13_1).f1), .int .i64 0]) ?_ 2 _ rfl; (with_reducible repeat (first | refine blk_drewN ?_ _ | refine blk_drew ?_ | refine blk_alloc ?_ _)); refine blk_put (cs := #[.int .i32 ((rd_T45 l0 x13_1).f0), .int .i32 0, .int .i64 0]) ?_ 1 _ rfl; (with_reducible repeat (first | refine blk_drewN ?_ _ | refine blk_drew ?_ | refine blk_alloc ?_ _)); refine blk_put (cs := #[.int .i32 0, .int .i32 0, .int .i64 0]) ?_ 0 _ rfl; (with_reducible repeat (first | refine blk_drewN ?_ _ | refine blk_drew ?_ | refine blk_alloc ?_ _)); exact BK102.out))⟩; have n1_ : zA (Below w.heap.size w w10) := ⟨(by rw [hw]; exact (aL HB))⟩; clear hw; clear BK102; clear HB; have BK102 := n0_; have HB := n1_; clear n0_ n1_; obtain ⟨hcz11_0, hcz11_1, hcz11_2, hfz11_0, hfz11_1, hfz11_2⟩ := aC3 BK102))
   go_ret
   exact ⟨aX, aL HB⟩
  rw [if_neg c7] at H; have c7b0 : decide (((rd_T45 l0 x13_1).f0) ≤ x5_1) = false := decide_eq_false c7
  clear c7; by_cases c12 : ((rd_T45 l0 x13_1).f1) < ((rd_T45 l0 x13_1).f0)
  ·rw [if_pos c12] at H
   have c12b0 : decide (((rd_T45 l0 x13_1).f1) < ((rd_T45 l0 x13_1).f0)) = true := decide_eq_true c12
   clear c12; obtain rfl := Option.some.inj H
   have p101 : 0 ≤ (x13_1 : Int) := aD
   have q101 : x13_1 < (l0.length : Int) := aD
   obtain ⟨ad101, e101, hx101_0, hx101_1, hx101_2⟩ := at_T45 HR0.out x13_1 p101 q101; cases e101
   replace hx101_0 := (HB.out.cell (World.block_lt_of_cell? w _ hx101_0)).trans hx101_0; replace hx101_1 := (HB.out.cell (World.block_lt_of_cell? w _ hx101_1)).trans hx101_1; replace hx101_2 := (HB.out.cell (World.block_lt_of_cell? w _ hx101_2)).trans hx101_2; replace p101 := eq_true p101; replace q101 := eq_true q101; go_wp2_with (first | ((with_reducible refine gate_dst (N := 7) rfl ?_); refine box_event ?hg (N := 7) ?hd (cs := #[.int .i32 0, .int .i32 0, .int .i64 0]) (t := 45) ?hr ?_; (case hd => rfl); (case hg => rfl); (case hr => first | (go_simp; done) | (go_simp; rfl)); intro gb102 hg w13 hbox hb; have BK102 := zA.mk (hbox); have GW102 := zA.mk ((by rw [hg]; exact (below_size (aL HB)) : w.heap.size ≤ gb102)); replace HB := zA.mk (below_step (aL HB) hb); have GE102 := GW102; clear hb hbox hg; obtain ⟨hcz14_0, hcz14_1, hcz14_2, hfz14_0, hfz14_1, hfz14_2⟩ := aC3 BK102) | ((with_reducible refine gate_store (t := 45) (p := 7) rfl ?_); refine store_event (t := 45) (p := 7) (v := ?vo_w15) (w1 := (((w13.setCell ⟨gb102, 0, none⟩ (.int .i32 ((rd_T45 l0 x13_1).f0))).setCell ⟨gb102, 1, none⟩ (.int .i32 ((rd_T45 l0 x13_1).f1))).setCell ⟨gb102, 2, none⟩ (.int .i64 ((rd_T45 l0 x13_1).f2)))) ?hg ?ho ?hn ?hr ?_; (case ho => rfl); (case hg => rfl); (case hn => rfl); (case hr => first | (go_simp; done) | (go_simp; rfl)); intro w15 hw; have n0_ : zA (w15.heap[gb102]? = some (.cells #[.int .i32 ((rd_T45 l0 x13_1).f0), .int .i32 ((rd_T45 l0 x13_1).f1), .int .i64 ((rd_T45 l0 x13_1).f2)] 45 (0, 0))) := ⟨(by rw [hw]; exact (by (with_reducible repeat (first | refine blk_drewN ?_ _ | refine blk_drew ?_ | refine blk_alloc ?_ _)); refine blk_put (cs := #[.int .i32 ((rd_T45 l0 x13_1).f0), .int .i32 ((rd_T45 l0 x13_1).f1), .int .i64 0]) ?_ 2 _ rfl; (with_reducible repeat (first | refine blk_drewN ?_ _ | refine blk_drew ?_ | refine blk_alloc ?_ _)); refine blk_put (cs := #[.int .i32 ((rd_T45 l0 x13_1).f0), .int .i32 0, .int .i64 0]) ?_ 1 _ rfl; (with_reducible repeat (first | refine blk_drewN ?_ _ | refine blk_drew ?_ | refine blk_alloc ?_ _)); refine blk_put (cs := #[.int .i32 0, .int .i32 0, .int .i64 0]) ?_ 0 _ rfl; (with_reducible repeat (first | refine blk_drewN ?_ _ | refine blk_drew ?_ | refine blk_alloc ?_ _)); exact BK102.out))⟩; have n1_ : zA (Below w.heap.size w w15) := ⟨(by rw [hw]; exact (aL HB))⟩; clear hw; clear BK102; clear HB; have BK102 := n0_; have HB := n1_; clear n0_ n1_; obtain ⟨hcz16_0, hcz16_1, hcz16_2, hfz16_0, hfz16_1, hfz16_2⟩ := aC3 BK102))
   go_ret
   exact ⟨aX, aL HB⟩
  rw [if_neg c12] at H; have c12b0 : decide (((rd_T45 l0 x13_1).f1) < ((rd_T45 l0 x13_1).f0)) = false := decide_eq_false c12
  clear c12; by_cases c17 : ((rd_T45 l0 x13_1).f1) > 1114111
  ·rw [if_pos c17] at H
   have c17b0 : decide (1114111 < ((rd_T45 l0 x13_1).f1)) = true := decide_eq_true c17
   clear c17; obtain rfl := Option.some.inj H
   have p101 : 0 ≤ (x13_1 : Int) := aD
   have q101 : x13_1 < (l0.length : Int) := aD
   obtain ⟨ad101, e101, hx101_0, hx101_1, hx101_2⟩ := at_T45 HR0.out x13_1 p101 q101; cases e101
   replace hx101_0 := (HB.out.cell (World.block_lt_of_cell? w _ hx101_0)).trans hx101_0; replace hx101_1 := (HB.out.cell (World.block_lt_of_cell? w _ hx101_1)).trans hx101_1; replace hx101_2 := (HB.out.cell (World.block_lt_of_cell? w _ hx101_2)).trans hx101_2; replace p101 := eq_true p101; replace q101 := eq_true q101; go_wp2_with (first | ((with_reducible refine gate_dst (N := 7) rfl ?_); refine box_event ?hg (N := 7) ?hd (cs := #[.int .i32 0, .int .i32 0, .int .i64 0]) (t := 45) ?hr ?_; (case hd => rfl); (case hg => rfl); (case hr => first | (go_simp; done) | (go_simp; rfl)); intro gb102 hg w18 hbox hb; have BK102 := zA.mk (hbox); have GW102 := zA.mk ((by rw [hg]; exact (below_size (aL HB)) : w.heap.size ≤ gb102)); replace HB := zA.mk (below_step (aL HB) hb); have GE102 := GW102; clear hb hbox hg; obtain ⟨hcz19_0, hcz19_1, hcz19_2, hfz19_0, hfz19_1, hfz19_2⟩ := aC3 BK102) | ((with_reducible refine gate_store (t := 45) (p := 7) rfl ?_); refine store_event (t := 45) (p := 7) (v := ?vo_w20) (w1 := (((w18.setCell ⟨gb102, 0, none⟩ (.int .i32 ((rd_T45 l0 x13_1).f0))).setCell ⟨gb102, 1, none⟩ (.int .i32 ((rd_T45 l0 x13_1).f1))).setCell ⟨gb102, 2, none⟩ (.int .i64 ((rd_T45 l0 x13_1).f2)))) ?hg ?ho ?hn ?hr ?_; (case ho => rfl); (case hg => rfl); (case hn => rfl); (case hr => first | (go_simp; done) | (go_simp; rfl)); intro w20 hw; have n0_ : zA (w20.heap[gb102]? = some (.cells #[.int .i32 ((rd_T45 l0 x13_1).f0), .int .i32 ((rd_T45 l0 x13_1).f1), .int .i64 ((rd_T45 l0 x13_1).f2)] 45 (0, 0))) := ⟨(by rw [hw]; exact (by (with_reducible repeat (first | refine blk_drewN ?_ _ | refine blk_drew ?_ | refine blk_alloc ?_ _)); refine blk_put (cs := #[.int .i32 ((rd_T45 l0 x13_1).f0), .int .i32 ((rd_T45 l0 x13_1).f1), .int .i64 0]) ?_ 2 _ rfl; (with_reducible repeat (first | refine blk_drewN ?_ _ | refine blk_drew ?_ | refine blk_alloc ?_ _)); refine blk_put (cs := #[.int .i32 ((rd_T45 l0 x13_1).f0), .int .i32 0, .int .i64 0]) ?_ 1 _ rfl; (with_reducible repeat (first | refine blk_drewN ?_ _ | refine blk_drew ?_ | refine blk_alloc ?_ _)); refine blk_put (cs := #[.int .i32 0, .int .i32 0, .int .i64 0]) ?_ 0 _ rfl; (with_reducible repeat (first | refine blk_drewN ?_ _ | refine blk_drew ?_ | refine blk_alloc ?_ _)); exact BK102.out))⟩; have n1_ : zA (Below w.heap.size w w20) := ⟨(by rw [hw]; exact (aL HB))⟩; clear hw; clear BK102; clear HB; have BK102 := n0_; have HB := n1_; clear n0_ n1_; obtain ⟨hcz21_0, hcz21_1, hcz21_2, hfz21_0, hfz21_1, hfz21_2⟩ := aC3 BK102))
   go_ret
   exact ⟨aX, aL HB⟩
  rw [if_neg c17] at H; have c17b0 : decide (1114111 < ((rd_T45 l0 x13_1).f1)) = false := decide_eq_false c17
  clear c17; by_cases c22 : ((rd_T45 l0 x13_1).f2) < 0
  ·rw [if_pos c22] at H
   have c22b0 : decide (((rd_T45 l0 x13_1).f2) < 0) = true := decide_eq_true c22
   clear c22; obtain rfl := Option.some.inj H
   have p101 : 0 ≤ (x13_1 : Int) := aD
   have q101 : x13_1 < (l0.length : Int) := aD
   obtain ⟨ad101, e101, hx101_0, hx101_1, hx101_2⟩ := at_T45 HR0.out x13_1 p101 q101; cases e101
   replace hx101_0 := (HB.out.cell (World.block_lt_of_cell? w _ hx101_0)).trans hx101_0; replace hx101_1 := (HB.out.cell (World.block_lt_of_cell? w _ hx101_1)).trans hx101_1; replace hx101_2 := (HB.out.cell (World.block_lt_of_cell? w _ hx101_2)).trans hx101_2; replace p101 := eq_true p101; replace q101 := eq_true q101; go_wp2_with (first | ((with_reducible refine gate_dst (N := 7) rfl ?_); refine box_event ?hg (N := 7) ?hd (cs := #[.int .i32 0, .int .i32 0, .int .i64 0]) (t := 45) ?hr ?_; (case hd => rfl); (case hg => rfl); (case hr => first | (go_simp; done) | (go_simp; rfl)); intro gb102 hg w23 hbox hb; have BK102 := zA.mk (hbox); have GW102 := zA.mk ((by rw [hg]; exact (below_size (aL HB)) : w.heap.size ≤ gb102)); replace HB := zA.mk (below_step (aL HB) hb); have GE102 := GW102; clear hb hbox hg; obtain ⟨hcz24_0, hcz24_1, hcz24_2, hfz24_0, hfz24_1, hfz24_2⟩ := aC3 BK102) | ((with_reducible refine gate_store (t := 45) (p := 7) rfl ?_); refine store_event (t := 45) (p := 7) (v := ?vo_w25) (w1 := (((w23.setCell ⟨gb102, 0, none⟩ (.int .i32 ((rd_T45 l0 x13_1).f0))).setCell ⟨gb102, 1, none⟩ (.int .i32 ((rd_T45 l0 x13_1).f1))).setCell ⟨gb102, 2, none⟩ (.int .i64 ((rd_T45 l0 x13_1).f2)))) ?hg ?ho ?hn ?hr ?_; (case ho => rfl); (case hg => rfl); (case hn => rfl); (case hr => first | (go_simp; done) | (go_simp; rfl)); intro w25 hw; have n0_ : zA (w25.heap[gb102]? = some (.cells #[.int .i32 ((rd_T45 l0 x13_1).f0), .int .i32 ((rd_T45 l0 x13_1).f1), .int .i64 ((rd_T45 l0 x13_1).f2)] 45 (0, 0))) := ⟨(by rw [hw]; exact (by (with_reducible repeat (first | refine blk_drewN ?_ _ | refine blk_drew ?_ | refine blk_alloc ?_ _)); refine blk_put (cs := #[.int .i32 ((rd_T45 l0 x13_1).f0), .int .i32 ((rd_T45 l0 x13_1).f1), .int .i64 0]) ?_ 2 _ rfl; (with_reducible repeat (first | refine blk_drewN ?_ _ | refine blk_drew ?_ | refine blk_alloc ?_ _)); refine blk_put (cs := #[.int .i32 ((rd_T45 l0 x13_1).f0), .int .i32 0, .int .i64 0]) ?_ 1 _ rfl; (with_reducible repeat (first | refine blk_drewN ?_ _ | refine blk_drew ?_ | refine blk_alloc ?_ _)); refine blk_put (cs := #[.int .i32 0, .int .i32 0, .int .i64 0]) ?_ 0 _ rfl; (with_reducible repeat (first | refine blk_drewN ?_ _ | refine blk_drew ?_ | refine blk_alloc ?_ _)); exact BK102.out))⟩; have n1_ : zA (Below w.heap.size w w25) := ⟨(by rw [hw]; exact (aL HB))⟩; clear hw; clear BK102; clear HB; have BK102 := n0_; have HB := n1_; clear n0_ n1_; obtain ⟨hcz26_0, hcz26_1, hcz26_2, hfz26_0, hfz26_1, hfz26_2⟩ := aC3 BK102))
   go_ret
   exact ⟨aX, aL HB⟩
  rw [if_neg c22] at H; have c22b0 : decide (((rd_T45 l0 x13_1).f2) < 0) = false := decide_eq_false c22
  clear c22; by_cases c27 : ((rd_T45 l0 x13_1).f2) ≥ a1
  ·rw [if_pos c27] at H
   have c27b0 : decide (a1 ≤ ((rd_T45 l0 x13_1).f2)) = true := decide_eq_true c27
   clear c27; obtain rfl := Option.some.inj H
   have p101 : 0 ≤ (x13_1 : Int) := aD
   have q101 : x13_1 < (l0.length : Int) := aD
   obtain ⟨ad101, e101, hx101_0, hx101_1, hx101_2⟩ := at_T45 HR0.out x13_1 p101 q101; cases e101
   replace hx101_0 := (HB.out.cell (World.block_lt_of_cell? w _ hx101_0)).trans hx101_0; replace hx101_1 := (HB.out.cell (World.block_lt_of_cell? w _ hx101_1)).trans hx101_1; replace hx101_2 := (HB.out.cell (World.block_lt_of_cell? w _ hx101_2)).trans hx101_2; replace p101 := eq_true p101; replace q101 := eq_true q101; go_wp2_with (first | ((with_reducible refine gate_dst (N := 7) rfl ?_); refine box_event ?hg (N := 7) ?hd (cs := #[.int .i32 0, .int .i32 0, .int .i64 0]) (t := 45) ?hr ?_; (case hd => rfl); (case hg => rfl); (case hr => first | (go_simp; done) | (go_simp; rfl)); intro gb102 hg w28 hbox hb; have BK102 := zA.mk (hbox); have GW102 := zA.mk ((by rw [hg]; exact (below_size (aL HB)) : w.heap.size ≤ gb102)); replace HB := zA.mk (below_step (aL HB) hb); have GE102 := GW102; clear hb hbox hg; obtain ⟨hcz29_0, hcz29_1, hcz29_2, hfz29_0, hfz29_1, hfz29_2⟩ := aC3 BK102) | ((with_reducible refine gate_store (t := 45) (p := 7) rfl ?_); refine store_event (t := 45) (p := 7) (v := ?vo_w30) (w1 := (((w28.setCell ⟨gb102, 0, none⟩ (.int .i32 ((rd_T45 l0 x13_1).f0))).setCell ⟨gb102, 1, none⟩ (.int .i32 ((rd_T45 l0 x13_1).f1))).setCell ⟨gb102, 2, none⟩ (.int .i64 ((rd_T45 l0 x13_1).f2)))) ?hg ?ho ?hn ?hr ?_; (case ho => rfl); (case hg => rfl); (case hn => rfl); (case hr => first | (go_simp; done) | (go_simp; rfl)); intro w30 hw; have n0_ : zA (w30.heap[gb102]? = some (.cells #[.int .i32 ((rd_T45 l0 x13_1).f0), .int .i32 ((rd_T45 l0 x13_1).f1), .int .i64 ((rd_T45 l0 x13_1).f2)] 45 (0, 0))) := ⟨(by rw [hw]; exact (by (with_reducible repeat (first | refine blk_drewN ?_ _ | refine blk_drew ?_ | refine blk_alloc ?_ _)); refine blk_put (cs := #[.int .i32 ((rd_T45 l0 x13_1).f0), .int .i32 ((rd_T45 l0 x13_1).f1), .int .i64 0]) ?_ 2 _ rfl; (with_reducible repeat (first | refine blk_drewN ?_ _ | refine blk_drew ?_ | refine blk_alloc ?_ _)); refine blk_put (cs := #[.int .i32 ((rd_T45 l0 x13_1).f0), .int .i32 0, .int .i64 0]) ?_ 1 _ rfl; (with_reducible repeat (first | refine blk_drewN ?_ _ | refine blk_drew ?_ | refine blk_alloc ?_ _)); refine blk_put (cs := #[.int .i32 0, .int .i32 0, .int .i64 0]) ?_ 0 _ rfl; (with_reducible repeat (first | refine blk_drewN ?_ _ | refine blk_drew ?_ | refine blk_alloc ?_ _)); exact BK102.out))⟩; have n1_ : zA (Below w.heap.size w w30) := ⟨(by rw [hw]; exact (aL HB))⟩; clear hw; clear BK102; clear HB; have BK102 := n0_; have HB := n1_; clear n0_ n1_; obtain ⟨hcz31_0, hcz31_1, hcz31_2, hfz31_0, hfz31_1, hfz31_2⟩ := aC3 BK102))
   go_ret
   exact ⟨aX, aL HB⟩
  rw [if_neg c27] at H; have c27b0 : decide (a1 ≤ ((rd_T45 l0 x13_1).f2)) = false := decide_eq_false c27
  clear c27; by_cases c32 : ((rd_T45 l0 x13_1).f2) > 255
  ·rw [if_pos c32] at H
   have c32b0 : decide (255 < ((rd_T45 l0 x13_1).f2)) = true := decide_eq_true c32
   clear c32; obtain rfl := Option.some.inj H
   have p101 : 0 ≤ (x13_1 : Int) := aD
   have q101 : x13_1 < (l0.length : Int) := aD
   obtain ⟨ad101, e101, hx101_0, hx101_1, hx101_2⟩ := at_T45 HR0.out x13_1 p101 q101; cases e101
   replace hx101_0 := (HB.out.cell (World.block_lt_of_cell? w _ hx101_0)).trans hx101_0; replace hx101_1 := (HB.out.cell (World.block_lt_of_cell? w _ hx101_1)).trans hx101_1; replace hx101_2 := (HB.out.cell (World.block_lt_of_cell? w _ hx101_2)).trans hx101_2; replace p101 := eq_true p101; replace q101 := eq_true q101; go_wp2_with (first | ((with_reducible refine gate_dst (N := 7) rfl ?_); refine box_event ?hg (N := 7) ?hd (cs := #[.int .i32 0, .int .i32 0, .int .i64 0]) (t := 45) ?hr ?_; (case hd => rfl); (case hg => rfl); (case hr => first | (go_simp; done) | (go_simp; rfl)); intro gb102 hg w33 hbox hb; have BK102 := zA.mk (hbox); have GW102 := zA.mk ((by rw [hg]; exact (below_size (aL HB)) : w.heap.size ≤ gb102)); replace HB := zA.mk (below_step (aL HB) hb); have GE102 := GW102; clear hb hbox hg; obtain ⟨hcz34_0, hcz34_1, hcz34_2, hfz34_0, hfz34_1, hfz34_2⟩ := aC3 BK102) | ((with_reducible refine gate_store (t := 45) (p := 7) rfl ?_); refine store_event (t := 45) (p := 7) (v := ?vo_w35) (w1 := (((w33.setCell ⟨gb102, 0, none⟩ (.int .i32 ((rd_T45 l0 x13_1).f0))).setCell ⟨gb102, 1, none⟩ (.int .i32 ((rd_T45 l0 x13_1).f1))).setCell ⟨gb102, 2, none⟩ (.int .i64 ((rd_T45 l0 x13_1).f2)))) ?hg ?ho ?hn ?hr ?_; (case ho => rfl); (case hg => rfl); (case hn => rfl); (case hr => first | (go_simp; done) | (go_simp; rfl)); intro w35 hw; have n0_ : zA (w35.heap[gb102]? = some (.cells #[.int .i32 ((rd_T45 l0 x13_1).f0), .int .i32 ((rd_T45 l0 x13_1).f1), .int .i64 ((rd_T45 l0 x13_1).f2)] 45 (0, 0))) := ⟨(by rw [hw]; exact (by (with_reducible repeat (first | refine blk_drewN ?_ _ | refine blk_drew ?_ | refine blk_alloc ?_ _)); refine blk_put (cs := #[.int .i32 ((rd_T45 l0 x13_1).f0), .int .i32 ((rd_T45 l0 x13_1).f1), .int .i64 0]) ?_ 2 _ rfl; (with_reducible repeat (first | refine blk_drewN ?_ _ | refine blk_drew ?_ | refine blk_alloc ?_ _)); refine blk_put (cs := #[.int .i32 ((rd_T45 l0 x13_1).f0), .int .i32 0, .int .i64 0]) ?_ 1 _ rfl; (with_reducible repeat (first | refine blk_drewN ?_ _ | refine blk_drew ?_ | refine blk_alloc ?_ _)); refine blk_put (cs := #[.int .i32 0, .int .i32 0, .int .i64 0]) ?_ 0 _ rfl; (with_reducible repeat (first | refine blk_drewN ?_ _ | refine blk_drew ?_ | refine blk_alloc ?_ _)); exact BK102.out))⟩; have n1_ : zA (Below w.heap.size w w35) := ⟨(by rw [hw]; exact (aL HB))⟩; clear hw; clear BK102; clear HB; have BK102 := n0_; have HB := n1_; clear n0_ n1_; obtain ⟨hcz36_0, hcz36_1, hcz36_2, hfz36_0, hfz36_1, hfz36_2⟩ := aC3 BK102))
   go_ret
   exact ⟨aX, aL HB⟩
  rw [if_neg c32] at H; have c32b0 : decide (255 < ((rd_T45 l0 x13_1).f2)) = false := decide_eq_false c32
  clear c32; have H' := zA.mk H
  clear H; have p101 : 0 ≤ (x13_1 : Int) := aD
  have q101 : x13_1 < (l0.length : Int) := aD
  obtain ⟨ad101, e101, hx101_0, hx101_1, hx101_2⟩ := at_T45 HR0.out x13_1 p101 q101; cases e101
  replace hx101_0 := (HB.out.cell (World.block_lt_of_cell? w _ hx101_0)).trans hx101_0; replace hx101_1 := (HB.out.cell (World.block_lt_of_cell? w _ hx101_1)).trans hx101_1; replace hx101_2 := (HB.out.cell (World.block_lt_of_cell? w _ hx101_2)).trans hx101_2; replace p101 := eq_true p101; replace q101 := eq_true q101; go_wp2_with (first | ((with_reducible refine gate_dst (N := 7) rfl ?_); refine box_event ?hg (N := 7) ?hd (cs := #[.int .i32 0, .int .i32 0, .int .i64 0]) (t := 45) ?hr ?_; (case hd => rfl); (case hg => rfl); (case hr => first | (go_simp; done) | (go_simp; rfl)); intro gb102 hg w37 hbox hb; have BK102 := zA.mk (hbox); have GW102 := zA.mk ((by rw [hg]; exact (below_size (aL HB)) : w.heap.size ≤ gb102)); replace HB := zA.mk (below_step (aL HB) hb); have GE102 := GW102; clear hb hbox hg; obtain ⟨hcz38_0, hcz38_1, hcz38_2, hfz38_0, hfz38_1, hfz38_2⟩ := aC3 BK102) | ((with_reducible refine gate_store (t := 45) (p := 7) rfl ?_); refine store_event (t := 45) (p := 7) (v := ?vo_w39) (w1 := (((w37.setCell ⟨gb102, 0, none⟩ (.int .i32 ((rd_T45 l0 x13_1).f0))).setCell ⟨gb102, 1, none⟩ (.int .i32 ((rd_T45 l0 x13_1).f1))).setCell ⟨gb102, 2, none⟩ (.int .i64 ((rd_T45 l0 x13_1).f2)))) ?hg ?ho ?hn ?hr ?_; (case ho => rfl); (case hg => rfl); (case hn => rfl); (case hr => first | (go_simp; done) | (go_simp; rfl)); intro w39 hw; have n0_ : zA (w39.heap[gb102]? = some (.cells #[.int .i32 ((rd_T45 l0 x13_1).f0), .int .i32 ((rd_T45 l0 x13_1).f1), .int .i64 ((rd_T45 l0 x13_1).f2)] 45 (0, 0))) := ⟨(by rw [hw]; exact (by (with_reducible repeat (first | refine blk_drewN ?_ _ | refine blk_drew ?_ | refine blk_alloc ?_ _)); refine blk_put (cs := #[.int .i32 ((rd_T45 l0 x13_1).f0), .int .i32 ((rd_T45 l0 x13_1).f1), .int .i64 0]) ?_ 2 _ rfl; (with_reducible repeat (first | refine blk_drewN ?_ _ | refine blk_drew ?_ | refine blk_alloc ?_ _)); refine blk_put (cs := #[.int .i32 ((rd_T45 l0 x13_1).f0), .int .i32 0, .int .i64 0]) ?_ 1 _ rfl; (with_reducible repeat (first | refine blk_drewN ?_ _ | refine blk_drew ?_ | refine blk_alloc ?_ _)); refine blk_put (cs := #[.int .i32 0, .int .i32 0, .int .i64 0]) ?_ 0 _ rfl; (with_reducible repeat (first | refine blk_drewN ?_ _ | refine blk_drew ?_ | refine blk_alloc ?_ _)); exact BK102.out))⟩; have n1_ : zA (Below w.heap.size w w39) := ⟨(by rw [hw]; exact (aL HB))⟩; clear hw; clear BK102; clear HB; have BK102 := n0_; have HB := n1_; clear n0_ n1_; obtain ⟨hcz40_0, hcz40_1, hcz40_2, hfz40_0, hfz40_1, hfz40_2⟩ := aC3 BK102))
  go_roundg k1
  case measure => have := HK1.out; omega
  case rel => exact ⟨((rd_T45 l0 x13_1).f1), (wrap64 (x13_1 + 1)), aZ, aZ, H', ⟨by have := HK1.out; omega⟩, ⟨aL HB⟩⟩
def bcs (b : List Int) : List Value := b.map (Value.int .u8)
def bag (b : List Int) : Value := .agg (bcs b).toArray
def Byt (b : List Int) : Prop := b.length = 256 ∧ ∀ c ∈ b, 0 ≤ c ∧ c ≤ 255
theorem mapM_some {α β : Type} {f : α → Option β} {g : α → β} : ∀ l : List α, (∀ x ∈ l, f x = some (g x)) → l.mapM f = some (l.map g)
 | [], _ => rfl
 | x :: l, h => by
  rw [List.mapM_cons, h x (by simp), mapM_some l (fun y hy => h y (by simp [hy]))]
  rfl
theorem bcs_len (b : List Int) : (bcs b).length = b.length := by unfold bcs; rw [List.length_map]
theorem bcs_get (b : List Int) (i : Nat) (h : i < (bcs b).length) : (bcs b)[i] = Value.int .u8 (b.getD i 0) := by
 have h2 : i < b.length := by rw [bcs_len] at h; exact h
 have : (b.map (Value.int .u8))[i]'(by rw [List.length_map]; exact h2) = Value.int .u8 (b.getD i 0) := by
  rw [List.getElem_map, List.getD_eq_getElem?_getD, List.getElem?_eq_getElem h2]; rfl
 exact this
theorem bag_inj {a b : List Int} (h : bag a = bag b) : a = b := by
 unfold bag bcs at h
 injection h with h
 have h2 := congrArg Array.toList h; simp only at h2
 exact (List.map_inj_right (fun x y hxy => by injection hxy)).1 h2
theorem prop_Make.hkey {b : List Int} (h : Byt b) : ∃ kl, keyOf Try.prog 82 (bag b) = some kl := by
 obtain ⟨d, hd⟩ : ∃ d, Try.prog.types.size = d + 1 := ⟨Try.prog.types.size - 1, by have : 0 < Try.prog.types.size := of_decide_eq_true (by kernel_rfl); omega⟩
 have hc : Try.prog.cellsOf 82 = 256 := by kernel_rfl
 have hc5 : Try.prog.cellsOf 5 = 1 := by kernel_rfl
 have hk : Try.prog.keyType 82 = true := by kernel_rfl
 have hf : (bag b).formed Try.prog 82 = true := by
  unfold Value.formed bag
  simp only [Try.underlying82, hc, List.size_toArray, bcs_len, h.1]; rfl
 have hl : Try.prog.keyLits (Try.prog.types.size + 1) 82 (bag b).cells.toList = some (((List.range 256).map fun i => [Lit.int .u8 (b.getD i 0)]).flatten) := by
  rw [hd]; have hcells : (bag b).cells.toList = bcs b := rfl
  rw [hcells]; unfold Program.keyLits
  simp only [Try.underlying82, hc, bcs_len, h.1, if_true, hc5, Nat.mul_one]; rw [mapM_some (g := fun i => [Lit.int .u8 (b.getD i 0)]) (List.range 256)]
  ·rfl
  ·intro i hi
   have hi' : i < 256 := List.mem_range.1 hi
   have hb : i < (bcs b).length := by rw [bcs_len, h.1]; exact hi'
   have e : ((bcs b).drop i).take 1 = [Value.int .u8 (b.getD i 0)] := by
    rw [List.drop_eq_getElem_cons hb]; rw [bcs_get b i hb]; rfl
   rw [e]; have hw : (Lit.int .u8 (b.getD i 0)).wf = true := by
    have hm := h.2 (b.getD i 0) (by
     rw [List.getD_eq_getElem?_getD, List.getElem?_eq_getElem (show i < b.length by rw [h.1]; exact hi')]
     exact List.getElem_mem _)
    exact WalkArith.wf_u8 hm
   unfold Program.keyLits
   simp only [Try.underlying5, hw, and_self, if_true]
 refine ⟨.string (keyBytes (((List.range 256).map fun i => [Lit.int .u8 (b.getD i 0)]).flatten)), ?_⟩
 unfold keyOf
 simp only [Try.underlying82, hk, hf, Bool.and_self, if_true, hl, Option.map_some]
theorem prop_Make.laidOut : laidOutB Try.prog = true := by kernel_rfl
theorem prop_Make.wide : (match Try.prog.underlying 82 with | some (.array _ _) | some (.struct _) => true | _ => false) = true := by rw [Try.underlying82]
theorem prop_Make.law : Maps.Keyed Try.prog 82 := Maps.Keyed.of_law (deep_law_laid prop_Make.laidOut (m := 2) (by omega) (of_decide_eq_true (by kernel_rfl)) (by kernel_rfl) prop_Make.wide)
theorem prop_Make.zeroE (w : World) : (zeroValue 3).run Try.prog w = .ok (.int .i64 0) w := by kernel_rfl
theorem prop_Make.eq_run (w : World) {a b : List Int} (ha : Byt a) (hb : Byt b) : (Op.equal 82 (bag a) (bag b)).run Try.prog w = .ok (decide (a = b)) w := by
 obtain ⟨ka, hka⟩ := prop_Make.hkey ha; obtain ⟨kb, hkb⟩ := prop_Make.hkey hb; obtain ⟨r, hr, hiff⟩ := run_equal_deep (P := Try.prog) w (m := 2) (by omega) (k := 82) (by kernel_rfl) prop_Make.wide hka hkb
 rw [hr]; congr 1
 rw [Bool.eq_iff_iff, hiff, decide_eq_true_iff]; constructor
 ·rintro rfl; exact bag_inj (prop_Make.law.inj hka hkb)
 rintro rfl; rw [hka] at hkb; exact Option.some.inj hkb
def SeenR (P : Program) (K : TypeId) (D : DataW Unit) (bs : List (List Int)) : Prop :=
 ∀ (x : List Int) (kl : Lit), Byt x → keyOf P K (bag x) = some kl → Maps.has D kl = decide (x ∈ bs ∧ x ≠ zerosR) ∧ (x ∈ bs → x ≠ zerosR → ∀ z, D.atKey kl z = .lit (.int .i64 (bs.idxOf x : Int)))
theorem SeenR.start : SeenR Try.prog 82 (.map []) [zerosR] := by
 intro x kl hx hk
 refine ⟨?_, fun h1 h2 => absurd (List.mem_singleton.1 h1) h2⟩
 have : ¬ (x ∈ [zerosR] ∧ x ≠ zerosR) := fun h => h.2 (List.mem_singleton.1 h.1)
 rw [decide_eq_false this]; rfl
theorem SeenR.put {D : DataW Unit} {bs : List (List Int)} (h : SeenR Try.prog 82 D bs) (hm : Maps.IsMap D) (hz : zerosR ∈ bs) {y : List Int} {ky : Lit} (hy : Byt y) (hky : keyOf Try.prog 82 (bag y) = some ky) (hny : y ∉ bs) :
  SeenR Try.prog 82 (D.put ky (.lit (.int .i64 (bs.length : Int)))) (bs ++ [y]) := by
 have hyz : y ≠ zerosR := fun e => hny (e ▸ hz)
 intro x kl hx hk
 by_cases e : x = y
 ·subst e
  obtain rfl : kl = ky := by rw [hk] at hky; exact Option.some.inj hky
  refine ⟨?_, fun _ _ z => ?_⟩
  ·rw [Maps.has_put_same hm (prop_Make.law.key hk), decide_eq_true ⟨by simp, hyz⟩]
  rw [Maps.atKey_put_same hm (prop_Make.law.key hk), List.idxOf_append, if_neg hny, List.idxOf_cons_self, Nat.zero_add]
 have hne : kl ≠ ky := by
  rintro rfl
  exact e (bag_inj (prop_Make.law.inj hk hky))
 obtain ⟨h1, h2⟩ := h x kl hx hk; have hmem : x ∈ bs ++ [y] ↔ x ∈ bs := by simp [e]
 refine ⟨?_, fun a b z => ?_⟩
 ·rw [Maps.has_put_other hne, h1]
  simp only [hmem]
 rw [Maps.atKey_put_other hne, h2 (hmem.1 a) b z, List.idxOf_append, if_pos (hmem.1 a)]
def prop_Make.t (x : S45) : Int × Int × Int := (x.f0, x.f1, x.f2)
def prop_Make.c (l : List S45) (m : Int) : Bool := chkR (l.map prop_Make.t) m
def prop_MakeY.f (l : List S45) (m : Int) : Option (Option (List (Int × Int × Int))) := if prop_Make.c l m = true then some (some (l.map prop_Make.t)) else none
def prop_MakeN.f (l : List S45) (m : Int) : Option Unit := if prop_Make.c l m = true then none else some ()
theorem prop_Make.loop (m : Int) (xs : List S45) (hn : xs.length ≤ 256) (d : Nat) : ∀ (k i : Nat) (last : Int), i ≤ xs.length → xs.length - i = d → d < k →
  prop_Check.l0 k m last xs (xs.length : Int) (i : Int) = some (chkGo m last ((xs.drop i).map prop_Make.t)) := by
 induction d with
 | zero =>
  intro k i last hi hd hk
  obtain ⟨k, rfl⟩ : ∃ m, k = m + 1 := ⟨k - 1, by omega⟩
  simp only [prop_Check.l0]; rw [if_neg (by omega), List.drop_eq_nil_of_le (by omega)]
  rfl
 | succ d ih =>
  intro k i last hi hd hk
  obtain ⟨k, rfl⟩ : ∃ m, k = m + 1 := ⟨k - 1, by omega⟩
  have hlt : i < xs.length := by omega
  have hrd : rd_T45 xs (i : Int) = xs[i] := by
   unfold rd_T45
   rw [List.getD_eq_getElem?_getD, Int.toNat_natCast, List.getElem?_eq_getElem hlt]; rfl
  simp only [prop_Check.l0]; rw [if_pos (by omega), if_pos (by omega), if_pos (by omega), hrd, List.drop_eq_getElem_cons hlt, List.map_cons]
  rw [show ∀ r, chkGo m last (prop_Make.t xs[i] :: r) = if (xs[i]).f0 ≤ last ∨ (xs[i]).f1 < (xs[i]).f0 ∨ (xs[i]).f1 > 1114111 ∨ (xs[i]).f2 < 0 ∨ (xs[i]).f2 ≥ m ∨ (xs[i]).f2 > 255 then false else chkGo m (xs[i]).f1 r from fun _ => rfl]
  rw [show wrap64 ((i : Int) + 1) = ((i + 1 : Nat) : Int) by unfold wrap64; omega]
  have := ih k (i + 1) (xs[i]).f1 (by omega) (by omega) (by omega)
  by_cases c1 : (xs[i]).f0 ≤ last
  ·rw [if_pos c1, if_pos (by omega)]
  rw [if_neg c1]; by_cases c2 : (xs[i]).f1 < (xs[i]).f0
  ·rw [if_pos c2, if_pos (by omega)]
  rw [if_neg c2]; by_cases c3 : (xs[i]).f1 > 1114111
  ·rw [if_pos c3, if_pos (by omega)]
  rw [if_neg c3]; by_cases c4 : (xs[i]).f2 < 0
  ·rw [if_pos c4, if_pos (by omega)]
  rw [if_neg c4]; by_cases c5 : (xs[i]).f2 ≥ m
  ·rw [if_pos c5, if_pos (by omega)]
  rw [if_neg c5]; by_cases c6 : (xs[i]).f2 > 255
  ·rw [if_pos c6, if_pos (by omega)]
  rw [if_neg c6, if_neg (by omega)]
  exact this
theorem prop_Make.check (l : List S45) (m : Int) : ∃ k, prop_Check.f k l m = some (prop_Make.c l m) := by
 refine ⟨l.length + 1, ?_⟩
 unfold prop_Check.f prop_Make.c chkR
 rw [List.length_map]; by_cases h : (l.length : Int) > 256
 ·rw [if_pos h, if_pos h]
 rw [if_neg h, if_neg h]; have := prop_Make.loop m l (by omega) l.length (l.length + 1) 0 (-1) (by omega) (by omega) (by omega)
 simpa using this
set_option maxHeartbeats 400000 in
theorem prop_MakeN.calls (A0 : Option Addr) (c0 : Nat) (l0 : List S45) (a1 : Int) (w : World) (hr0 : Kd.C k45 w A0 l0.length l0) (hc0 : l0.length ≤ c0) (h : prop_MakeN.f l0 a1 = some ()) :
  Calls Try.prog 14 #[.slice A0 l0.length c0, .int .i64 a1] w fun e w' => e = .returned (.tuple #[.pointer none, .int .i64 10]) ∧ Below w.heap.size w w' := by
 obtain ⟨k, hk⟩ := prop_Make.check l0 a1; have hf : prop_Make.c l0 a1 = false := by
  unfold prop_MakeN.f at h
  split at h
  ·cases h
  ·simpa using (by assumption : ¬ prop_Make.c l0 a1 = true)
 rw [hf] at hk; clear h hf; go_enter Try.func14, Try.ntmps14
 go_wp2_with (go_at_call 33; refine (prop_Check.calls k A0 c0 l0 a1 false w hr0 hc0 hk).mono ?_; rintro e w1 ⟨rfl, hb⟩)
 go_ret2
 exact ⟨rfl, hb⟩
def tcs (f : Nat → Int) (v : Value) : List Value := (List.range 4352).map (fun i => .int .i64 (f i)) ++ [v]
theorem prop_Make.run_make : ∀ w : World, (Instr.makeSlice 76 (.int .i64 1) (.int .i64 1)).run Try.prog w = .ok (.slice (some ⟨w.heap.size, 0, none⟩) 1 1) (w.alloc (.cells (bcs zerosR).toArray 82)) := fun w => by kernel_rfl
theorem prop_Make.run_build (a : Option Addr) (n c : Nat) : ∀ w : World, (Instr.build 79 #[(1, .slice a n c)]).run Try.prog w = .ok (.agg (tcs (fun _ => 0) (.slice a n c)).toArray) w := fun w => by kernel_rfl
theorem prop_Make.run_zv : ∀ w : World, (zeroValue 82).run Try.prog w = .ok (bag zerosR) w := fun w => by kernel_rfl
theorem prop_Make.run_zero : ∀ w : World, (Instr.build 82 #[]).run Try.prog w = .ok (.agg (bcs zerosR).toArray) w := fun w => by kernel_rfl
theorem tcs_get (f : Nat → Int) (v : Value) (j : Nat) (h : j < 4352) : (tcs f v)[j]? = some (.int .i64 (f j)) := by
 unfold tcs
 rw [List.getElem?_append_left (by rw [List.length_map, List.length_range]; exact h), List.getElem?_map, List.getElem?_range h]
 rfl
theorem tcs_len (f : Nat → Int) (v : Value) : (tcs f v).length = 4353 := by
 unfold tcs
 rw [List.length_append, List.length_map, List.length_range]; rfl
theorem tcs_last (f : Nat → Int) (v : Value) : (tcs f v)[4352]? = some v := by
 unfold tcs
 rw [List.getElem?_append_right (by rw [List.length_map, List.length_range]; exact Nat.le_refl _), List.length_map, List.length_range]
 rfl
theorem tcs_out (f : Nat → Int) (v : Value) (j : Nat) (h : 4352 < j) : (tcs f v)[j]? = none := List.getElem?_eq_none (by rw [tcs_len]; exact h)
theorem tcs_ext {f g : Nat → Int} (v : Value) (h : ∀ m, m < 4352 → f m = g m) : tcs f v = tcs g v := by
 unfold tcs
 rw [List.map_congr_left (fun m hm => by rw [h m (List.mem_range.1 hm)])]
theorem tcs_set (f : Nat → Int) (v : Value) (i : Nat) (hi : i < 4352) (x : Int) : (tcs f v).set i (.int .i64 x) = tcs (fun m => if m = i then x else f m) v := by
 apply List.ext_getElem?
 intro j
 rw [List.getElem?_set]; by_cases e : i = j
 ·subst e
  rw [if_pos rfl, if_pos (by rw [tcs_len]; omega), tcs_get _ _ _ hi, if_pos rfl]
 rw [if_neg e]; rcases Nat.lt_trichotomy j 4352 with h | h | h
 ·rw [tcs_get _ _ _ h, tcs_get _ _ _ h, if_neg (fun x => e x.symm)]
 ·subst h; rw [tcs_last, tcs_last]
 rw [tcs_out _ _ _ h, tcs_out _ _ _ h]
theorem tcs_setv (f : Nat → Int) (v u : Value) : (tcs f v).set 4352 u = tcs f u := by
 apply List.ext_getElem?
 intro j
 rw [List.getElem?_set]; by_cases e : 4352 = j
 ·subst e
  rw [if_pos rfl, if_pos (by rw [tcs_len]; omega), tcs_last]
 rw [if_neg e]; rcases Nat.lt_trichotomy j 4352 with h | h | h
 ·rw [tcs_get _ _ _ h, tcs_get _ _ _ h]
 ·exact absurd h.symm e
 rw [tcs_out _ _ _ h, tcs_out _ _ _ h]
theorem grown_setCell (w : World) (a : Addr) (u : Value) : w.grownBy (w.setCell a u) (some a.block) :=
 ⟨rfl, rfl, rfl, by simp [World.setCell], fun k _ hne => heap_setCell_other w a k u (fun e => hne (by rw [e]))⟩
structure PI (w : World) (gt gm : Nat) (f : Nat → Int) (v vr : Value) (bs : List (List Int)) (n : Nat) (D : DataW Unit) (W : World) : Prop where
 tab : W.heap[gt]? = some (.cells (tcs f v).toArray 79)
 row : W.ownsRow w.heap.size 82 256 vr bs.length (bs.flatMap bcs)
 map : W.ownsMap Try.prog 82 (plainElem Try.prog 3) gm n D
 bel : Below w.heap.size w W
 gtb : w.heap.size ≤ gt
 gmb : w.heap.size ≤ gm
section
variable {w : World} {gt gm : Nat} {f : Nat → Int} {v vr : Value} {bs : List (List Int)} {n : Nat} {D : DataW Unit} {W : World}
theorem PI.gt_lt (h : PI w gt gm f v vr bs n D W) : gt < W.heap.size := (Array.getElem?_eq_some_iff.1 h.tab).1
theorem PI.gm_lt (h : PI w gt gm f v vr bs n D W) : gm < W.heap.size := h.map.lt
theorem PI.gm_ne (h : PI w gt gm f v vr bs n D W) : gm ≠ gt := by
 rintro rfl
 obtain ⟨es, c, hb, _⟩ := h.map; rw [h.tab] at hb; cases hb
theorem PI.row_ne (h : PI w gt gm f v vr bs n D W) : vr.ownBlock ≠ some gt := by
 intro e
 obtain ⟨cs, hc⟩ := own_typed h.row gt e; rw [h.tab] at hc; injection hc with hc
 injection hc with _ ht
 exact absurd ht (by decide)
theorem PI.row_ne2 (h : PI w gt gm f v vr bs n D W) : vr.ownBlock ≠ some gm := by
 intro e
 obtain ⟨cs, hc⟩ := own_typed h.row gm e; obtain ⟨es, c, hb, _⟩ := h.map; rw [hb] at hc; cases hc
theorem PI.grown (h : PI w gt gm f v vr bs n D W) {W' : World} {g : Nat} (hg : W.grownBy W' (some g)) (h1 : g ≠ gt) (h2 : g ≠ gm) (h3 : vr.ownBlock ≠ some g) (h4 : w.heap.size ≤ g) : PI w gt gm f v vr bs n D W' :=
 ⟨(hg.block gt h.gt_lt (fun e => h1 (Option.some.inj e).symm)).trans h.tab, h.row.kept hg (.inr h3), h.map.kept hg (fun e => h2 (Option.some.inj e).symm), pw_below_grown h.bel _ h.bel.size hg (fun k e => by obtain rfl := Option.some.inj e; exact h4), h.gtb, h.gmb⟩
theorem PI.fresh (h : PI w gt gm f v vr bs n D W) {W' : World} {g : Nat} (hg : W.grownBy W' (some g)) (hn : W.heap.size ≤ g) : PI w gt gm f v vr bs n D W' :=
 h.grown hg (fun e => by have := h.gt_lt; omega) (fun e => by have := h.gm_lt; omega) (fun e => by have := own_lt h.row _ e; omega) (Nat.le_trans h.bel.size hn)
theorem PI.alloc (h : PI w gt gm f v vr bs n D W) (o : Obj) : PI w gt gm f v vr bs n D (W.alloc o) := h.fresh (World.grownBy_alloc W o _) (Nat.le_refl _)
theorem PI.drewN (h : PI w gt gm f v vr bs n D W) (m : Nat) : PI w gt gm f v vr bs n D (W.drewN m) := ⟨h.tab, h.row, h.map, pw_below_drewN h.bel m, h.gtb, h.gmb⟩
theorem PI.drew (h : PI w gt gm f v vr bs n D W) : PI w gt gm f v vr bs n D W.drew := ⟨h.tab, h.row, h.map, below_drew h.bel, h.gtb, h.gmb⟩
theorem PI.setf (h : PI w gt gm f v vr bs n D W) (i : Nat) (hi : i < 4352) (x : Int) : PI w gt gm (fun m => if m = i then x else f m) v vr bs n D (W.setCell ⟨gt, i, none⟩ (.int .i64 x)) :=
 have hg := grown_setCell W ⟨gt, i, none⟩ (.int .i64 x)
 ⟨(heap_setCell_same W gt i _ 79 _ h.tab).trans (by rw [List.setIfInBounds_toArray, tcs_set f v i hi x]), h.row.kept hg (.inr h.row_ne), h.map.kept hg (fun e => h.gm_ne (Option.some.inj e)), pw_below_grown h.bel _ h.bel.size hg (fun k e => by obtain rfl := Option.some.inj e; exact h.gtb), h.gtb, h.gmb⟩
theorem PI.setv (h : PI w gt gm f v vr bs n D W) : PI w gt gm f vr vr bs n D (W.setCell ⟨gt, 4352, none⟩ vr) :=
 have hg := grown_setCell W ⟨gt, 4352, none⟩ vr
 ⟨(heap_setCell_same W gt 4352 _ 79 _ h.tab).trans (by rw [List.setIfInBounds_toArray, tcs_setv]), h.row.kept hg (.inr h.row_ne), h.map.kept hg (fun e => h.gm_ne (Option.some.inj e)), pw_below_grown h.bel _ h.bel.size hg (fun k e => by obtain rfl := Option.some.inj e; exact h.gtb), h.gtb, h.gmb⟩
theorem PI.append (h : PI w gt gm f v vr bs n D W) {W' : World} {vn : Value} {b : List Int} (hg : W.grownBy W' vr.ownBlock) (ho : W'.ownsRow w.heap.size 82 256 vn (bs ++ [b]).length ((bs ++ [b]).flatMap bcs)) : PI w gt gm f v vn (bs ++ [b]) n D W' :=
 ⟨(hg.block gt h.gt_lt (fun e => h.row_ne e.symm)).trans h.tab, ho, h.map.kept hg (fun e => h.row_ne2 e.symm), pw_below_grown h.bel _ h.bel.size hg (fun k e => own_base h.row k e), h.gtb, h.gmb⟩
theorem PI.put (h : PI w gt gm f v vr bs n D W) {W' : World} {n' : Nat} {D' : DataW Unit} (hg : W.grownBy W' (some gm)) (hm : W'.ownsMap Try.prog 82 (plainElem Try.prog 3) gm n' D') : PI w gt gm f v vr bs n' D' W' :=
 ⟨(hg.block gt h.gt_lt (fun e => h.gm_ne (Option.some.inj e).symm)).trans h.tab, h.row.kept hg (.inr h.row_ne2), hm, pw_below_grown h.bel _ h.bel.size hg (fun k e => by obtain rfl := Option.some.inj e; exact h.gmb), h.gtb, h.gmb⟩
theorem PI.more (h : PI w gt gm f v vr bs n D W) {m : Nat} (hm : n ≤ m) : PI w gt gm f v vr bs m D W := ⟨h.tab, h.row, h.map.mono hm, h.bel, h.gtb, h.gmb⟩
theorem PI.ext (h : PI w gt gm f v vr bs n D W) {g : Nat → Int} (e : ∀ m, m < 4352 → f m = g m) : PI w gt gm g v vr bs n D W := ⟨by rw [← tcs_ext v e]; exact h.tab, h.row, h.map, h.bel, h.gtb, h.gmb⟩
end
theorem prop_Make.infoB : (Try.prog.info? 82).map (fun i => (i.zero, i.size, i.bytes)) = some (some (bag zerosR), 256, 256) := by kernel_rfl
theorem prop_Make.run_slice (w : World) {b : List Int} (hb : b.length = 256) : (Instr.buildSlice 76 1 #[(0, bag b)]).run Try.prog w = .ok (.slice (some ⟨w.heap.size, 0, none⟩) 1 1) (w.alloc (.cells (bcs b).toArray 82)) := by
 obtain ⟨i0, hi, hz0, hz1, hz2⟩ := info_parts prop_Make.infoB; have hbs : (bag b).cells.size = 256 := by unfold bag; show (bcs b).toArray.size = 256; rw [List.size_toArray, bcs_len, hb]
 refine run_buildSlice (P := Try.prog) w 76 82 1 #[(0, bag b)] (bcs b).toArray i0 (bag zerosR) Try.underlying76 hi hz0 (by rw [hz1]; decide) (by rw [hz1]; decide) ?_
 rw [hz1]; have h := Great.fill_whole (s := 256) (by decide) [bag b] ((Array.range (1 * 256)).map ((bag zerosR).cells[· % (bag zerosR).cells.size]!)) (fun v hv => by rw [List.mem_singleton.1 hv]; exact hbs) (by simp)
 refine h.trans ?_
 simp [bag, Value.cells]
section
variable {P : Program} {ops : Array Oper} {o : Oper} {a : Act} {Q : Exit → Act → World → Prop} {K : Act → World → Prop}
theorem load_run {w : World} (ty : TypeId) (x : Operand) (ho : o.op = .load ty x) (g : Nat) (hx : a.eval x = .pointer (some ⟨g, 0, none⟩)) (t : TypeId) (cs : Array Value) (fr : Nat × Nat) (d : TypeDesc) (hg : w.heap[g]? = some (.cells cs t fr))
  (hu : P.underlying ty = some d) (hd : (match d with | .struct _ | .array _ _ => true | _ => false) = true) (hi : (P.info? ty).map (·.size) = some cs.size) : (execOp a.eval o).run P w = .ok (.value (.agg cs)) w := by
 unfold execOp
 simp only [ho, hx, Instr.loadAt, Instr.sureAddr, Sem.run_bind, Sem.run_pure, Result.andThen_ok, run_loadVar_row w g t ty cs fr d hg hu hd hi]
theorem slice_run {w : World} {v r : Value} {w1 : World} (t : TypeId) (x : Operand) (ho : o.op = .buildSlice t 1 #[(0, x)]) (hx : a.eval x = v) (h : (Instr.buildSlice t 1 #[(0, v)]).run P w = .ok r w1) : (execOp a.eval o).run P w = .ok (.value r) w1 := by
 unfold execOp
 simp only [ho, List.map_toArray, List.map_cons, List.map_nil, Sem.run_bind, hx, h]; rfl
theorem step_append_cb {w0 W : World} {cb : Array Value} {ys : List Value} (hcb : cb = ys.toArray) (base : Nat) (hw : Region.wanted o (yielded ops a.tmps) = true) (s x : Operand) (t e : TypeId) (z : Value) (size bytes : Nat)
  (ho : o.op = .call { callee := .builtin .append, args := #[s, x], argTypes := #[t, t] })
  (ht : P.underlying t = some (.slice e)) (hinfo : (P.info? e).map (fun i => (i.zero, i.size, i.bytes)) = some (some z, size, bytes)) (hz : z.cells.size = size) (hs0 : 0 < size) (hb0 : 0 < bytes)
  (v : Value) (n : Nat) (xs : List Value) (hs : a.eval s = v) (hx : a.eval x = .slice (some ⟨W.heap.size, 0, none⟩) 1 1) (hys : ys.length = size) (h1 : ∀ u ∈ ys, u.oneCell' = true)
  (HO : W.ownsRow base e size v n xs) (HB : Below base w0 W) (hbase : base ≤ W.heap.size) (hl : (n + 1) * bytes ≤ 140737488355328)
  (h : ∀ v1 w1, w1.ownsRow base e size v1 (n + 1) (xs ++ ys) → Below base w0 w1 → W.grownBy w1 v.ownBlock → (v1.ownBlock = v.ownBlock ∨ ∃ b, v1.ownBlock = some b ∧ W.heap.size ≤ b) → K (a.put o.dst v1) w1) :
  if Region.wanted o (yielded ops a.tmps) = true then Oper.wp P o a (W.alloc (.cells cb e)) K Q else K (a.put o.dst undef) (W.alloc (.cells cb e)) := by
 subst hcb; exact step_append_cells base hw s x t e z size bytes ho ht hinfo hz hs0 hb0 v n xs ys hs hx hys h1 HO HB hbase hl h
end
theorem bcs_one (b : List Int) : ∀ u ∈ bcs b, u.oneCell' = true := by
 intro u hu
 obtain ⟨x, _, rfl⟩ := List.mem_map.1 hu; rfl
theorem bcs_snoc (bs : List (List Int)) (b : List Int) : bs.flatMap bcs ++ bcs b = (bs ++ [b]).flatMap bcs := by rw [List.flatMap_append, List.flatMap_singleton]
theorem grown_refl (w : World) (row : Option Nat) : w.grownBy w row := ⟨rfl, rfl, rfl, Nat.le_refl _, fun _ _ _ => rfl⟩
def preR (L : List (Int × Int × Int)) (i n : Nat) : List Int := (List.range 256).map fun (j : Nat) => ofR (L.take n) ((i : Int) * 256 + (j : Int))
def midR (L : List (Int × Int × Int)) (i n : Nat) (lo hi tv r : Int) : List Int := (List.range 256).map fun (j : Nat) => if lo ≤ (i : Int) * 256 + (j : Int) ∧ (i : Int) * 256 + (j : Int) < r ∧ (i : Int) * 256 + (j : Int) ≤ hi then tv else ofR (L.take n) ((i : Int) * 256 + (j : Int))
theorem map_range_congr {f g : Nat → Int} (h : ∀ j, j < 256 → f j = g j) : (List.range 256).map f = (List.range 256).map g := List.map_congr_left (fun j hj => h j (List.mem_range.1 hj))
theorem preR_zero {L : List (Int × Int × Int)} {i k : Nat} (h : ∀ m y, m < k → L[m]? = some y → y.2.1 < (i : Int) * 256) : preR L i k = zerosR := by
 have e : zerosR = (List.range 256).map fun _ => 0 := by unfold zerosR; rw [List.map_const', List.length_range]
 rw [e]; refine map_range_congr fun j hj => ofR_none _ fun y hy => ?_
 obtain ⟨m, hm⟩ := List.mem_iff_getElem?.1 hy; rw [List.getElem?_take] at hm; split at hm
 ·have := h m y (by assumption) hm
  omega
 cases hm
theorem preR_len {L : List (Int × Int × Int)} {i n : Nat} (h : L.length = n) : preR L i n = rowR L i := by
 unfold preR rowR
 rw [List.take_of_length_le (by omega)]
theorem preR_stop {L : List (Int × Int × Int)} {i n : Nat} {most : Int} {y : Int × Int × Int} (hc : chkGo most (-1) L = true) (hy : L[n]? = some y) (h : (i : Int) * 256 + 255 < y.1) : preR L i n = rowR L i := by
 refine map_range_congr fun j hj => (ofR_stop _ fun m z hm hz => ?_).symm
 have h1 := chkGo_get hc m z hz; rcases Nat.eq_or_lt_of_le hm with e | e
 ·subst e
  rw [hy] at hz; obtain rfl := Option.some.inj hz
  omega
 have h2 := chkGo_lt hc n m y z e hy hz; have h3 := chkGo_get hc n y hy; omega
theorem midR_start {L : List (Int × Int × Int)} {i n : Nat} {lo hi tv r : Int} (h : r ≤ lo ∨ r ≤ (i : Int) * 256) : midR L i n lo hi tv r = preR L i n := map_range_congr fun j hj => if_neg (by omega)
theorem midR_end {L : List (Int × Int × Int)} {i n : Nat} {lo hi tv r : Int} (hy : L[n]? = some (lo, hi, tv)) (h : hi < r ∨ (i : Int) * 256 + 255 < r) : midR L i n lo hi tv r = preR L i (n + 1) :=
 map_range_congr fun j hj => by
  rw [ofR_take hy]; by_cases e : lo ≤ (i : Int) * 256 + (j : Int) ∧ (i : Int) * 256 + (j : Int) ≤ hi
  ·rw [if_pos ⟨e.1, by omega, e.2⟩, if_pos e]
  ·rw [if_neg (fun h => e ⟨h.1, h.2.2⟩), if_neg e]
theorem midR_set {L : List (Int × Int × Int)} {i n : Nat} {lo hi tv r : Int} (h1 : lo ≤ r) (h2 : (i : Int) * 256 ≤ r) (h3 : r ≤ hi) (h4 : r ≤ (i : Int) * 256 + 255) : (midR L i n lo hi tv r).set (r - (i : Int) * 256).toNat tv = midR L i n lo hi tv (r + 1) := by
 apply List.ext_getElem?
 intro j
 unfold midR
 rw [List.getElem?_set, List.length_map, List.length_range]; by_cases hj : j < 256
 rotate_left
 ·rw [List.getElem?_eq_none (l := List.map _ _) (by rw [List.length_map, List.length_range]; omega), List.getElem?_eq_none (l := List.map _ _) (by rw [List.length_map, List.length_range]; omega)]
  split
  ·split
   ·omega
   rfl
  rfl
 rw [List.getElem?_map, List.getElem?_map, List.getElem?_range hj]; simp only [Option.map_some]; by_cases e : (r - (i : Int) * 256).toNat = j
 ·rw [if_pos e, if_pos (by omega), if_pos (by omega)]
 rw [if_neg e]; congr 1
 by_cases e2 : lo ≤ (i : Int) * 256 + (j : Int) ∧ (i : Int) * 256 + (j : Int) < r ∧ (i : Int) * 256 + (j : Int) ≤ hi
 ·rw [if_pos e2, if_pos (by omega)]
 rw [if_neg e2, if_neg (by omega)]
theorem midR_len (L : List (Int × Int × Int)) (i n : Nat) (lo hi tv r : Int) : (midR L i n lo hi tv r).length = 256 := by unfold midR; rw [List.length_map, List.length_range]
theorem bcs_set (b : List Int) (q : Nat) (x : Int) : (bcs b).set q (.int .u8 x) = bcs (b.set q x) := by unfold bcs; rw [List.map_set]
theorem to_lt {a b : Int} (h : a < b) (h0 : 0 < b) : a.toNat < b.toNat := by omega
theorem rowR_byt {L : List (Int × Int × Int)} {most last : Int} (h : chkGo most last L = true) (i : Nat) : Byt (rowR L i) := ⟨rowR_len L i, fun c hc => by
 obtain ⟨j, _, rfl⟩ := List.mem_map.1 hc; exact ofR_byte h _⟩
theorem zerosR_byt : Byt zerosR := ⟨zerosR_len, fun c hc => by rw [List.eq_of_mem_replicate hc]; omega⟩
theorem prop_Make.guard (x y : Operand) (a b : Array Value) (w : World) : (eqGuard .eql 82 x y (.agg a) (.agg b)).run Try.prog w = .ok () w := by
 have h : Try.prog.eqGuardType Try.prog.depth 82 = false := by kernel_rfl
 unfold eqGuard
 simp [Sem.run_bind, h]
theorem prop_Make.eql (x y : Operand) {a b : List Int} (ha : Byt a) (hb : Byt b) (w : World) : (do eqGuard .eql 82 x y (bag a) (bag b); binOp .eql 82 (bag a) (bag b) : Sem Value).run Try.prog w = .ok (.bool (decide (a = b))) w := by
 rw [Sem.run_bind, show Sem.run Try.prog (eqGuard .eql 82 x y (bag a) (bag b)) w = .ok () w from prop_Make.guard ..]; show ((do pure (.bool (← Op.equal 82 (bag a) (bag b))) : Sem Value).run Try.prog w) = _
 rw [Sem.run_bind, prop_Make.eq_run w ha hb]; rfl
theorem zerosR_mem (L : List (Int × Int × Int)) (i : Nat) : zerosR ∈ blR L i := by
 obtain ⟨t, ht⟩ := blR_head L i; rw [ht]; simp
theorem ixR_skip {L : List (Int × Int × Int)} {i m : Nat} (hz : rowR L i = zerosR) : (if m < i then (ixR L m : Int) else 0) = if m < i + 1 then (ixR L m : Int) else 0 := by
 by_cases h : m < i
 ·rw [if_pos h, if_pos (by omega)]
 by_cases h2 : m = i
 ·subst h2
  rw [if_neg h, if_pos (by omega), ixR_zero hz]
  rfl
 rw [if_neg h, if_neg (by omega)]
theorem ixR_step {L : List (Int × Int × Int)} {i m : Nat} {x : Int} (hx : (ixR L i : Int) = x) : (if m = i then x else if m < i then (ixR L m : Int) else 0) = if m < i + 1 then (ixR L m : Int) else 0 := by
 by_cases h : m < i
 ·rw [if_neg (by omega), if_pos h, if_pos (by omega)]
 by_cases h2 : m = i
 ·subst h2
  rw [if_pos rfl, if_pos (by omega), hx]
 rw [if_neg h2, if_neg h, if_neg (by omega)]
theorem bag_size : (bag zerosR).cells.size = 256 := by
 show (bcs zerosR).toArray.size = 256
 rw [List.size_toArray, bcs_len, zerosR_len]
theorem flat_get : ∀ (bs : List (List Int)), (∀ b ∈ bs, b.length = 256) → ∀ (j q : Nat), j < bs.length → q < 256 → (bs.flatMap bcs)[j * 256 + q]? = some (.int .u8 ((bs.getD j []).getD q 0))
 | [], _, j, _, hj, _ => by simp at hj
 | b :: bs, h, j, q, hj, hq => by
  have hb := h b (by simp)
  rw [List.flatMap_cons]; cases j with
  | zero =>
   have hl : q < (bcs b).length := by rw [bcs_len, hb]; exact hq
   rw [Nat.zero_mul, Nat.zero_add, List.getElem?_append_left hl, List.getElem?_eq_getElem hl, bcs_get b q hl]; rfl
  | succ j =>
   rw [List.getElem?_append_right (by rw [bcs_len, hb]; omega), bcs_len, hb, show (j + 1) * 256 + q - 256 = j * 256 + q by omega, flat_get bs (fun b hb => h b (by simp [hb])) j q (by simpa using hj) hq]
   rfl
theorem PI.start {w w1 w2 : World} {zb : Array Value} {tc : Value → Array Value} {gt : Nat} (hzb : zb = (bcs zerosR).toArray) (htc : ∀ v, (tcs (fun _ => 0) v).toArray = tc v) (hb1 : Below w.heap.size w w1) (hgt : gt = (w1.alloc (.cells zb 82)).heap.size)
  (hc : w2.heap[gt]? = some (.cells (tc (.slice (some ⟨w1.heap.size, 0, none⟩) 1 1)) 79)) (hbt : Below (w1.alloc (.cells zb 82)).heap.size (w1.alloc (.cells zb 82)) w2) :
  PI w gt w2.heap.size (fun _ => 0) (.slice (some ⟨w1.heap.size, 0, none⟩) 1 1) (.slice (some ⟨w1.heap.size, 0, none⟩) 1 1) [zerosR] 0 (.map []) (w2.alloc (.map #[] 0)) := by
 have hb2 : Below w.heap.size w w2 := below_then (below_alloc hb1 _) (Nat.le_trans hb1.size (by simp)) hbt
 have hr : (w1.alloc (.cells zb 82)).ownsRow w.heap.size 82 256 (.slice (some ⟨w1.heap.size, 0, none⟩) 1 1) [zerosR].length ([zerosR].flatMap bcs) := by
  have := World.ownsRow_lit (base := w.heap.size) (e := 82) (size := 256) w1 zb 1 hb1.size (by decide) (by rw [hzb, List.size_toArray, bcs_len]; exact zerosR_len)
  rw [hzb] at this ⊢; simpa using this
 refine ⟨?_, (pw_own_below hr hbt).alloc _, World.ownsMap_made _ _ _ _, below_alloc hb2 _, by rw [hgt]; exact Nat.le_trans hb1.size (by simp), hb2.size⟩
 rw [htc]; exact (heap_alloc_old w2 (.map #[] 0) (Array.getElem?_eq_some_iff.1 hc).1).trans hc
theorem PI.done {w : World} {gt gm : Nat} {L : List (Int × Int × Int)} {v : Value} {D : DataW Unit} {W : World} {m : Int} (hm : chkGo m (-1) L = true) (h : PI w gt gm (fun m => if m < 4352 then (ixR L m : Int) else 0) v v (blR L 4352) 4352 D W) :
  ∃ (g1 : Nat) (o1 : Obj) (g2 : Nat) (o2 : Obj), (Ending.returned (.tuple #[.pointer (some ⟨gt, 0, none⟩), .int .i64 0])) = .returned (.tuple #[.pointer (some ⟨g1, 0, none⟩), .int .i64 0]) ∧ W.heap[g1]? = some o1 ∧ W.heap[g2]? = some o2 ∧ w.heap.size ≤ g1 ∧ w.heap.size ≤ g2 ∧ g1 ≠ g2 ∧ TabO (.pointer (some ⟨g1, 0, none⟩)) g1 o1 g2 o2 (some L) ∧ Below w.heap.size w W := by
 rcases h.row.2 with ⟨_, h0⟩ | ⟨g, cap, cur, rfl, hb, hg, hle, _, hsz, htake⟩
 ·have := blR_ne L 4352
  omega
 refine ⟨gt, _, g, _, rfl, h.tab, hg, h.gtb, hb, fun e => h.row_ne (by rw [e]; rfl), ⟨L, rfl, rfl, 79, 82, (0, 0), (0, 0), (tcs (fun m => if m < 4352 then (ixR L m : Int) else 0) (.slice (some ⟨g, 0, none⟩) (blR L 4352).length cap)).toArray, cur, cap, rfl, rfl, ?_, ?_, ?_, fun r => ofR_byte hm r⟩, h.bel⟩
 ·intro i hi
  rw [List.getElem?_toArray, tcs_get _ _ _ hi, if_pos hi]
 ·rw [List.getElem?_toArray, tcs_last]
 intro j q hj hq
 have h1 : (cur.toList.take ((blR L 4352).length * 256))[j * 256 + q]? = ((blR L 4352).flatMap bcs)[j * 256 + q]? := by rw [htake]
 have hlt : j * 256 + q < (blR L 4352).length * 256 := by
  have : (j + 1) * 256 ≤ (blR L 4352).length * 256 := Nat.mul_le_mul_right _ hj
  omega
 rw [List.getElem?_take, if_pos hlt, Array.getElem?_toList] at h1; rw [h1, flat_get (blR L 4352) (blR_256 L 4352) j q hj hq]
theorem prop_Make.at (l : List S45) (m : Nat) (h : m < l.length) : (l.map prop_Make.t)[m]? = some ((rd_T45 l (m : Int)).f0, (rd_T45 l (m : Int)).f1, (rd_T45 l (m : Int)).f2) := by
 unfold rd_T45
 rw [List.getElem?_map, List.getElem?_eq_getElem h, List.getD_eq_getElem?_getD, Int.toNat_natCast, List.getElem?_eq_getElem h]; rfl
set_option maxHeartbeats 400000 in
set_option maxRecDepth 100000 in
theorem prop_MakeY.calls (A0 : Option Addr) (c0 : Nat) (l0 : List S45) (a1 : Int) (r : Option (List (Int × Int × Int))) (w : World) (hr0 : Kd.C k45 w A0 l0.length l0) (hc0 : l0.length ≤ c0) (h : prop_MakeY.f l0 a1 = some r) :
  Calls Try.prog 14 #[.slice A0 l0.length c0, .int .i64 a1] w fun e w' => ∃ (g1 : Nat) (o1 : Obj) (g2 : Nat) (o2 : Obj), e = .returned (.tuple #[.pointer (some ⟨g1, 0, none⟩), .int .i64 0]) ∧ w'.heap[g1]? = some o1 ∧ w'.heap[g2]? = some o2 ∧ w.heap.size ≤ g1 ∧ w.heap.size ≤ g2 ∧ g1 ≠ g2 ∧ TabO (.pointer (some ⟨g1, 0, none⟩)) g1 o1 g2 o2 r ∧ Below w.heap.size w w' := by
 obtain ⟨k, hk⟩ := prop_Make.check l0 a1; have hf : prop_Make.c l0 a1 = true ∧ r = some (l0.map prop_Make.t) := by
  unfold prop_MakeY.f at h
  split at h
  ·exact ⟨by assumption, (Option.some.inj h).symm⟩
  ·cases h
 obtain ⟨hf, rfl⟩ := hf; rw [hf] at hk; have HF : zA (chkGo a1 (-1) (l0.map prop_Make.t) = true) := ⟨chkR_go hf⟩
 have HLEN : zA (l0.length ≤ 256) := ⟨by have := chkR_len hf; rwa [List.length_map] at this⟩
 clear h hf; obtain ⟨L, hL⟩ : ∃ L, L = l0.map prop_Make.t := ⟨_, rfl⟩; rw [← hL] at HF ⊢; have HL : zA (∀ m, m < l0.length → L[m]? = some ((rd_T45 l0 (m : Int)).f0, (rd_T45 l0 (m : Int)).f1, (rd_T45 l0 (m : Int)).f2)) := ⟨fun m hm => by rw [hL]; exact prop_Make.at l0 m hm⟩
 have HLL : zA (L.length = l0.length) := ⟨by rw [hL, List.length_map]⟩
 clear hL; have HR0 := zA.mk hr0; clear hr0; have hmm := @run_makeMap Try.prog; have hR1 := prop_Make.run_make; have hR2 := prop_Make.run_build; have hR3 := prop_Make.run_zv; have hR4 := prop_Make.run_zero; obtain ⟨zb, hzb⟩ : ∃ zb, zb = (bcs zerosR).toArray := ⟨_, rfl⟩; obtain ⟨tc, htc⟩ : ∃ tc : Value → Array Value, ∀ v, (tcs (fun _ => 0) v).toArray = tc v := ⟨_, fun _ => rfl⟩
 rw [show bag zerosR = .agg (bcs zerosR).toArray from rfl] at hR3; rw [← hzb] at hR1 hR3 hR4; replace hR2 : ∀ (a : Option Addr) (n c : Nat) (w : World), (Instr.build 79 #[(1, .slice a n c)]).run Try.prog w = .ok (.agg (tc (.slice a n c))) w := fun a n c w => by rw [← htc]; exact hR2 a n c w
 have HZB := zA.mk hzb; have HTC := zA.mk htc; clear hzb htc; go_enter Try.func14, Try.ntmps14
 go_wp2_with (first | (go_at_call 33; refine (prop_Check.calls k A0 c0 l0 a1 true w HR0.out hc0 hk).mono ?_; rintro e w1 ⟨rfl, hb1⟩) | ((with_reducible refine gate_dst (N := 21) rfl ?_); refine Kd.event_run rfl (v := .slice (some ⟨w1.heap.size, 0, none⟩) 1 1) (w1 := w1.alloc (.cells zb 82)) ?hr1 ?_; (case hr1 => show (Sem.run Try.prog (do pure (Next.value (← Instr.makeSlice 76 (.int .i64 1) (.int .i64 1)))) _) = _; rw [Sem.run_bind, hR1]; rfl)) | ((with_reducible refine gate_dst (N := 22) rfl ?_); refine Kd.event_run rfl (v := .agg (tc (.slice (some ⟨w1.heap.size, 0, none⟩) 1 1))) (w1 := w1.alloc (.cells zb 82)) ?hr2 ?_; (case hr2 => simp only [execOp, List.map_toArray, List.map_cons, List.map_nil, Sem.run_bind]; rw [show Act.eval _ (Operand.tmp 21) = Value.slice (some ⟨w1.heap.size, 0, none⟩) 1 1 from rfl, hR2]; rfl)) | ((with_reducible refine gate_dst (N := 23) rfl ?_); refine box_event rfl (N := 23) rfl (cs := tc (.slice (some ⟨w1.heap.size, 0, none⟩) 1 1)) (t := 79) ?hr3 ?_; (case hr3 => first | (go_simp; done) | (go_simp; rfl)); intro gt hgt w2 hgt2 hbt; have HP := zA.mk (PI.start HZB.out HTC.out hb1 hgt hgt2 hbt); clear hgt hgt2 hbt hb1))
 clear hR1 hR2 hmm HTC hk hc0; generalize w2.alloc (Obj.map #[] 0) = W0 at HP ⊢
 generalize w2.heap.size = gm at HP ⊢
 go_loopw [8, 25] (fun v8 v25 wr => ∃ (i k : Nat) (v : Value) (D : DataW Unit), v25 = .int .i64 (i : Int) ∧ v8 = .int .i64 (k : Int) ∧ i ≤ 4352 ∧ k ≤ l0.length ∧ zA (∀ m y, m < k → L[m]? = some y → y.2.1 < (i : Int) * 256) ∧ zA (PI w gt gm (fun m => if m < i then (ixR L m : Int) else 0) v v (blR L i) i D wr) ∧ zA (SeenR Try.prog 82 D (blR L i))) (fun _ v25 _ => 4352 - (intOf v25).toNat)
 case atStart => exact ⟨0, 0, _, _, rfl, rfl, by omega, by omega, ⟨fun m _ hm => by omega⟩, HP, ⟨SeenR.start⟩⟩
 obtain ⟨i, k, v, D, rfl, rfl, hi, hk, HK, HP2, HS⟩ := hrel; clear HP; by_cases hlt : i < 4352
 rotate_left
 ·obtain rfl : i = 4352 := by omega
  go_wp2
  go_ret2
  exact PI.done HF.out HP2.out
 have bi : decide ((i : Int) < 4352) = true := decide_eq_true (by omega)
 go_upto_block 2 with (first | ((with_reducible refine gate_dst (N := 12) rfl ?_); refine box_event rfl (N := 12) rfl (cs := zb) (t := 82) ?hr4 ?_; (case hr4 => first | (go_simp; done) | (go_simp; rfl)); intro gb hgb w3 hgb2 hb3; have HP3 := zA.mk (HP2.out.fresh (grown_of_below hb3 (some gb)) (by rw [hgb]; exact Nat.le_refl _)); have HGB := zA.mk hgb2; have HNB := zA.mk (show gb ≠ gt ∧ gb ≠ gm ∧ v.ownBlock ≠ some gb ∧ w.heap.size ≤ gb from ⟨fun e => by have := HP2.out.gt_lt; omega, fun e => by have := HP2.out.gm_lt; omega, fun e => by have := own_lt HP2.out.row _ e; omega, by rw [hgb]; exact HP2.out.bel.size⟩); clear hgb hgb2 hb3 HP2))
 (try simp only [Act.put, sA_, sB_, sC_])
 go_cut [8] (fun v8 wc => ∃ k : Nat, v8 = .int .i64 (k : Int) ∧ k ≤ l0.length ∧ zA (∀ m y, m < k → L[m]? = some y → y.2.1 < (i : Int) * 256) ∧ w3 = wc)
 case first =>
  go_wp2
  go_loop [8] (fun v8 => ∃ k : Nat, v8 = .int .i64 (k : Int) ∧ k ≤ l0.length ∧ zA (∀ m y, m < k → L[m]? = some y → y.2.1 < (i : Int) * 256)) (fun v8 => l0.length - (intOf v8).toNat)
  case atStart => exact ⟨k, rfl, hk, HK⟩
  clear hk HK; obtain ⟨k, rfl, hk, HK⟩ := hrel; by_cases hkl : k < l0.length
  rotate_left
  ·go_wp2
   go_meet
   case rel => exact ⟨k, rfl, hk, HK, rfl⟩
  obtain ⟨ad, rfl, x0, x1, x2⟩ := at_T45 (Kd.zH HR0.out HP3.out.bel) (k : Int) (by omega) (by omega)
  have hLk := zA.mk (HL.out k hkl); simp only [Int.toNat_natCast] at x0 x1 x2; generalize rd_T45 l0 (k : Int) = y at x0 x1 x2 hLk
  clear x0 x2; have hlen := HLEN.out; have b1 : decide ((k : Int) < (l0.length : Int)) = true := decide_eq_true (by omega)
  by_cases hh : y.f1 < (i : Int) * 256
  rotate_left
  ·have b2 : decide (y.f1 < (i : Int) * 256) = false := decide_eq_false hh
   go_wp2
   go_meet
   case rel => exact ⟨k, rfl, hk, HK, rfl⟩
  have b2 : decide (y.f1 < (i : Int) * 256) = true := decide_eq_true hh
  go_wp2
  go_round
  case rel => exact ⟨k + 1, by go_num, by omega, ⟨fun m z hm hz => by
   rcases Nat.lt_or_ge m k with h1 | h1
   ·exact HK.out m z h1 hz
   ·obtain rfl : m = k := by omega
    rw [hLk.out] at hz; obtain rfl := Option.some.inj hz
    exact hh⟩⟩
  case measure => simp [intOf]; omega
 clear hk HK; obtain ⟨k, rfl, hk, HK, rfl⟩ := hcut; go_upto_block 4 with (fail)
 (try simp only [Act.put, sA_, sB_, sC_])
 go_cut [] (fun wc => zA (w3.grownBy wc (some gb)) ∧ zA (wc.heap[gb]? = some (.cells (bcs (rowR L i)).toArray 82)))
 case first =>
  go_wp2
  go_loopw [13] (fun v13 wr => ∃ n : Nat, v13 = .int .i64 (n : Int) ∧ k ≤ n ∧ n ≤ l0.length ∧ zA (w3.grownBy wr (some gb)) ∧ zA (wr.heap[gb]? = some (.cells (bcs (preR L i n)).toArray 82))) (fun v13 _ => l0.length - (intOf v13).toNat)
  case atStart => exact ⟨k, rfl, Nat.le_refl _, hk, ⟨grown_refl _ _⟩, ⟨by rw [preR_zero HK.out, ← HZB.out]; exact HGB.out⟩⟩
  obtain ⟨n, rfl, hkn, hn, HG, HB⟩ := hrel; have HBL := zA.mk (pw_below_grown HP3.out.bel (some gb) HP3.out.bel.size HG.out (fun q e => by obtain rfl := Option.some.inj e; exact HNB.out.2.2.2))
  by_cases hnl : n < l0.length
  rotate_left
  ·obtain rfl : n = l0.length := by omega
   go_wp2
   go_meet
   case rel => exact ⟨HG, ⟨by rw [← preR_len HLL.out]; exact HB.out⟩⟩
  obtain ⟨ad, rfl, x0, x1, x2⟩ := at_T45 (Kd.zH HR0.out HBL.out) (n : Int) (by omega) (by omega)
  have hLn := zA.mk (HL.out n hnl); simp only [Int.toNat_natCast] at x0 x1 x2; have hch := chkGo_get HF.out n _ hLn.out; obtain ⟨y, hy⟩ : ∃ y, rd_T45 l0 (n : Int) = y := ⟨_, rfl⟩; rw [hy] at x0 x1 x2 hLn hch; have HY := zA.mk hy; clear hy; simp only at hch
  obtain ⟨hc1, hc2, hc3, hc4, _, hc5⟩ := hch; have hlen := HLEN.out; have b1 : decide ((n : Int) < (l0.length : Int)) = true := decide_eq_true (by omega)
  by_cases hh : y.f0 ≤ (i : Int) * 256 + 255
  rotate_left
  ·have b2 : decide (y.f0 ≤ (i : Int) * 256 + 255) = false := decide_eq_false hh
   clear x1 x2; go_wp2
   go_meet
   case rel => exact ⟨HG, ⟨by rw [← preR_stop HF.out hLn.out (by omega)]; exact HB.out⟩⟩
  have b2 : decide (y.f0 ≤ (i : Int) * 256 + 255) = true := decide_eq_true hh
  go_upto_block 5 with (fail)
  (try simp only [Act.put, sA_, sB_, sC_])
  go_cut [] (fun wc => zA (w3.grownBy wc (some gb)) ∧ zA (wc.heap[gb]? = some (.cells (bcs (preR L i (n + 1))).toArray 82)))
  case first =>
   obtain ⟨r0, hr0⟩ : ∃ r0, (if y.f0 < (i : Int) * 256 then (i : Int) * 256 else y.f0) = r0 := ⟨_, rfl⟩; go_wp2
   have hr1 : y.f0 ≤ r0 ∧ (i : Int) * 256 ≤ r0 ∧ (r0 ≤ y.f0 ∨ r0 ≤ (i : Int) * 256) ∧ r0 ≤ 1114112 := by rw [← hr0]; split <;> omega
   clear hr0 b1 b2 x0 x1 x2; obtain ⟨wo, rfl⟩ : ∃ wo : World, wo = wr := ⟨_, rfl⟩; go_loopw [14] (fun v14 wq => ∃ r : Int, v14 = .int .i32 r ∧ y.f0 ≤ r ∧ (i : Int) * 256 ≤ r ∧ r ≤ 1114112 ∧ zA (w3.grownBy wq (some gb)) ∧ zA (wq.heap[gb]? = some (.cells (bcs (midR L i n y.f0 y.f1 y.f2 r)).toArray 82))) (fun v14 _ => (1114112 - intOf v14).toNat)
   case atStart => exact ⟨r0, rfl, hr1.1, hr1.2.1, hr1.2.2.2, HG, ⟨by rw [midR_start hr1.2.2.1]; exact HB.out⟩⟩
   clear HG HB HBL hr1; obtain ⟨r, rfl, hr1, hr2, hr3, HG, HB⟩ := hrel; obtain ⟨m, rfl⟩ := Int.eq_ofNat_of_zero_le (show 0 ≤ r by omega)
   have HBL := zA.mk (pw_below_grown HP3.out.bel (some gb) HP3.out.bel.size HG.out (fun q e => by obtain rfl := Option.some.inj e; exact HNB.out.2.2.2))
   obtain ⟨ad', e', x0, x1, x2⟩ := at_T45 (Kd.zH HR0.out HBL.out) (n : Int) (by omega) (by omega)
   obtain rfl : ad = ad' := by injection e'
   simp only [Int.toNat_natCast] at x0 x1 x2; rw [HY.out] at x0 x1 x2; clear x0 e'; have b1 : decide ((n : Int) < (l0.length : Int)) = true := decide_eq_true (by omega)
   by_cases hq : (m : Int) ≤ y.f1 ∧ (m : Int) ≤ (i : Int) * 256 + 255
   rotate_left
   ·obtain ⟨mn, hmn⟩ : ∃ mn, (if (i : Int) * 256 + 255 < y.f1 then (i : Int) * 256 + 255 else y.f1) = mn := ⟨_, rfl⟩
    have hm2 : decide ((m : Int) ≤ mn) = false := decide_eq_false (by rw [← hmn]; split <;> omega)
    go_wp2
    go_meet
    case rel => exact ⟨HG, ⟨by rw [← midR_end hLn.out (show y.f1 < (m : Int) ∨ (i : Int) * 256 + 255 < (m : Int) by omega)]; exact HB.out⟩⟩
   obtain ⟨mn, hmn⟩ : ∃ mn, (if (i : Int) * 256 + 255 < y.f1 then (i : Int) * 256 + 255 else y.f1) = mn := ⟨_, rfl⟩; have hm2 : decide ((m : Int) ≤ mn) = true := decide_eq_true (by rw [← hmn]; split <;> omega)
   obtain ⟨q, hqq⟩ : ∃ q, q = m % 256 := ⟨_, rfl⟩; have hand := i32_and255 m (by omega)
   rw [← hqq] at hand; have hq1 : (q : Int) < 256 := by omega
   have hq3 : q = ((m : Int) - (i : Int) * 256).toNat := by omega
   clear hqq; have HC := zA.mk hq3; clear hq3; have hfz : wr.frozen? ⟨gb, q, none⟩ = false := frozen_of_row wr gb q _ 82 HB.out
   have hcc : wr.cell? ⟨gb, q, none⟩ = some (.int .u8 ((midR L i n y.f0 y.f1 y.f2 (m : Int)).getD q 0)) := by
    rw [cell_of_row wr gb q _ 82 _ HB.out, List.getElem?_toArray, List.getElem?_eq_getElem (by rw [bcs_len, midR_len]; omega), bcs_get]
   generalize (midR L i n y.f0 y.f1 y.f2 (m : Int)).getD q 0 = old at hcc
   go_wp2
   go_roundw
   case rel => exact ⟨(m : Int) + 1, by go_num, by omega, by omega, by omega, ⟨HG.out.trans (grown_setCell wr ⟨gb, q, none⟩ _)⟩, ⟨(heap_setCell_same wr gb q _ 82 _ HB.out).trans (by rw [List.setIfInBounds_toArray, bcs_set, HC.out, midR_set (by omega) (by omega) (by omega) (by omega)])⟩⟩
   case measure => exact to_lt (show (1114112 : Int) - ((m : Int) + 1) < 1114112 - (m : Int) by omega) (show (0 : Int) < 1114112 - (m : Int) by omega)
  clear HG HB HBL; obtain ⟨HG, HB⟩ := hcut; go_wp2
  go_roundw
  case rel => exact ⟨n + 1, by go_num, by omega, by omega, HG, HB⟩
  case measure => simp [intOf]; omega
 obtain ⟨HG, HB⟩ := hcut; have HP4 := zA.mk (HP3.out.grown HG.out HNB.out.1 HNB.out.2.1 HNB.out.2.2.1 HNB.out.2.2.2); clear HG HP3 HGB; have HBY : zA (Byt (rowR L i)) := ⟨rowR_byt HF.out i⟩
 obtain ⟨kl, hkl⟩ := prop_Make.hkey HBY.out; obtain ⟨cb, hcb⟩ : ∃ cb, cb = (bcs (rowR L i)).toArray := ⟨_, rfl⟩; rw [show bag (rowR L i) = .agg (bcs (rowR L i)).toArray from rfl, ← hcb] at hkl; rw [← hcb] at HB; have HSZ : zA ((Try.prog.info? 82).map (·.size) = some cb.size) := ⟨by rw [hcb, List.size_toArray, bcs_len, rowR_len]; kernel_rfl⟩
 have HCB := zA.mk hcb; have HKL := zA.mk hkl; clear hcb hkl; by_cases hz : rowR L i = zerosR
 ·have HZ := zA.mk hz
  clear hz; go_wp2_with (first | ((with_reducible refine gate_dst (N := 93) rfl ?_); refine wpList_load_row rfl 82 (.tmp 12) rfl gb rfl 82 cb (0, 0) (.array 256 5) HB.out Try.underlying82 rfl HSZ.out ?_) | ((with_reducible refine gate_dst (N := 95) rfl ?_); refine Kd.event_run rfl (v := .bool true) (w1 := wc) ?he ?_; (case he => have e1 := prop_Make.eql (.tmp 93) (.tmp 94) HBY.out zerosR_byt wc; rw [show bag (rowR L i) = .agg (bcs (rowR L i)).toArray from rfl, ← HCB.out, show bag zerosR = .agg (bcs zerosR).toArray from rfl, ← HZB.out, decide_eq_true HZ.out] at e1; simp only [execOp]; exact (show Sem.run Try.prog (do let r_ ← (do eqGuard .eql 82 (.tmp 93) (.tmp 94) (.agg cb) (.agg zb); binOp .eql 82 (.agg cb) (.agg zb)); pure (Next.value r_)) wc = _ from by rw [Sem.run_bind, e1]; rfl))))
  go_roundw
  case rel => exact ⟨i + 1, k, v, D, by go_num, rfl, by omega, hk, ⟨fun m y hm hy => by have := HK.out m y hm hy; omega⟩, ⟨by rw [blR_old (by rw [HZ.out]; exact zerosR_mem L i)]; exact (HP4.out.more (Nat.le_succ i)).ext (fun m hm => ixR_skip HZ.out)⟩, ⟨by rw [blR_old (by rw [HZ.out]; exact zerosR_mem L i)]; exact HS.out⟩⟩
  case measure => simp [intOf]; omega
 have HZ := zA.mk hz; clear hz; obtain ⟨hh1, hh2⟩ := HS.out (rowR L i) kl HBY.out (by rw [show bag (rowR L i) = .agg (bcs (rowR L i)).toArray from rfl, ← HCB.out]; exact HKL.out)
 have HHA := zA.mk hh1; have HHB := zA.mk hh2; clear hh1 hh2; by_cases hm : rowR L i ∈ blR L i
 ·have hha : Maps.has D kl = true := by rw [HHA.out, decide_eq_true ⟨hm, HZ.out⟩]
  have HM := zA.mk hm; clear hm; have hci : wc.cell? ⟨gt, i, none⟩ = some (.int .i64 0) := by rw [cell_of_row wc gt i _ 79 _ HP4.out.tab, List.getElem?_toArray, tcs_get _ _ _ hlt, if_neg (Nat.lt_irrefl _)]
  have hfi : wc.frozen? ⟨gt, i, none⟩ = false := frozen_of_row wc gt i _ 79 HP4.out.tab
  go_wp2_with (first | ((with_reducible refine gate_dst (N := 93) rfl ?_); refine wpList_load_row rfl 82 (.tmp 12) rfl gb rfl 82 cb (0, 0) (.array 256 5) HB.out Try.underlying82 rfl HSZ.out ?_) | ((with_reducible refine gate_dst (N := 95) rfl ?_); refine Kd.event_run rfl (v := .bool false) (w1 := wc) ?he ?_; (case he => have e1 := prop_Make.eql (.tmp 93) (.tmp 94) HBY.out zerosR_byt wc; rw [show bag (rowR L i) = .agg (bcs (rowR L i)).toArray from rfl, ← HCB.out, show bag zerosR = .agg (bcs zerosR).toArray from rfl, ← HZB.out, decide_eq_false HZ.out] at e1; simp only [execOp]; exact (show Sem.run Try.prog (do let r_ ← (do eqGuard .eql 82 (.tmp 93) (.tmp 94) (.agg cb) (.agg zb); binOp .eql 82 (.agg cb) (.agg zb)); pure (Next.value r_)) wc = _ from by rw [Sem.run_bind, e1]; rfl))) | ((with_reducible refine gate_dst (N := 98) rfl ?_); refine wpList_load_row rfl 82 (.tmp 12) rfl gb rfl 82 cb (0, 0) (.array 256 5) HB.out Try.underlying82 rfl HSZ.out ?_) | (at_lookup; refine wpList_lookup_own_ok_int _ rfl _ _ 80 rfl 82 3 .i64 prop_Make.law Try.underlying80 Try.underlying3 (prop_Make.zeroE _) gm i D rfl HP4.out.map (.agg cb) kl rfl HKL.out ?_; intro c hat hwc))
  have HCX := zA.mk (show (ixR L i : Int) = c by
   have h2 := (HHB.out HM.out HZ.out _).symm.trans hat; injection h2 with h2
   injection h2 with _ h2
   rw [ixR_old HM.out]; exact h2)
  clear hat hci hfi; go_roundw
  case rel => exact ⟨i + 1, k, v, D, by go_num, rfl, by omega, hk, ⟨fun m y hm hy => by have := HK.out m y hm hy; omega⟩, ⟨by rw [blR_old HM.out]; exact ((HP4.out.setf i hlt c).more (Nat.le_succ i)).ext (fun m hm => ixR_step HCX.out)⟩, ⟨by rw [blR_old HM.out]; exact HS.out⟩⟩
  case measure => simp [intOf]; omega
 have hha : Maps.has D kl = false := by rw [HHA.out, decide_eq_false (fun h => hm h.1)]
 have HM := zA.mk hm; clear hm; obtain ⟨g, cap, hv, hg1, hg2⟩ := HP4.out.row.form (blR_ne L i); subst hv; have hcv : wc.cell? ⟨gt, 4352, none⟩ = some (.slice (some ⟨g, 0, none⟩) (blR L i).length cap) := by rw [cell_of_row wc gt _ _ 79 _ HP4.out.tab, List.getElem?_toArray, tcs_last]
 have hfv : wc.frozen? ⟨gt, 4352, none⟩ = false := frozen_of_row wc gt _ _ 79 HP4.out.tab
 go_wp2_with (first | ((with_reducible refine gate_dst (N := 93) rfl ?_); refine wpList_load_row rfl 82 (.tmp 12) rfl gb rfl 82 cb (0, 0) (.array 256 5) HB.out Try.underlying82 rfl HSZ.out ?_) | ((with_reducible refine gate_dst (N := 95) rfl ?_); refine Kd.event_run rfl (v := .bool false) (w1 := wc) ?he ?_; (case he => have e1 := prop_Make.eql (.tmp 93) (.tmp 94) HBY.out zerosR_byt wc; rw [show bag (rowR L i) = .agg (bcs (rowR L i)).toArray from rfl, ← HCB.out, show bag zerosR = .agg (bcs zerosR).toArray from rfl, ← HZB.out, decide_eq_false HZ.out] at e1; simp only [execOp]; exact (show Sem.run Try.prog (do let r_ ← (do eqGuard .eql 82 (.tmp 93) (.tmp 94) (.agg cb) (.agg zb); binOp .eql 82 (.agg cb) (.agg zb)); pure (Next.value r_)) wc = _ from by rw [Sem.run_bind, e1]; rfl))) | ((with_reducible refine gate_dst (N := 98) rfl ?_); refine wpList_load_row rfl 82 (.tmp 12) rfl gb rfl 82 cb (0, 0) (.array 256 5) HB.out Try.underlying82 rfl HSZ.out ?_) | (at_lookup; refine wpList_lookup_own_ok_int _ rfl _ _ 80 rfl 82 3 .i64 prop_Make.law Try.underlying80 Try.underlying3 (prop_Make.zeroE _) gm i D rfl HP4.out.map (.agg cb) kl rfl HKL.out ?_; intro c hat hwc))
 have HN1 := zA.mk (show gb < wc.heap.size from (Array.getElem?_eq_some_iff.1 HB.out).1); refine start_ (n := 11) (S := fun w' => w'.cell? ⟨gt, 4352, none⟩ = some (.slice (some ⟨g, 0, none⟩) (blR L i).length cap) ∧ w'.heap[gb]? = some (.cells cb 82)) (ds := [7, 10]) #[false, false, false, false, false, false, false, false, false, false, false] (by kernel_rfl) rfl rfl ⟨hcv, HB.out⟩ (fun hHeld => ?_)
 have HP5 := zA.mk HP4.out.drew; have HB5 := zA.mk (show wc.drew.heap[gb]? = some (.cells cb 82) from HB.out); clear HP4 HB hcv hfv HN1; generalize wc.drew = wd at hHeld HP5 HB5 ⊢
 refine pure_ (i := 0) (N := some 109) (v := ?_) (a' := ?_) (tf_ 1 11) rfl rfl (by kernel_rfl) (fun _ _ _ h => h) (Or.inl ⟨by rfl, ?_⟩) ?_ ?_
 rotate_left
 ·intro w'
  go_simp
  with_reducible rfl
 rotate_left
 ·simp only [Act.put, sA_, sB_, sC_]
  rfl
 refine pure_ (i := 1) (N := some 110) (v := ?_) (a' := ?_) (tf_ 2 11) rfl rfl (by kernel_rfl) (fun _ _ _ h => h) (Or.inl ⟨by rfl, ?_⟩) ?_ ?_
 rotate_left
 ·intro w'
  go_simp
  with_reducible rfl
 rotate_left
 ·simp only [Act.put, sA_, sB_, sC_]
  rfl
 refine pure_ (i := 2) (N := some 111) (v := ?_) (a' := ?_) (tf_ 3 11) rfl rfl (by kernel_rfl) (fun _ _ _ h => h) (Or.inl ⟨by rfl, ?_⟩) ?_ ?_
 rotate_left
 ·intro w'
  go_simp
  with_reducible rfl
 rotate_left
 ·simp only [Act.put, sA_, sB_, sC_]
  rfl
 refine pure_ (i := 3) (N := some 112) (v := ?_) (a' := ?_) (tf_ 4 11) rfl rfl (by kernel_rfl) (fun _ _ _ h => h) (Or.inl ⟨by rfl, ?_⟩) ?_ ?_
 rotate_left
 ·intro w'
  go_simp
  with_reducible rfl
 rotate_left
 ·simp only [Act.put, sA_, sB_, sC_]
  rfl
 refine take_ (i := 4) (N := some 113) (v := ?_) (a' := ?_) (tf_ 5 11) rfl rfl (by kernel_rfl) (fun _ _ _ h => h) (Or.inl ⟨by rfl, ?_⟩) hHeld ?_ ?_
 rotate_left
 ·rintro w' ⟨s0, s1⟩
  go_simp
  with_reducible rfl
 rotate_left
 ·simp only [Act.put, sA_, sB_, sC_]
  rfl
 refine take_ (i := 5) (N := some 114) (v := .agg cb) (a' := ?_) (tf_ 6 11) rfl rfl (by kernel_rfl) (fun _ _ _ h => h) (Or.inl ⟨by rfl, ?_⟩) hHeld ?_ ?_
 ·rintro w' ⟨s0, s1⟩
  exact load_run 82 (.tmp 12) rfl gb rfl 82 cb (0, 0) (.array 256 5) s1 Try.underlying82 rfl HSZ.out
 rotate_left
 ·simp only [Act.put, sA_, sB_, sC_]
  rfl
 refine one_ (i := 6) (N := some 115) (tb_ 127 11) rfl rfl (by kernel_rfl) (by decide) (fun K hK => ?_)
 refine value_ (w1 := wd.alloc (.cells cb 82)) (v := .slice (some ⟨wd.heap.size, 0, none⟩) 1 1) (by rfl) rfl ?_ ?_
 ·have e1 := prop_Make.run_slice wd (rowR_len L i)
  rw [show bag (rowR L i) = .agg (bcs (rowR L i)).toArray from rfl, ← HCB.out] at e1; exact slice_run 76 (.tmp 114) rfl rfl e1
 refine hK.out _ _ ⟨(World.cell?_alloc_lt _ _ _ (World.block_lt_of_cell? _ _ hHeld.1)).trans hHeld.1, blk_alloc hHeld.2 _⟩ (fun hHeld => ?_)
 clear hK K; refine norm_ (a' := ?_) ?_ ?_
 rotate_left
 ·show Act.put _ (some 115) _ = _
  simp only [Act.put, sA_, sB_, sC_]; rfl
 refine last_ (i := 7) (N := some 116) (tb_ 255 11) rfl rfl (by kernel_rfl) (by decide) (fun K hK => ?_)
 refine step_append_cb HCB.out (w0 := w) w.heap.size (by rfl) (.tmp 113) (.tmp 115) 76 82 (bag zerosR) 256 256 rfl Try.underlying76 prop_Make.infoB bag_size (by decide) (by decide) (.slice (some ⟨g, 0, none⟩) (blR L i).length cap) (blR L i).length _ rfl rfl (by rw [bcs_len, rowR_len]) (bcs_one _) HP5.out.row HP5.out.bel HP5.out.bel.size (by have := blR_len L i; omega) ?_
 intro vn w5 hown hbn hgn _
 rw [bcs_snoc, show (blR L i).length + 1 = (blR L i ++ [rowR L i]).length by rw [List.length_append]; rfl] at hown
 have HP6 := zA.mk (HP5.out.append hgn hown); have HB6 := zA.mk ((hgn.block gb (Array.getElem?_eq_some_iff.1 HB5.out).1 (fun e => HNB.out.2.2.1 e.symm)).trans HB5.out)
 obtain ⟨g5, cap5, hv5, _, _⟩ := HP6.out.row.form (by rw [List.length_append]; exact Nat.succ_pos _)
 subst hv5; have hcv5 : w5.cell? ⟨gt, 4352, none⟩ = some (.slice (some ⟨g, 0, none⟩) (blR L i).length cap) := by rw [cell_of_row w5 gt _ _ 79 _ HP6.out.tab, List.getElem?_toArray, tcs_last]
 have hfv5 : w5.frozen? ⟨gt, 4352, none⟩ = false := frozen_of_row w5 gt _ _ 79 HP6.out.tab
 clear hown hbn hgn HP5 HB5 hHeld; refine hK.out _ _ ?_
 clear hK K; refine norm_ (a' := ?_) ?_ ?_
 rotate_left
 ·show Act.put _ (some 116) _ = _
  simp only [Act.put, sA_, sB_, sC_]; rfl
 refine pure_ (i := 8) (N := some 117) (v := ?_) (a' := ?_) (tf_ 9 11) rfl rfl (by kernel_rfl) (fun _ _ _ h => h) (Or.inl ⟨by rfl, ?_⟩) ?_ ?_
 rotate_left
 ·intro w'
  go_simp
  with_reducible rfl
 rotate_left
 ·simp only [Act.put, sA_, sB_, sC_]
  rfl
 refine pure_ (i := 9) (N := some 118) (v := ?_) (a' := ?_) (tf_ 10 11) rfl rfl (by kernel_rfl) (fun _ _ _ h => h) (Or.inl ⟨by rfl, ?_⟩) ?_ ?_
 rotate_left
 ·intro w'
  go_simp
  with_reducible rfl
 rotate_left
 ·simp only [Act.put, sA_, sB_, sC_]
  rfl
 refine last_ (i := 10) (N := none) (tb_ 2047 11) rfl rfl (by kernel_rfl) (by decide) (fun K hK => ?_)
 refine skip_ (w1 := w5.setCell ⟨gt, 4352, none⟩ (.slice (some ⟨g5, 0, none⟩) (blR L i ++ [rowR L i]).length cap5)) (by rfl) rfl ?_ ?_
 ·first | (go_simp; done) | (go_simp; rfl)
 refine hK.out _ _ ?_
 clear hK K; refine done_ (by kernel_rfl) ?_
 have HP7 := zA.mk HP6.out.setv; have HB7 := zA.mk ((heap_setCell_other w5 ⟨gt, 4352, none⟩ gb (.slice (some ⟨g5, 0, none⟩) (blR L i ++ [rowR L i]).length cap5) HNB.out.1).trans HB6.out); clear HP6 HB6 hcv5 hfv5; generalize w5.setCell ⟨gt, 4352, none⟩ (.slice (some ⟨g5, 0, none⟩) (blR L i ++ [rowR L i]).length cap5) = w6 at HP7 HB7 ⊢
 go_wp2_with (first | ((with_reducible refine gate_dst (N := 120) rfl ?_); refine wpList_load_row rfl 82 (.tmp 12) rfl gb rfl 82 cb (0, 0) (.array 256 5) HB7.out Try.underlying82 rfl HSZ.out ?_) | (at_mapUpdate; refine wpList_mapUpdate_own _ rfl _ _ _ 80 rfl 82 3 prop_Make.law Try.underlying80 _ gm i D rfl HP7.out.map (by unfold maxLen; omega) (.agg cb) (.int .i64 ((blR L i).length : Int)) kl rfl rfl HKL.out (.lit (.int .i64 ((blR L i).length : Int))) [] (plainElem_int Try.underlying3 (WalkArith.wf_i64 (by have := blR_len L i; omega))) ?_; intro w7 hown7 hgn7; have HP8 := zA.mk (HP7.out.put hgn7 hown7); have hci : w7.cell? ⟨gt, i, none⟩ = some (.int .i64 0) := (by rw [cell_of_row w7 gt i _ 79 _ HP8.out.tab, List.getElem?_toArray, tcs_get _ _ _ hlt, if_neg (Nat.lt_irrefl _)]); have hfi : w7.frozen? ⟨gt, i, none⟩ = false := frozen_of_row w7 gt i _ 79 HP8.out.tab; have HIM := zA.mk HP7.out.map.isMap; clear hown7 hgn7 HP7 HB7))
 clear hci hfi; go_roundw
 case rel => exact ⟨i + 1, k, _, _, by go_num, rfl, by omega, hk, ⟨fun m y hm hy => by have := HK.out m y hm hy; omega⟩, ⟨by rw [blR_new HM.out]; exact (HP8.out.setf i hlt ((blR L i).length : Int)).ext (fun m hm => ixR_step (by rw [ixR_new HM.out]))⟩, ⟨by rw [blR_new HM.out]; exact HS.out.put HIM.out (zerosR_mem L i) HBY.out (by rw [show bag (rowR L i) = .agg (bcs (rowR L i)).toArray from rfl, ← HCB.out]; exact HKL.out) HM.out⟩⟩
 case measure => simp [intOf]; omega
def prop_Table_Of.f (a0 : Option (List (Int × Int × Int))) (a1 : Int) : Option (Int) := some (tabOf a0 a1)
set_option maxHeartbeats 8000000 in
set_option maxRecDepth 100000 in
theorem prop_Table_Of.calls (vt0_ : Value) (a0 : Option (List (Int × Int × Int))) (a1 : Int) (r : Int) (w : World) (hta0 : TabAt w a0 vt0_) (h : prop_Table_Of.f a0 a1 = some r) :
  Calls Try.prog 22 #[vt0_, .int .i32 a1] w fun e w' => e = .returned (.int .i64 r) ∧ Drawn0 w w' := by
 obtain rfl := Option.some.inj h
 clear h; cases a0 with
 | none =>
  obtain rfl : vt0_ = .pointer none := hta0
  have hr : tabOf none a1 = 0 := rfl
  rw [hr]; go_enter Try.func22, Try.ntmps22
  go_wp2
  go_ret
  exact ⟨rfl, Drawn0.refl _⟩
 | some l =>
  obtain ⟨g1, o1, g2, o2, h1, h2, rfl, t1, t2, f1, f2, cs1, cs2, c, rfl, rfl, hix, hsl, hbl, hby⟩ := hta0; by_cases c1 : a1 < 0
  ·rw [show tabOf (some l) a1 = 0 from if_pos (.inl c1)]
   have b1 : decide (a1 < 0) = true := decide_eq_true c1
   go_enter Try.func22, Try.ntmps22
   go_wp2
   go_ret
   exact ⟨rfl, Drawn0.refl _⟩
  have b1 : decide (a1 < 0) = false := decide_eq_false c1
  by_cases c2 : a1 > 1114111
  ·rw [show tabOf (some l) a1 = 0 from if_pos (.inr c2)]
   have b2 : decide (1114111 < a1) = true := decide_eq_true c2
   go_enter Try.func22, Try.ntmps22
   go_wp2
   go_ret
   exact ⟨rfl, Drawn0.refl _⟩
  have b2 : decide (1114111 < a1) = false := decide_eq_false c2
  obtain ⟨m, rfl⟩ := Int.eq_ofNat_of_zero_le (show 0 ≤ a1 by omega)
  have hm : m ≤ 1114111 := by omega
  have hlt : ixR l (m / 256) < (blR l 4352).length := ixR_lt l (by omega)
  have hget : (((blR l 4352).getD (ixR l (m / 256)) []).getD (m % 256) 0) = tabOf (some l) m := by
   rw [List.getD_eq_getElem?_getD (l := blR l 4352), ixR_get l (show m / 256 < 4352 by omega)]
   show (rowR l (m / 256)).getD (m % 256) 0 = _
   rw [rowR_get l _ _ (by omega), show tabOf (some l) (m : Int) = ofR l m from if_neg (by omega)]
   congr 1
   omega
  have hcS : w.cell? ⟨g1, 4352, none⟩ = some (.slice (some ⟨g2, 0, none⟩) (blR l 4352).length c) := (cell_of_row w g1 _ _ _ _ h1).trans hsl
  have hcI : w.cell? ⟨g1, m / 256, none⟩ = some (.int .i64 (ixR l (m / 256) : Int)) := (cell_of_row w g1 _ _ _ _ h1).trans (hix _ (by omega))
  have hcB : w.cell? ⟨g2, ixR l (m / 256) * 256 + m % 256, none⟩ = some (.int .u8 (tabOf (some l) m)) := (cell_of_row w g2 _ _ _ _ h2).trans ((hbl _ _ hlt (by omega)).trans (by rw [hget]))
  have hb0 := hby (m : Int); rw [← show tabOf (some l) (m : Int) = ofR l m from if_neg (by omega)] at hb0
  obtain ⟨hb0, hb1⟩ := hb0; generalize tabOf (some l) (m : Int) = r at hcB hb0 hb1 ⊢
  generalize ixR l (m / 256) = x at hcI hcB hlt
  generalize (blR l 4352).length = n at hcS hlt
  have hand := i32_and255 m (by omega)
  clear hget hix hsl hbl hby h1 h2 hm; go_enter Try.func22, Try.ntmps22
  go_wp2
  go_quiet (fail)
  go_wp2
  go_ret
  exact ⟨rfl, by repeat (first | exact Drawn0.refl _ | apply Drawn0.step)⟩
def cells_kind.f (a0 : Int) : Option (Int) := if a0 = 32 then (some 1) else (if a0 = 9 then (some 2) else (some 0))
set_option maxHeartbeats 8000000 in
set_option maxRecDepth 100000 in
theorem cells_kind.calls (a0 : Int) (r : Int) (w : World) (h : cells_kind.f a0 = some r) :
  Calls Try.prog 36 #[.int .i32 a0] w fun e w' => e = .returned (.int .u8 r) ∧ Drawn0 w w' := by
 have H : (if a0 = 32 then (some 1) else (if a0 = 9 then (some 2) else (some 0))) = some r := h
 clear h; by_cases c2 : a0 = 32
 ·rw [if_pos c2] at H
  have c2b0 : (a0 == 32) = true := beq_iff_eq.mpr c2
  have c2b1 : (a0 != 32) = false := bne_eq_false_iff_eq.mpr c2
  clear c2; obtain rfl := Option.some.inj H
  go_enter Try.func36, Try.ntmps36
  go_wp2
  go_ret
  exact ⟨by first | rfl | (simp; done) | (simp [*]; done), by repeat (first | exact Drawn0.refl _ | apply Drawn0.step)⟩
 rw [if_neg c2] at H; have c2b0 : (a0 == 32) = false := beq_eq_false_iff_ne.mpr c2
 have c2b1 : (a0 != 32) = true := bne_iff_ne.mpr c2
 by_cases c3 : a0 = 9
 ·rw [if_pos c3] at H
  have c3b0 : (a0 == 9) = true := beq_iff_eq.mpr c3
  have c3b1 : (a0 != 9) = false := bne_eq_false_iff_eq.mpr c3
  clear c3; obtain rfl := Option.some.inj H
  go_enter Try.func36, Try.ntmps36
  go_wp2
  go_ret
  exact ⟨by first | rfl | (simp; done) | (simp [*]; done), by repeat (first | exact Drawn0.refl _ | apply Drawn0.step)⟩
 rw [if_neg c3] at H; have c3b0 : (a0 == 9) = false := beq_eq_false_iff_ne.mpr c3
 have c3b1 : (a0 != 9) = true := bne_iff_ne.mpr c3
 obtain rfl := Option.some.inj H
 go_enter Try.func36, Try.ntmps36
 go_wp2
 go_ret
 exact ⟨by first | rfl | (simp; done) | (simp [*]; done), by repeat (first | exact Drawn0.refl _ | apply Drawn0.step)⟩
mutual
def cells_Make.l0 : Nat → List (S50) → List Int → Option (List (Int × Int × Int)) → List (S48) → List Int → List (S50) → Int → Int → Option ((List (S48)) × List Int)
 | 0, _, _, _, _, _, _, _, _ => none
 | k + 1, x0, x1, x2, x8, x9, x13, x14, x15 => if x15 < x14 then (if 0 ≤ x15 then (if x15 < (x13.length : Int) then (if x15 = 0 then (cells_Make.j1 k x0 x1 x2 x8 x9 x15 x13 x14 x15 true ((rd_T50 x13 x15).f0) ((rd_T50 x13 x15).f1) ((rd_T50 x13 x15).f2)) else (if x15 < (x1.length : Int) then (cells_Make.j1 k x0 x1 x2 x8 x9 x15 x13 x14 x15 ((rd x1 x15) != 0) ((rd_T50 x13 x15).f0) ((rd_T50 x13 x15).f1) ((rd_T50 x13 x15).f2)) else (cells_Make.j1 k x0 x1 x2 x8 x9 x15 x13 x14 x15 false ((rd_T50 x13 x15).f0) ((rd_T50 x13 x15).f1) ((rd_T50 x13 x15).f2)))) else (none)) else (none)) else (if x9.length < 17592186044416 then (some (x8, (x9 ++ [(x0.length : Int)]))) else (none))
def cells_Make.j1 : Nat → List (S50) → List Int → Option (List (Int × Int × Int)) → List (S48) → List Int → Int → List (S50) → Int → Int → Bool → Int → Int → Int → Option ((List (S48)) × List Int)
 | 0, _, _, _, _, _, _, _, _, _, _, _, _, _ => none
 | k + 1, x0, x1, x2, x8, x9, x10, x13, x14, x15, x34, x108000, x108001, x108002 => if x34 = true then ((cells_kind.f x108000).bind fun t109 => (if x8.length < 4398046511104 then ((some (x8 ++ [(⟨x108001, 0, 0, t109⟩ : S48)] : List (S48))).bind fun y110 => (if x9.length < 17592186044416 then ((some (x9 ++ [x10] : List Int)).bind fun y113 => (if 0 ≤ (wrap64 ((y110.length : Int) - 1)) then (if (wrap64 ((y110.length : Int) - 1)) < (y110.length : Int) then (if 0 ≤ (wrap64 ((y113.length : Int) - 1)) then (if (wrap64 ((y113.length : Int) - 1)) < (y113.length : Int) then (if (rd y113 (wrap64 ((y113.length : Int) - 1))) = x10 then ((some (y110.set ((wrap64 ((y110.length : Int) - 1)) : Int).toNat (⟨(rd_T48 y110 (wrap64 ((y110.length : Int) - 1))).f0, wrap64 (((rd_T48 y110 (wrap64 ((y110.length : Int) - 1))).f1) + x108002), (rd_T48 y110 (wrap64 ((y110.length : Int) - 1))).f2, (rd_T48 y110 (wrap64 ((y110.length : Int) - 1))).f3⟩ : S48) : List (S48))).bind fun y119 => ((prop_Table_Of.f x2 x108000).bind fun t121 => (cells_Make.l0 k x0 x1 x2 (y119.set ((wrap64 ((y110.length : Int) - 1)) : Int).toNat (⟨(rd_T48 y119 (wrap64 ((y110.length : Int) - 1))).f0, (rd_T48 y119 (wrap64 ((y110.length : Int) - 1))).f1, mx ((rd_T48 y119 (wrap64 ((y110.length : Int) - 1))).f2) (mn t121 2), (rd_T48 y119 (wrap64 ((y110.length : Int) - 1))).f3⟩ : S48)) y113 x13 x14 (wrap64 (x15 + 1))))) else ((some (y110.set ((wrap64 ((y110.length : Int) - 1)) : Int).toNat (⟨(rd_T48 y110 (wrap64 ((y110.length : Int) - 1))).f0, (rd_T48 y110 (wrap64 ((y110.length : Int) - 1))).f1, (rd_T48 y110 (wrap64 ((y110.length : Int) - 1))).f2, 0⟩ : S48) : List (S48))).bind fun y123 => ((some (y123.set ((wrap64 ((y110.length : Int) - 1)) : Int).toNat (⟨(rd_T48 y123 (wrap64 ((y110.length : Int) - 1))).f0, wrap64 (((rd_T48 y123 (wrap64 ((y110.length : Int) - 1))).f1) + x108002), (rd_T48 y123 (wrap64 ((y110.length : Int) - 1))).f2, (rd_T48 y123 (wrap64 ((y110.length : Int) - 1))).f3⟩ : S48) : List (S48))).bind fun y125 => ((prop_Table_Of.f x2 x108000).bind fun t127 => (cells_Make.l0 k x0 x1 x2 (y125.set ((wrap64 ((y110.length : Int) - 1)) : Int).toNat (⟨(rd_T48 y125 (wrap64 ((y110.length : Int) - 1))).f0, (rd_T48 y125 (wrap64 ((y110.length : Int) - 1))).f1, mx ((rd_T48 y125 (wrap64 ((y110.length : Int) - 1))).f2) (mn t127 2), (rd_T48 y125 (wrap64 ((y110.length : Int) - 1))).f3⟩ : S48)) y113 x13 x14 (wrap64 (x15 + 1))))))) else (none)) else (none)) else (none)) else (none))) else (none))) else (none))) else (if 0 ≤ (wrap64 ((x8.length : Int) - 1)) then (if (wrap64 ((x8.length : Int) - 1)) < (x8.length : Int) then (if 0 ≤ (wrap64 ((x9.length : Int) - 1)) then (if (wrap64 ((x9.length : Int) - 1)) < (x9.length : Int) then (if (rd x9 (wrap64 ((x9.length : Int) - 1))) = x10 then ((some (x8.set ((wrap64 ((x8.length : Int) - 1)) : Int).toNat (⟨(rd_T48 x8 (wrap64 ((x8.length : Int) - 1))).f0, wrap64 (((rd_T48 x8 (wrap64 ((x8.length : Int) - 1))).f1) + x108002), (rd_T48 x8 (wrap64 ((x8.length : Int) - 1))).f2, (rd_T48 x8 (wrap64 ((x8.length : Int) - 1))).f3⟩ : S48) : List (S48))).bind fun y132 => ((prop_Table_Of.f x2 x108000).bind fun t134 => (cells_Make.l0 k x0 x1 x2 (y132.set ((wrap64 ((x8.length : Int) - 1)) : Int).toNat (⟨(rd_T48 y132 (wrap64 ((x8.length : Int) - 1))).f0, (rd_T48 y132 (wrap64 ((x8.length : Int) - 1))).f1, mx ((rd_T48 y132 (wrap64 ((x8.length : Int) - 1))).f2) (mn t134 2), (rd_T48 y132 (wrap64 ((x8.length : Int) - 1))).f3⟩ : S48)) x9 x13 x14 (wrap64 (x15 + 1))))) else ((some (x8.set ((wrap64 ((x8.length : Int) - 1)) : Int).toNat (⟨(rd_T48 x8 (wrap64 ((x8.length : Int) - 1))).f0, (rd_T48 x8 (wrap64 ((x8.length : Int) - 1))).f1, (rd_T48 x8 (wrap64 ((x8.length : Int) - 1))).f2, 0⟩ : S48) : List (S48))).bind fun y136 => ((some (y136.set ((wrap64 ((x8.length : Int) - 1)) : Int).toNat (⟨(rd_T48 y136 (wrap64 ((x8.length : Int) - 1))).f0, wrap64 (((rd_T48 y136 (wrap64 ((x8.length : Int) - 1))).f1) + x108002), (rd_T48 y136 (wrap64 ((x8.length : Int) - 1))).f2, (rd_T48 y136 (wrap64 ((x8.length : Int) - 1))).f3⟩ : S48) : List (S48))).bind fun y138 => ((prop_Table_Of.f x2 x108000).bind fun t140 => (cells_Make.l0 k x0 x1 x2 (y138.set ((wrap64 ((x8.length : Int) - 1)) : Int).toNat (⟨(rd_T48 y138 (wrap64 ((x8.length : Int) - 1))).f0, (rd_T48 y138 (wrap64 ((x8.length : Int) - 1))).f1, mx ((rd_T48 y138 (wrap64 ((x8.length : Int) - 1))).f2) (mn t140 2), (rd_T48 y138 (wrap64 ((x8.length : Int) - 1))).f3⟩ : S48)) x9 x13 x14 (wrap64 (x15 + 1))))))) else (none)) else (none)) else (none)) else (none))
end
def cells_Make.f (k : Nat) (l0 : List (S50)) (l1 : List Int) (a2 : Option (List (Int × Int × Int))) : Option ((List (S48)) × List Int) := cells_Make.l0 k l0 l1 a2 ([] : List (S48)) ([] : List Int) l0 (l0.length : Int) 0
theorem cells_Make.mono_l : ∀ k, (∀ y0 y1 y2 y3 y4 y5 y6 y7, LeO (cells_Make.l0 k y0 y1 y2 y3 y4 y5 y6 y7) (cells_Make.l0 (k + 1) y0 y1 y2 y3 y4 y5 y6 y7)) ∧ (∀ y0 y1 y2 y3 y4 y5 y6 y7 y8 y9 y10 y11 y12, LeO (cells_Make.j1 k y0 y1 y2 y3 y4 y5 y6 y7 y8 y9 y10 y11 y12) (cells_Make.j1 (k + 1) y0 y1 y2 y3 y4 y5 y6 y7 y8 y9 y10 y11 y12))
 | 0 => ⟨fun _ _ _ _ _ _ _ _ r h => by simp [cells_Make.l0] at h, fun _ _ _ _ _ _ _ _ _ _ _ _ _ r h => by simp [cells_Make.j1] at h⟩
 | k + 1 => by
  obtain ⟨ih0, ih1⟩ := cells_Make.mono_l k; refine ⟨?_, ?_⟩
  ·intro y0 y1 y2 y3 y4 y5 y6 y7
   unfold cells_Make.l0
   repeat' (with_reducible first | exact ih0 _ _ _ _ _ _ _ _ | exact ih1 _ _ _ _ _ _ _ _ _ _ _ _ _ | exact LeO.refl _ | exact LeO.none _ | refine LeO.ite ?_ ?_ | refine LeO.bind ?_ (fun _ => ?_))
  ·intro y0 y1 y2 y3 y4 y5 y6 y7 y8 y9 y10 y11 y12
   unfold cells_Make.j1
   repeat' (with_reducible first | exact ih0 _ _ _ _ _ _ _ _ | exact ih1 _ _ _ _ _ _ _ _ _ _ _ _ _ | exact LeO.refl _ | exact LeO.none _ | refine LeO.ite ?_ ?_ | refine LeO.bind ?_ (fun _ => ?_))
theorem cells_Make.mono : ∀ a0 a1 a2 k, LeO (cells_Make.f k a0 a1 a2) (cells_Make.f (k + 1) a0 a1 a2) := by
 intro a0 a1 a2 k
 obtain ⟨ih0, ih1⟩ := cells_Make.mono_l k; unfold cells_Make.f
 repeat' (with_reducible first | exact ih0 _ _ _ _ _ _ _ _ | exact ih1 _ _ _ _ _ _ _ _ _ _ _ _ _ | exact LeO.refl _ | exact LeO.none _ | refine LeO.ite ?_ ?_ | refine LeO.bind ?_ (fun _ => ?_))
def cells_Make.T7 : Bool × List (List Nat × List Nat) := (true, [([], []), ([], []), ([1], [1]), ([], []), ([3], [3]), ([4], [4]), ([2, 5], [2, 5]), ([6], [6]), ([0, 7, 5], [0, 7]), ([8, 8, 0, 1, 2, 3, 4, 5, 6, 7, 8], [0, 8])])
def cells_Make.B7 : List Nat := [0, 0, 2, 0, 8, 24, 62, 126, 255, 511]
theorem cells_Make.tab7 : rtab .any (opsOf Try.f17 7) = cells_Make.T7 := by kernel_rfl
theorem cells_Make.bits7 : waitsOk cells_Make.T7.2 cells_Make.B7 = true := by kernel_rfl
def cells_Make.T12 : Bool × List (List Nat × List Nat) := (true, [([], []), ([0], [0]), ([1], [1]), ([2], [2]), ([], []), ([4], [4]), ([3, 5], [3, 5]), ([0, 0, 1, 2, 3, 4, 5, 6], [0]), ([7, 0, 1, 2, 3, 4, 5, 6], [7]), ([8, 6, 0, 1, 2, 3, 4, 5, 6], [6, 8])])
def cells_Make.B12 : List Nat := [0, 1, 3, 7, 0, 16, 63, 127, 255, 511]
theorem cells_Make.tab12 : rtab .any (opsOf Try.f17 12) = cells_Make.T12 := by kernel_rfl
theorem cells_Make.bits12 : waitsOk cells_Make.T12.2 cells_Make.B12 = true := by kernel_rfl
def cells_Make.T13 : Bool × List (List Nat × List Nat) := (true, [([], []), ([], []), ([1], [1]), ([2], [2]), ([3], [3]), ([], []), ([], []), ([6], [6]), ([5, 7], [5, 7]), ([8], [8]), ([4, 9], [4, 9]), ([0, 0, 1, 2, 3, 4, 5, 6, 7, 8, 9, 10], [0]), ([11, 0, 1, 2, 3, 4, 5, 6, 7, 8, 9, 10], [11]), ([12, 10, 8, 0, 1, 2, 3, 4, 5, 6, 7, 8, 9, 10], [10, 12])])
def cells_Make.B13 : List Nat := [0, 0, 2, 6, 14, 0, 0, 64, 224, 480, 1022, 2047, 4095, 8191]
theorem cells_Make.tab13 : rtab .any (opsOf Try.f17 13) = cells_Make.T13 := by kernel_rfl
theorem cells_Make.bits13 : waitsOk cells_Make.T13.2 cells_Make.B13 = true := by kernel_rfl
set_option maxHeartbeats 8000000 in
set_option maxRecDepth 100000 in
theorem cells_Make.calls (k : Nat) (A0 : Option Addr) (c0 : Nat) (l0 : List (S50)) (A1 : Option Addr) (c1 : Nat) (l1 : List Int) (vt2_ : Value) (a2 : Option (List (Int × Int × Int))) (r1 : List (S48)) (r2 : List Int) (w : World) (hr0 : Kd.C k50 w A0 l0.length l0) (hc0 : l0.length ≤ c0) (hr1 : Kd.C (Kd.int .u8) w A1 l1.length l1) (hc1 : l1.length ≤ c1) (hta2 : TabAt w a2 vt2_) (h : cells_Make.f k l0 l1 a2 = some (r1, r2)) :
  Calls Try.prog 17 #[.slice A0 l0.length c0, .slice A1 l1.length c1, vt2_] w fun e w' => ∃ v0_ v1_ : Value, e = .returned (.tuple #[v0_, v1_]) ∧ Kd.R k48 48 w' w.heap.size (fun _ => True) v0_ r1 ∧ Kd.R (Kd.int .i64) 3 w' w.heap.size (fun _ => True) v1_ r2 ∧ Below w.heap.size w w' := by
 have hu50 := Try.underlying50; have hu48 := Try.underlying48; have HR0 := zA.mk hr0; have HC0 := zA.mk hc0; clear hr0 hc0; have HR1 := zA.mk hr1; have HC1 := zA.mk hc1; clear hr1 hc1; have HTa2 := zA.mk hta2; clear hta2; have HB := zA.mk (Below.refl w.heap.size w); have H : (cells_Make.l0 k l0 l1 a2 ([] : List (S48)) ([] : List Int) l0 (l0.length : Int) 0) = some (r1, r2) := h
 clear h; have H' := zA.mk H
 clear H; go_enter Try.func17, Try.ntmps17
 go_wp2
 go_loopg [8, 9, 15] k (fun kq v8 v9 v15 w' => ∃ (x8_1 : List (S48)) (x9_1 : List Int) (x15_1 : Int), v15 = .int .i64 x15_1 ∧ zA (cells_Make.l0 kq l0 l1 a2 x8_1 x9_1 l0 (l0.length : Int) x15_1 = some (r1, r2)) ∧ zA (kq ≤ k) ∧ zA (Kd.R k48 48 w' w.heap.size (fun _ => True) v8 x8_1) ∧ zA (Kd.R (Kd.int .i64) 3 w' w.heap.size (fun _ => True) v9 x9_1) ∧ zA (Below w.heap.size w w'))
 case atStart => exact ⟨(([] : List (S48))), (([] : List Int)), (0), aZ, H', ⟨Nat.le_refl _⟩, ⟨by first | exact Kd.R_nil _ _ _ _ _ | exact Kd.N_nil _ _ _ _ _ | exact Kd.V_nil _ _ _ _ _ | exact Kd.Q_nil _ _ _ _ _ | exact Kd.S_nil _ _ _ _ _⟩, ⟨by first | exact Kd.R_nil _ _ _ _ _ | exact Kd.N_nil _ _ _ _ _ | exact Kd.V_nil _ _ _ _ _ | exact Kd.Q_nil _ _ _ _ _ | exact Kd.S_nil _ _ _ _ _⟩, ⟨aL HB⟩⟩
 clear H'; obtain ⟨x8_1, x9_1, x15_1, rfl, HA, HK1, HO_8, HO_9, HB⟩ := hrel; cases gk with
 | zero => exact absurd HA.out (by simp [cells_Make.l0])
 | succ k1 =>
  have H := HA.out; clear HA; simp only [cells_Make.l0] at H; by_cases c4 : x15_1 < (l0.length : Int)
  rotate_left
  ·rw [if_neg c4] at H
   have c4b0 : decide (x15_1 < (l0.length : Int)) = false := decide_eq_false c4
   clear c4; by_cases c91 : x9_1.length < 17592186044416
   rotate_left
   ·rw [if_neg c91] at H
    exact absurd H (by simp)
   rw [if_pos c91] at H; have LMc91 := zA.mk c91; clear c91; obtain ⟨y103, hy103⟩ : ∃ y_ : List Int, y_ = (x9_1 ++ [(l0.length : Int)]) := ⟨_, rfl⟩; replace H : (some (x8_1, y103)) = some (r1, r2) := by first | (rw [hy103]; with_reducible exact H) | (have H2_ := (Option.bind_some _ _).symm.trans H; rw [hy103]; with_reducible exact H2_) | (have H2_ := (Option.bind_some _ _).symm.trans H; with_reducible exact H2_) | with_reducible exact H | (rw [hy103]; exact H) | exact H
   have Ny103 := zA.mk hy103; clear hy103; simp only [Option.some.injEq, Prod.mk.injEq] at H; obtain ⟨rfl, rfl⟩ := H; go_wp2_with (first | ((with_reducible refine gate_builtin (b := .append) (xs := #[.tmp 88, .tmp 91]) rfl ?_); (try (refine gate_guard (by rfl) ?_; dsimp only)); at_builtin; refine Kd.R_append (Kd.int .i64) (w0 := w) w.heap.size rfl (.tmp 88) (.tmp 91) 35 3 (.int .i64 0) 8 rfl Try.underlying35 info3 rfl (by decide) (by omega) u9 x9_1 (l0.length : Int) [.int .i64 (l0.length : Int)] (fun _ => True) (fun _ => False) rfl rfl ?aP (fun _ hk => hk.elim) ?aF ?aO ?aB ?aS ?aL ?_; (case aP => exact rfl); (case aB => exact (aL HB)); (case aF => exact (fun _ _ => trivial)); (case aO => exact (aR HO_9)); (case aS => exact (below_size (aL HB))); (case aL => have := LMc91.out; omega); intro v104 w92 ho hb hg hat; rw [← Ny103.out] at ho; replace HO_8 := zA.mk (Kd.R_over' (aR HO_8) (Kd.R_typed (aR HO_9)) (by decide) hg); replace HB := zA.mk (hb); have HO105 := zA.mk (ho); clear HO_9; clear ho hb hg hat))
   go_ret2
   exact ⟨_, _, aX, aR HO_8, aR HO105, aL HB⟩
  rw [if_pos c4] at H; have c4b0 : decide (x15_1 < (l0.length : Int)) = true := decide_eq_true c4
  clear c4; by_cases c5 : 0 ≤ x15_1
  rotate_left
  ·rw [if_neg c5] at H
   exact absurd H (by simp)
  rw [if_pos c5] at H; have c5b0 : decide (0 ≤ x15_1) = true := decide_eq_true c5
  clear c5; by_cases c6 : x15_1 < (l0.length : Int)
  rotate_left
  ·rw [if_neg c6] at H
   exact absurd H (by simp)
  rw [if_pos c6] at H; have c6b0 : decide (x15_1 < (l0.length : Int)) = true := decide_eq_true c6
  clear c6; have HC7 := zA.mk H; clear H; have p106 : 0 ≤ (x15_1 : Int) := aD
  have q106 : x15_1 < (l0.length : Int) := aD
  obtain ⟨ad106, e106, hx106_0, hx106_1, hx106_2⟩ := at_T50 HR0.out x15_1 p106 q106; cases e106
  replace hx106_0 := (HB.out.cell (World.block_lt_of_cell? w _ hx106_0)).trans hx106_0; replace hx106_1 := (HB.out.cell (World.block_lt_of_cell? w _ hx106_1)).trans hx106_1; replace hx106_2 := (HB.out.cell (World.block_lt_of_cell? w _ hx106_2)).trans hx106_2; replace p106 := eq_true p106; replace q106 := eq_true q106; go_upto_region 6 with (first | ((with_reducible refine gate_dst (N := 11) rfl ?_); (try (refine gate_guard (by rfl) ?_; dsimp only)); refine box_event ?hg (N := 11) ?hd (cs := #[.int .i32 0, .int .i64 0, .int .i64 0]) (t := 50) ?hr ?_; (case hd => rfl); (case hg => rfl); (case hr => first | (go_simp; done) | (go_simp; rfl)); intro gb107 hg w8 hbox hb; replace HO_8 := zA.mk (Kd.zJ (aR HO_8) hb); replace HO_9 := zA.mk (Kd.zJ (aR HO_9) hb); have BK107 := zA.mk (hbox); have GW107 := zA.mk ((by rw [hg]; exact (below_size (aL HB)) : w.heap.size ≤ gb107)); replace HB := zA.mk (below_step (aL HB) hb); have GE107 := GW107; clear hb hbox hg; obtain ⟨hcz9_0, hcz9_1, hcz9_2, hfz9_0, hfz9_1, hfz9_2⟩ := aC3 BK107) | ((with_reducible refine gate_store (t := 50) (p := 11) rfl ?_); refine store_event (t := 50) (p := 11) (v := ?vo_w10) (w1 := (((w8.setCell ⟨gb107, 0, none⟩ (.int .i32 ((rd_T50 l0 x15_1).f0))).setCell ⟨gb107, 1, none⟩ (.int .i64 ((rd_T50 l0 x15_1).f1))).setCell ⟨gb107, 2, none⟩ (.int .i64 ((rd_T50 l0 x15_1).f2)))) ?hg ?ho ?hn ?hr ?_; (case ho => rfl); (case hg => rfl); (case hn => rfl); (case hr => first | (go_simp; done) | (go_simp; rfl)); intro w10 hw; have n0_ : zA (Kd.R k48 48 w10 w.heap.size (fun _ => True) u8 x8_1) := ⟨(by rw [hw]; exact (by (with_reducible repeat (first | apply Kd.zB | apply Kd.zC | apply Kd.zD)); exact Kd.zN (Kd.zK (p := ⟨gb107, 2, none⟩) (Kd.zK (p := ⟨gb107, 1, none⟩) (Kd.zK (p := ⟨gb107, 0, none⟩) (Kd.zO HO_8.out BK107.out (by decide)) (fun _ hk => hk.2) (.int .i32 ((rd_T50 l0 x15_1).f0))) (fun _ hk => hk.2) (.int .i64 ((rd_T50 l0 x15_1).f1))) (fun _ hk => hk.2) (.int .i64 ((rd_T50 l0 x15_1).f2))) (fun _ hk => trivial)))⟩; have n1_ : zA (Kd.R (Kd.int .i64) 3 w10 w.heap.size (fun _ => True) u9 x9_1) := ⟨(by rw [hw]; exact (by (with_reducible repeat (first | apply Kd.zB | apply Kd.zC | apply Kd.zD)); exact Kd.zN (Kd.zK (p := ⟨gb107, 2, none⟩) (Kd.zK (p := ⟨gb107, 1, none⟩) (Kd.zK (p := ⟨gb107, 0, none⟩) (Kd.zO HO_9.out BK107.out (by decide)) (fun _ hk => hk.2) (.int .i32 ((rd_T50 l0 x15_1).f0))) (fun _ hk => hk.2) (.int .i64 ((rd_T50 l0 x15_1).f1))) (fun _ hk => hk.2) (.int .i64 ((rd_T50 l0 x15_1).f2))) (fun _ hk => trivial)))⟩; have n2_ : zA (w10.heap[gb107]? = some (.cells #[.int .i32 ((rd_T50 l0 x15_1).f0), .int .i64 ((rd_T50 l0 x15_1).f1), .int .i64 ((rd_T50 l0 x15_1).f2)] 50 (0, 0))) := ⟨(by rw [hw]; exact (by (with_reducible repeat (first | refine blk_drewN ?_ _ | refine blk_drew ?_ | refine blk_alloc ?_ _)); refine blk_put (cs := #[.int .i32 ((rd_T50 l0 x15_1).f0), .int .i64 ((rd_T50 l0 x15_1).f1), .int .i64 0]) ?_ 2 _ rfl; (with_reducible repeat (first | refine blk_drewN ?_ _ | refine blk_drew ?_ | refine blk_alloc ?_ _)); refine blk_put (cs := #[.int .i32 ((rd_T50 l0 x15_1).f0), .int .i64 0, .int .i64 0]) ?_ 1 _ rfl; (with_reducible repeat (first | refine blk_drewN ?_ _ | refine blk_drew ?_ | refine blk_alloc ?_ _)); refine blk_put (cs := #[.int .i32 0, .int .i64 0, .int .i64 0]) ?_ 0 _ rfl; (with_reducible repeat (first | refine blk_drewN ?_ _ | refine blk_drew ?_ | refine blk_alloc ?_ _)); exact BK107.out))⟩; have n3_ : zA (Below w.heap.size w w10) := ⟨(by rw [hw]; exact (aL HB))⟩; clear hw; clear HO_8; clear HO_9; clear BK107; clear HB; have HO_8 := n0_; have HO_9 := n1_; have BK107 := n2_; have HB := n3_; clear n0_ n1_ n2_ n3_))
  (try simp only [Act.put, sA_, sB_, sC_])
  go_cut [34] (fun v34 wc => ∃ (kq : Nat) (x34_6 : Bool), v34 = .bool x34_6 ∧ zA (cells_Make.j1 kq l0 l1 a2 x8_1 x9_1 x15_1 l0 (l0.length : Int) x15_1 x34_6 ((rd_T50 l0 x15_1).f0) ((rd_T50 l0 x15_1).f1) ((rd_T50 l0 x15_1).f2) = some (r1, r2)) ∧ zA (kq ≤ k1) ∧ zA (Kd.R k48 48 wc w.heap.size (fun _ => True) u8 x8_1) ∧ zA (Kd.R (Kd.int .i64) 3 wc w.heap.size (fun _ => True) u9 x9_1) ∧ zA (wc.heap[gb107]? = some (.cells #[.int .i32 ((rd_T50 l0 x15_1).f0), .int .i64 ((rd_T50 l0 x15_1).f1), .int .i64 ((rd_T50 l0 x15_1).f2)] 50 (0, 0))) ∧ zA (Below w.heap.size w wc))
  case first =>
   have H := HC7.out; clear HC7; by_cases c11 : x15_1 = 0
   ·rw [if_pos c11] at H
    have c11b0 : (x15_1 == 0) = true := beq_iff_eq.mpr c11
    have c11b1 : (x15_1 != 0) = false := bne_eq_false_iff_eq.mpr c11
    clear c11; (first | rw [c11b0] | (simp only [i64_w, i32_w]; rw [c11b0]) | skip)
    have H' := zA.mk H
    clear H; go_wp2
    go_meet
    case rel => exact ⟨_, (true), aZ, H', ⟨by have := HK1.out; first | omega | exact Nat.le_refl _⟩, ⟨aR HO_8⟩, ⟨aR HO_9⟩, ⟨aB BK107⟩, ⟨aL HB⟩⟩
   rw [if_neg c11] at H; have c11b0 : (x15_1 == 0) = false := beq_eq_false_iff_ne.mpr c11
   have c11b1 : (x15_1 != 0) = true := bne_iff_ne.mpr c11
   (first | rw [c11b0] | (simp only [i64_w, i32_w]; rw [c11b0]) | skip)
   by_cases c12 : x15_1 < (l1.length : Int)
   rotate_left
   ·rw [if_neg c12] at H
    have c12b0 : decide (x15_1 < (l1.length : Int)) = false := decide_eq_false c12
    clear c12; have H' := zA.mk H
    clear H; go_wp2
    go_meet
    case rel => exact ⟨_, (false), aZ, H', ⟨by have := HK1.out; first | omega | exact Nat.le_refl _⟩, ⟨aR HO_8⟩, ⟨aR HO_9⟩, ⟨aB BK107⟩, ⟨aL HB⟩⟩
   rw [if_pos c12] at H; have c12b0 : decide (x15_1 < (l1.length : Int)) = true := decide_eq_true c12
   clear c12; have H' := zA.mk H
   clear H; have p108 : 0 ≤ (x15_1 : Int) := aD
   have q108 : x15_1 < (l1.length : Int) := aD
   obtain ⟨ad108, e108, hx108_0⟩ := Kd.at_int HR1.out x15_1 p108 q108; cases e108
   replace hx108_0 := (HB.out.cell (World.block_lt_of_cell? w _ hx108_0)).trans hx108_0; replace p108 := eq_true p108; replace q108 := eq_true q108; go_wp2
   go_meet
   case rel => exact ⟨_, (((rd l1 x15_1) != 0)), aZ, H', ⟨by have := HK1.out; first | omega | exact Nat.le_refl _⟩, ⟨aR HO_8⟩, ⟨aR HO_9⟩, ⟨aB BK107⟩, ⟨aL HB⟩⟩
  clear HC7; obtain ⟨kq, x34_6, rfl, HA, HJ6, HO_8, HO_9, BK107, HB⟩ := hcut; cases kq with
  | zero => exact absurd HA.out (by simp [cells_Make.j1])
  | succ kj6 =>
   have H := HA.out; clear HA; simp only [cells_Make.j1] at H; by_cases c13 : x34_6 = true
   rotate_left
   ·replace c13 := Bool.eq_false_iff.mpr c13
    subst c13; have H1 : (if 0 ≤ (wrap64 ((x8_1.length : Int) - 1)) then (if (wrap64 ((x8_1.length : Int) - 1)) < (x8_1.length : Int) then (if 0 ≤ (wrap64 ((x9_1.length : Int) - 1)) then (if (wrap64 ((x9_1.length : Int) - 1)) < (x9_1.length : Int) then (if (rd x9_1 (wrap64 ((x9_1.length : Int) - 1))) = x15_1 then ((some (x8_1.set ((wrap64 ((x8_1.length : Int) - 1)) : Int).toNat (⟨(rd_T48 x8_1 (wrap64 ((x8_1.length : Int) - 1))).f0, wrap64 (((rd_T48 x8_1 (wrap64 ((x8_1.length : Int) - 1))).f1) + ((rd_T50 l0 x15_1).f2)), (rd_T48 x8_1 (wrap64 ((x8_1.length : Int) - 1))).f2, (rd_T48 x8_1 (wrap64 ((x8_1.length : Int) - 1))).f3⟩ : S48) : List (S48))).bind fun y132 => ((prop_Table_Of.f a2 ((rd_T50 l0 x15_1).f0)).bind fun t134 => (cells_Make.l0 kj6 l0 l1 a2 (y132.set ((wrap64 ((x8_1.length : Int) - 1)) : Int).toNat (⟨(rd_T48 y132 (wrap64 ((x8_1.length : Int) - 1))).f0, (rd_T48 y132 (wrap64 ((x8_1.length : Int) - 1))).f1, mx ((rd_T48 y132 (wrap64 ((x8_1.length : Int) - 1))).f2) (mn t134 2), (rd_T48 y132 (wrap64 ((x8_1.length : Int) - 1))).f3⟩ : S48)) x9_1 l0 (l0.length : Int) (wrap64 (x15_1 + 1))))) else ((some (x8_1.set ((wrap64 ((x8_1.length : Int) - 1)) : Int).toNat (⟨(rd_T48 x8_1 (wrap64 ((x8_1.length : Int) - 1))).f0, (rd_T48 x8_1 (wrap64 ((x8_1.length : Int) - 1))).f1, (rd_T48 x8_1 (wrap64 ((x8_1.length : Int) - 1))).f2, 0⟩ : S48) : List (S48))).bind fun y136 => ((some (y136.set ((wrap64 ((x8_1.length : Int) - 1)) : Int).toNat (⟨(rd_T48 y136 (wrap64 ((x8_1.length : Int) - 1))).f0, wrap64 (((rd_T48 y136 (wrap64 ((x8_1.length : Int) - 1))).f1) + ((rd_T50 l0 x15_1).f2)), (rd_T48 y136 (wrap64 ((x8_1.length : Int) - 1))).f2, (rd_T48 y136 (wrap64 ((x8_1.length : Int) - 1))).f3⟩ : S48) : List (S48))).bind fun y138 => ((prop_Table_Of.f a2 ((rd_T50 l0 x15_1).f0)).bind fun t140 => (cells_Make.l0 kj6 l0 l1 a2 (y138.set ((wrap64 ((x8_1.length : Int) - 1)) : Int).toNat (⟨(rd_T48 y138 (wrap64 ((x8_1.length : Int) - 1))).f0, (rd_T48 y138 (wrap64 ((x8_1.length : Int) - 1))).f1, mx ((rd_T48 y138 (wrap64 ((x8_1.length : Int) - 1))).f2) (mn t140 2), (rd_T48 y138 (wrap64 ((x8_1.length : Int) - 1))).f3⟩ : S48)) x9_1 l0 (l0.length : Int) (wrap64 (x15_1 + 1))))))) else (none)) else (none)) else (none)) else (none)) = some (r1, r2) := by rw [if_neg (show ¬ (false = true) by decide)] at H; exact H
    clear H; have H := H1; clear H1; obtain ⟨ji57, hji57⟩ : ∃ j_ : Int, (wrap64 ((x8_1.length : Int) - 1)) = j_ := ⟨_, rfl⟩; replace H : (if 0 ≤ (ji57) then (if (ji57) < (x8_1.length : Int) then (if 0 ≤ (wrap64 ((x9_1.length : Int) - 1)) then (if (wrap64 ((x9_1.length : Int) - 1)) < (x9_1.length : Int) then (if (rd x9_1 (wrap64 ((x9_1.length : Int) - 1))) = x15_1 then ((some (x8_1.set ((ji57) : Int).toNat (⟨(rd_T48 x8_1 (ji57)).f0, wrap64 (((rd_T48 x8_1 (ji57)).f1) + ((rd_T50 l0 x15_1).f2)), (rd_T48 x8_1 (ji57)).f2, (rd_T48 x8_1 (ji57)).f3⟩ : S48) : List (S48))).bind fun y132 => ((prop_Table_Of.f a2 ((rd_T50 l0 x15_1).f0)).bind fun t134 => (cells_Make.l0 kj6 l0 l1 a2 (y132.set ((ji57) : Int).toNat (⟨(rd_T48 y132 (ji57)).f0, (rd_T48 y132 (ji57)).f1, mx ((rd_T48 y132 (ji57)).f2) (mn t134 2), (rd_T48 y132 (ji57)).f3⟩ : S48)) x9_1 l0 (l0.length : Int) (wrap64 (x15_1 + 1))))) else ((some (x8_1.set ((ji57) : Int).toNat (⟨(rd_T48 x8_1 (ji57)).f0, (rd_T48 x8_1 (ji57)).f1, (rd_T48 x8_1 (ji57)).f2, 0⟩ : S48) : List (S48))).bind fun y136 => ((some (y136.set ((ji57) : Int).toNat (⟨(rd_T48 y136 (ji57)).f0, wrap64 (((rd_T48 y136 (ji57)).f1) + ((rd_T50 l0 x15_1).f2)), (rd_T48 y136 (ji57)).f2, (rd_T48 y136 (ji57)).f3⟩ : S48) : List (S48))).bind fun y138 => ((prop_Table_Of.f a2 ((rd_T50 l0 x15_1).f0)).bind fun t140 => (cells_Make.l0 kj6 l0 l1 a2 (y138.set ((ji57) : Int).toNat (⟨(rd_T48 y138 (ji57)).f0, (rd_T48 y138 (ji57)).f1, mx ((rd_T48 y138 (ji57)).f2) (mn t140 2), (rd_T48 y138 (ji57)).f3⟩ : S48)) x9_1 l0 (l0.length : Int) (wrap64 (x15_1 + 1))))))) else (none)) else (none)) else (none)) else (none)) = some (r1, r2) := by first | (rw [hji57] at H; exact H) | (simp only [hji57] at H ⊢; exact H)
    have hji57w : (IntKind.i64.wrap ((x8_1.length : Int) - 1)) = ji57 := (i64_w _).trans hji57
    by_cases c58 : 0 ≤ (ji57)
    rotate_left
    ·rw [if_neg c58] at H
     exact absurd H (by simp)
    rw [if_pos c58] at H; have c58b0 : decide (0 ≤ (ji57)) = true := decide_eq_true c58
    clear c58; by_cases c59 : (ji57) < (x8_1.length : Int)
    rotate_left
    ·rw [if_neg c59] at H
     exact absurd H (by simp)
    rw [if_pos c59] at H; have c59b0 : decide ((ji57) < (x8_1.length : Int)) = true := decide_eq_true c59
    clear c59; obtain ⟨ji60, hji60⟩ : ∃ j_ : Int, (wrap64 ((x9_1.length : Int) - 1)) = j_ := ⟨_, rfl⟩; replace H : (if 0 ≤ (ji60) then (if (ji60) < (x9_1.length : Int) then (if (rd x9_1 (ji60)) = x15_1 then ((some (x8_1.set ((ji57) : Int).toNat (⟨(rd_T48 x8_1 (ji57)).f0, wrap64 (((rd_T48 x8_1 (ji57)).f1) + ((rd_T50 l0 x15_1).f2)), (rd_T48 x8_1 (ji57)).f2, (rd_T48 x8_1 (ji57)).f3⟩ : S48) : List (S48))).bind fun y132 => ((prop_Table_Of.f a2 ((rd_T50 l0 x15_1).f0)).bind fun t134 => (cells_Make.l0 kj6 l0 l1 a2 (y132.set ((ji57) : Int).toNat (⟨(rd_T48 y132 (ji57)).f0, (rd_T48 y132 (ji57)).f1, mx ((rd_T48 y132 (ji57)).f2) (mn t134 2), (rd_T48 y132 (ji57)).f3⟩ : S48)) x9_1 l0 (l0.length : Int) (wrap64 (x15_1 + 1))))) else ((some (x8_1.set ((ji57) : Int).toNat (⟨(rd_T48 x8_1 (ji57)).f0, (rd_T48 x8_1 (ji57)).f1, (rd_T48 x8_1 (ji57)).f2, 0⟩ : S48) : List (S48))).bind fun y136 => ((some (y136.set ((ji57) : Int).toNat (⟨(rd_T48 y136 (ji57)).f0, wrap64 (((rd_T48 y136 (ji57)).f1) + ((rd_T50 l0 x15_1).f2)), (rd_T48 y136 (ji57)).f2, (rd_T48 y136 (ji57)).f3⟩ : S48) : List (S48))).bind fun y138 => ((prop_Table_Of.f a2 ((rd_T50 l0 x15_1).f0)).bind fun t140 => (cells_Make.l0 kj6 l0 l1 a2 (y138.set ((ji57) : Int).toNat (⟨(rd_T48 y138 (ji57)).f0, (rd_T48 y138 (ji57)).f1, mx ((rd_T48 y138 (ji57)).f2) (mn t140 2), (rd_T48 y138 (ji57)).f3⟩ : S48)) x9_1 l0 (l0.length : Int) (wrap64 (x15_1 + 1))))))) else (none)) else (none)) = some (r1, r2) := by first | (rw [hji60] at H; exact H) | (simp only [hji60] at H ⊢; exact H)
    have hji60w : (IntKind.i64.wrap ((x9_1.length : Int) - 1)) = ji60 := (i64_w _).trans hji60
    by_cases c61 : 0 ≤ (ji60)
    rotate_left
    ·rw [if_neg c61] at H
     exact absurd H (by simp)
    rw [if_pos c61] at H; have c61b0 : decide (0 ≤ (ji60)) = true := decide_eq_true c61
    clear c61; by_cases c62 : (ji60) < (x9_1.length : Int)
    rotate_left
    ·rw [if_neg c62] at H
     exact absurd H (by simp)
    rw [if_pos c62] at H; have c62b0 : decide ((ji60) < (x9_1.length : Int)) = true := decide_eq_true c62
    clear c62; by_cases c63 : (rd x9_1 (ji60)) = x15_1
    ·rw [if_pos c63] at H
     have c63b0 : ((rd x9_1 (ji60)) == x15_1) = true := beq_iff_eq.mpr c63
     have c63b1 : ((rd x9_1 (ji60)) != x15_1) = false := bne_eq_false_iff_eq.mpr c63
     clear c63; obtain ⟨y132, hy132⟩ : ∃ y_ : List (S48), y_ = (x8_1.set ((ji57) : Int).toNat (⟨(rd_T48 x8_1 (ji57)).f0, wrap64 (((rd_T48 x8_1 (ji57)).f1) + ((rd_T50 l0 x15_1).f2)), (rd_T48 x8_1 (ji57)).f2, (rd_T48 x8_1 (ji57)).f3⟩ : S48)) := ⟨_, rfl⟩; replace H : ((prop_Table_Of.f a2 ((rd_T50 l0 x15_1).f0)).bind fun t134 => (cells_Make.l0 kj6 l0 l1 a2 (y132.set ((ji57) : Int).toNat (⟨(rd_T48 y132 (ji57)).f0, (rd_T48 y132 (ji57)).f1, mx ((rd_T48 y132 (ji57)).f2) (mn t134 2), (rd_T48 y132 (ji57)).f3⟩ : S48)) x9_1 l0 (l0.length : Int) (wrap64 (x15_1 + 1)))) = some (r1, r2) := by first | (rw [hy132]; with_reducible exact H) | (have H2_ := (Option.bind_some _ _).symm.trans H; rw [hy132]; with_reducible exact H2_) | (have H2_ := (Option.bind_some _ _).symm.trans H; with_reducible exact H2_) | with_reducible exact H | (rw [hy132]; exact H) | exact H
     have Ny132 := zA.mk hy132; clear hy132; replace H := Option.bind_eq_some_iff.mp H; obtain ⟨t134, A650, H⟩ := H; replace H : (cells_Make.l0 kj6 l0 l1 a2 (y132.set ((ji57) : Int).toNat (⟨(rd_T48 y132 (ji57)).f0, (rd_T48 y132 (ji57)).f1, mx ((rd_T48 y132 (ji57)).f2) (mn t134 2), (rd_T48 y132 (ji57)).f3⟩ : S48)) x9_1 l0 (l0.length : Int) (wrap64 (x15_1 + 1))) = some (r1, r2) := H; have A65 := zA.mk A650; clear A650; obtain ⟨ji66, hji66⟩ : ∃ j_ : Int, (mn t134 2) = j_ := ⟨_, rfl⟩; replace H : (cells_Make.l0 kj6 l0 l1 a2 (y132.set ((ji57) : Int).toNat (⟨(rd_T48 y132 (ji57)).f0, (rd_T48 y132 (ji57)).f1, mx ((rd_T48 y132 (ji57)).f2) (ji66), (rd_T48 y132 (ji57)).f3⟩ : S48)) x9_1 l0 (l0.length : Int) (wrap64 (x15_1 + 1))) = some (r1, r2) := by first | (rw [hji66] at H; exact H) | (simp only [hji66] at H ⊢; exact H)
     (try rw [hji66] at A65)
     (try (have hji66h : ji66 ≤ 2 := by (rw [← hji66]; unfold mn; (repeat' split) <;> omega)))
     (try (have hji66g : ji66 ≤ 64 := by omega))
     have hji66_ : (if 2 < t134 then 2 else t134) = ji66 := hji66
     obtain ⟨ji67, hji67⟩ : ∃ j_ : Int, (mx ((rd_T48 y132 (ji57)).f2) (ji66)) = j_ := ⟨_, rfl⟩; replace H : (cells_Make.l0 kj6 l0 l1 a2 (y132.set ((ji57) : Int).toNat (⟨(rd_T48 y132 (ji57)).f0, (rd_T48 y132 (ji57)).f1, ji67, (rd_T48 y132 (ji57)).f3⟩ : S48)) x9_1 l0 (l0.length : Int) (wrap64 (x15_1 + 1))) = some (r1, r2) := by first | (rw [hji67] at H; exact H) | (simp only [hji67] at H ⊢; exact H)
     (try rw [hji67] at A65)
     have hji67_ : (if ((rd_T48 y132 (ji57)).f2) < (ji66) then (ji66) else ((rd_T48 y132 (ji57)).f2)) = ji67 := hji67
     obtain ⟨y135, hy135⟩ : ∃ y_ : List (S48), y_ = (y132.set ((ji57) : Int).toNat (⟨(rd_T48 y132 (ji57)).f0, (rd_T48 y132 (ji57)).f1, ji67, (rd_T48 y132 (ji57)).f3⟩ : S48)) := ⟨_, rfl⟩; replace H : (cells_Make.l0 kj6 l0 l1 a2 y135 x9_1 l0 (l0.length : Int) (wrap64 (x15_1 + 1))) = some (r1, r2) := by first | (rw [hy135]; with_reducible exact H) | (have H2_ := (Option.bind_some _ _).symm.trans H; rw [hy135]; with_reducible exact H2_) | (have H2_ := (Option.bind_some _ _).symm.trans H; with_reducible exact H2_) | with_reducible exact H | (rw [hy135]; exact H) | exact H
     have Ny135 := zA.mk hy135; clear hy135; have H' := zA.mk H
     clear H; obtain ⟨Ao69, co69, eo69⟩ := Kd.zL HO_8.out; subst eo69; have p129 : 0 ≤ ((ji57) : Int) := aD
     have q129 : (ji57) < (x8_1.length : Int) := aD
     obtain ⟨ad129, e129, hx129_0, hx129_1, hx129_2, hx129_3⟩ := at_T48 (Kd.zI HO_8.out).2.2 (ji57) p129 q129; cases e129
     replace p129 := eq_true p129; replace q129 := eq_true q129; obtain ⟨Ao70, co70, eo70⟩ := Kd.zL HO_9.out; subst eo70; have p130 : 0 ≤ ((ji60) : Int) := aD
     have q130 : (ji60) < (x9_1.length : Int) := aD
     obtain ⟨ad130, e130, hx130_0⟩ := Kd.at_int (Kd.zI HO_9.out).2.2 (ji60) p130 q130; cases e130
     replace p130 := eq_true p130; replace q130 := eq_true q130; try go_wp2
     replace HO_8 := zA.mk (Kd.zD HO_8.out); replace HO_9 := zA.mk (Kd.zD HO_9.out); replace BK107 := zA.mk (blk_drew BK107.out); replace HB := zA.mk (below_drew1 HB.out); have p131 : 0 ≤ ((ji57) : Int) := aD
     have q131 : (ji57) < (x8_1.length : Int) := aD
     obtain ⟨ad131, e131, hx131_0, hx131_1, hx131_2, hx131_3⟩ := at_T48 (Kd.zI HO_8.out).2.2 (ji57) p131 q131; obtain rfl : ad129 = ad131 := (by injection e131)
     replace p131 := eq_true p131; replace q131 := eq_true q131; have p64 : 0 ≤ ((ji57) : Int) := aD
     have q64 : ((ji57) : Int) < ((x8_1.length : Int) : Int) := aD
     obtain ⟨go64, co64, eo64, gb64, gl64, cl64, HG64⟩ := Kd.R_form HO_8.out (by omega)
     (first | cases eo64 | (injection eo64 with ea_ en_ ec_; (first | subst ea_ | (injection ea_ with ea_; subst ea_)); subst ec_; clear en_))
     have GB64 := zA.mk gb64; have GG64 := zA.mk HG64; clear gb64 gl64 HG64; (first | simp only [add_plain] at hx129_0 | skip)
     (first | simp only [add_plain] at hx129_1 | skip)
     (first | simp only [add_plain] at hx129_2 | skip)
     (first | simp only [add_plain] at hx129_3 | skip)
     (first | simp only [add_plain] at hx131_0 | skip)
     (first | simp only [add_plain] at hx131_1 | skip)
     (first | simp only [add_plain] at hx131_2 | skip)
     (first | simp only [add_plain] at hx131_3 | skip)
     obtain ⟨ce64, hcl64, hM64, hcc64, hfr64⟩ := Kd.R_elem HO_8.out z48 ((ji57) : Int) p64 q64; obtain rfl := k48_openM hM64
     have hx64_0 : World.cell? _ ⟨go64, ((ji57) : Int).toNat * 4, none⟩ = some (.int .i64 ((rd_T48 x8_1 (ji57)).f0)) := hcc64 0 _ rfl
     have hx64_1 : World.cell? _ ⟨go64, ((ji57) : Int).toNat * 4 + 1, none⟩ = some (.int .i64 ((rd_T48 x8_1 (ji57)).f1)) := hcc64 1 _ rfl
     have hx64_2 : World.cell? _ ⟨go64, ((ji57) : Int).toNat * 4 + 2, none⟩ = some (.int .i64 ((rd_T48 x8_1 (ji57)).f2)) := hcc64 2 _ rfl
     have hx64_3 : World.cell? _ ⟨go64, ((ji57) : Int).toNat * 4 + 3, none⟩ = some (.int .u8 ((rd_T48 x8_1 (ji57)).f3)) := hcc64 3 _ rfl
     have hf64_0 : World.frozen? _ ⟨go64, ((ji57) : Int).toNat * 4, none⟩ = false := hfr64 0
     have hf64_1 : World.frozen? _ ⟨go64, ((ji57) : Int).toNat * 4 + 1, none⟩ = false := hfr64 1
     have hf64_2 : World.frozen? _ ⟨go64, ((ji57) : Int).toNat * 4 + 2, none⟩ = false := hfr64 2
     have hf64_3 : World.frozen? _ ⟨go64, ((ji57) : Int).toNat * 4 + 3, none⟩ = false := hfr64 3
     (try clear hcl64); (try clear hcc64); (try clear hfr64); (try clear hM64)
     replace p64 := eq_true p64; replace q64 := eq_true q64; obtain ⟨ce72, hcl72, hM72, hcc72, hfr72⟩ := Kd.R_elem HO_8.out z48 ((ji57) : Int) (aD) (by have h_ : ((ji57) : Int) < ((x8_1.length : Int) : Int) := aD; first | exact h_ | (have e_ := (Kd.zI HO_8.out).1; omega) | simpa using h_)
     obtain rfl := k48_openM hM72
     have HP72 := (Kd.R_seg HO_8.out ((ji57) : Int) (aD) (by have h_ : ((ji57) : Int) < ((x8_1.length : Int) : Int) := aD; first | exact h_ | (have e_ := (Kd.zI HO_8.out).1; omega) | simpa using h_) (seg := [.int .i64 (wrap64 (((rd_T48 x8_1 (ji57)).f1) + ((rd_T50 l0 x15_1).f2)))]) (j := 1) hcl72 hcc72 (show 2 ≤ 4 from by decide) (x' := (⟨(rd_T48 x8_1 (ji57)).f0, wrap64 (((rd_T48 x8_1 (ji57)).f1) + ((rd_T50 l0 x15_1).f2)), (rd_T48 x8_1 (ji57)).f2, (rd_T48 x8_1 (ji57)).f3⟩ : S48)) (k48_mkM _ _ _ (⟨(rd_T48 x8_1 (ji57)).f0, wrap64 (((rd_T48 x8_1 (ji57)).f1) + ((rd_T50 l0 x15_1).f2)), (rd_T48 x8_1 (ji57)).f2, (rd_T48 x8_1 (ji57)).f3⟩ : S48) ) (fun _ hk => hk)).1
     rw [← Ny132.out] at HP72; have HQ72 := zA.mk HP72; clear hcl72 hcc72 hfr72 hM72 HP72; refine start_ (n := 10) (S := fun w' => w'.cell? ⟨gb107, 0, none⟩ = some (.int .i32 ((rd_T50 l0 x15_1).f0)) ∧ w'.cell? ⟨gb107, 1, none⟩ = some (.int .i64 ((rd_T50 l0 x15_1).f1)) ∧ w'.cell? ⟨gb107, 2, none⟩ = some (.int .i64 ((rd_T50 l0 x15_1).f2)) ∧ w'.cell? ⟨go64, (((ji57)).toNat * 4), none⟩ = some (.int .i64 ((rd_T48 x8_1 (ji57)).f0)) ∧ w'.cell? ⟨go64, (((ji57)).toNat * 4) + 1, none⟩ = some (.int .i64 ((rd_T48 x8_1 (ji57)).f1)) ∧ w'.cell? ⟨go64, (((ji57)).toNat * 4) + 2, none⟩ = some (.int .i64 ((rd_T48 x8_1 (ji57)).f2)) ∧ w'.cell? ⟨go64, (((ji57)).toNat * 4) + 3, none⟩ = some (.int .u8 ((rd_T48 x8_1 (ji57)).f3))) (ds := [9]) #[false, false, false, false, false, false, false, false, false, false] (by kernel_rfl) rfl rfl ⟨(blk_cell BK107.out 0).trans rfl, (blk_cell BK107.out 1).trans rfl, (blk_cell BK107.out 2).trans rfl, hx131_0, hx131_1, hx131_2, hx131_3⟩ (fun hHeld => ?_); refine with_tabW cells_Make.tab12 cells_Make.bits12 (fun HT_ HW_ => ?_)
     generalize wc.drew = w71 at HO_8 HO_9 BK107 HB GG64 HQ72 hf64_0 hf64_1 hf64_2 hf64_3 hx129_0 hx129_1 hx129_2 hx129_3 hx131_0 hx131_1 hx131_2 hx131_3 hx64_0 hx64_1 hx64_2 hx64_3 hHeld ⊢
     refine aP 0 (some 64) (tf_ 1 10) HT_ ?_
     refine aP 1 (some 65) (tf_ 2 10) HT_ ?_
     refine aP 2 (some 66) (tf_ 3 10) HT_ ?_
     refine aP 4 (some 68) (tb_ 23 10) HT_ ?_
     refine take_ (i := 3) (N := some 67) (v := ?_) (a' := ?_) (tf_ 5 10) rfl rfl (take_ofW HT_.out HW_.out (by kernel_rfl)) (fun _ _ _ h => h) (Or.inl ⟨by rfl, ?_⟩) hHeld ?_ ?_
     rotate_left
     ·rintro w' ⟨s0, s1, s2, s3, s4, s5, s6⟩
      go_simp
      with_reducible rfl
     rotate_left
     ·simp only [Act.put, sA_, sB_, sC_, i64_w, i32_w]
      rfl
     refine take_ (i := 5) (N := some 69) (v := ?_) (a' := ?_) (tf_ 6 10) rfl rfl (take_ofW HT_.out HW_.out (by kernel_rfl)) (fun _ _ _ h => h) (Or.inl ⟨by rfl, ?_⟩) hHeld ?_ ?_
     rotate_left
     ·rintro w' ⟨s0, s1, s2, s3, s4, s5, s6⟩
      go_simp
      with_reducible rfl
     rotate_left
     ·simp only [Act.put, sA_, sB_, sC_, i64_w, i32_w]
      rfl
     refine aP 6 (some 70) (tf_ 7 10) HT_ ?_
     refine aP 7 (some 71) (tf_ 8 10) HT_ ?_
     refine aP 8 (some 72) (tf_ 9 10) HT_ ?_
     refine last_ (i := 9) (N := none) (tb_ 1023 10) rfl rfl (one_of HT_.out (by kernel_rfl)) (by decide) (fun K hK => ?_)
     refine skip_ (w1 := ?_) (by rfl) rfl ?_ ?_
     rotate_left
     ·go_simp
      rfl
     refine hK.out _ _ ?_
     clear hK K; refine done_ (done_of HT_.out (by kernel_rfl)) ?_
     try go_wp2
     have n0_ : zA (Kd.R k48 48 (w71.setCell ⟨go64, ((ji57) : Int).toNat * 4 + 1, none⟩ (.int .i64 (wrap64 (((rd_T48 x8_1 (ji57)).f1) + ((rd_T50 l0 x15_1).f2))))) w.heap.size (fun _ => True) (.slice (some ⟨go64, 0, none⟩) x8_1.length co69) y132) := ⟨aR HQ72⟩
     have n1_ : zA (Kd.R (Kd.int .i64) 3 (w71.setCell ⟨go64, ((ji57) : Int).toNat * 4 + 1, none⟩ (.int .i64 (wrap64 (((rd_T48 x8_1 (ji57)).f1) + ((rd_T50 l0 x15_1).f2))))) w.heap.size (fun _ => True) (.slice (some ad130) x9_1.length co70) x9_1) := ⟨by (with_reducible repeat (first | apply Kd.zB | apply Kd.zC | apply Kd.zD)); exact Kd.zN (Kd.zK (p := ⟨go64, ((ji57) : Int).toNat * 4 + 1, none⟩) (Kd.zO HO_9.out GG64.out (by decide)) (fun _ hk => hk.2) (.int .i64 (wrap64 (((rd_T48 x8_1 (ji57)).f1) + ((rd_T50 l0 x15_1).f2))))) (fun _ hk => trivial)⟩
     have n2_ : zA ((w71.setCell ⟨go64, ((ji57) : Int).toNat * 4 + 1, none⟩ (.int .i64 (wrap64 (((rd_T48 x8_1 (ji57)).f1) + ((rd_T50 l0 x15_1).f2))))).heap[gb107]? = some (.cells #[.int .i32 ((rd_T50 l0 x15_1).f0), .int .i64 ((rd_T50 l0 x15_1).f1), .int .i64 ((rd_T50 l0 x15_1).f2)] 50 (0, 0))) := ⟨by (with_reducible repeat (first | refine blk_drewN ?_ _ | refine blk_drew ?_ | refine blk_alloc ?_ _)); refine blk_far ?_ (by have h_ := Kd.R_ne HO_8.out BK107.out (by decide); intro e_; exact h_ (by rw [e_]; rfl)) _; (with_reducible repeat (first | refine blk_drewN ?_ _ | refine blk_drew ?_ | refine blk_alloc ?_ _)); exact BK107.out⟩
     have n3_ : zA (Below w.heap.size w (w71.setCell ⟨go64, ((ji57) : Int).toNat * 4 + 1, none⟩ (.int .i64 (wrap64 (((rd_T48 x8_1 (ji57)).f1) + ((rd_T50 l0 x15_1).f2)))))) := ⟨aL HB⟩
     (try clear HO_8)
     (try clear HO_9)
     (try clear BK107)
     (try clear HB)
     generalize (w71.setCell ⟨go64, ((ji57) : Int).toNat * 4 + 1, none⟩ (.int .i64 (wrap64 (((rd_T48 x8_1 (ji57)).f1) + ((rd_T50 l0 x15_1).f2))))) = w73 at n0_ n1_ n2_ n3_ ⊢
     have HO_8 := n0_; have HO_9 := n1_; have BK107 := n2_; have HB := n3_; clear n0_ n1_ n2_ n3_; replace HO_8 := zA.mk (Kd.zD HO_8.out); replace HO_9 := zA.mk (Kd.zD HO_9.out); replace BK107 := zA.mk (blk_drew BK107.out); replace HB := zA.mk (below_drew1 HB.out); have p133 : 0 ≤ ((ji57) : Int) := aD
     have q133 : (ji57) < (y132.length : Int) := (by have h_ : ((ji57) : Int) < ((x8_1.length : Int) : Int) := aD; first | (have e_ := (Kd.zI HO_8.out).1; omega) | simpa only [Ny132.out, List.length_set] using h_)
     have ql133 : (((ji57) : Int) < ((x8_1.length : Int) : Int)) = True := eq_true (aD)
     obtain ⟨ad133, e133, hx133_0, hx133_1, hx133_2, hx133_3⟩ := at_T48 (Kd.zI HO_8.out).2.2 (ji57) p133 q133; obtain rfl : (⟨go64, 0, none⟩ : Addr) = ad133 := (by injection e133)
     (first | simp only [add_plain] at hx133_0 | simp only [add_at] at hx133_0 | simp only [Addr.add, Nat.zero_add] at hx133_0 | skip)
     (first | simp only [add_plain] at hx133_1 | simp only [add_at] at hx133_1 | simp only [Addr.add, Nat.zero_add] at hx133_1 | skip)
     (first | simp only [add_plain] at hx133_2 | simp only [add_at] at hx133_2 | simp only [Addr.add, Nat.zero_add] at hx133_2 | skip)
     (first | simp only [add_plain] at hx133_3 | simp only [add_at] at hx133_3 | simp only [Addr.add, Nat.zero_add] at hx133_3 | skip)
     replace p133 := eq_true p133; replace q133 := eq_true q133; refine start_ (n := 14) (S := fun w' => w'.cell? ⟨gb107, 0, none⟩ = some (.int .i32 ((rd_T50 l0 x15_1).f0)) ∧ w'.cell? ⟨gb107, 1, none⟩ = some (.int .i64 ((rd_T50 l0 x15_1).f1)) ∧ w'.cell? ⟨gb107, 2, none⟩ = some (.int .i64 ((rd_T50 l0 x15_1).f2)) ∧ w'.cell? ⟨go64, ((ji57)).toNat * 4, none⟩ = some (.int .i64 ((rd_T48 y132 (ji57)).f0)) ∧ w'.cell? ⟨go64, ((ji57)).toNat * 4 + 1, none⟩ = some (.int .i64 ((rd_T48 y132 (ji57)).f1)) ∧ w'.cell? ⟨go64, ((ji57)).toNat * 4 + 2, none⟩ = some (.int .i64 ((rd_T48 y132 (ji57)).f2)) ∧ w'.cell? ⟨go64, ((ji57)).toNat * 4 + 3, none⟩ = some (.int .u8 ((rd_T48 y132 (ji57)).f3))) (ds := [13]) #[false, false, false, false, false, false, false, false, false, false, false, false, false, false] (by kernel_rfl) rfl rfl ⟨(blk_cell BK107.out 0).trans rfl, (blk_cell BK107.out 1).trans rfl, (blk_cell BK107.out 2).trans rfl, hx133_0, hx133_1, hx133_2, hx133_3⟩ (fun hHeld => ?_); refine with_tabW cells_Make.tab13 cells_Make.bits13 (fun HT_ HW_ => ?_)
     generalize w73.drew = w74 at HO_8 HO_9 BK107 HB HQ72 hx133_0 hx133_1 hx133_2 hx133_3 hHeld ⊢
     refine aP 0 (some 73) (tf_ 1 14) HT_ ?_
     refine aP 1 (some 74) (tf_ 2 14) HT_ ?_
     refine aP 2 (some 75) (tf_ 3 14) HT_ ?_
     refine aP 3 (some 76) (tf_ 4 14) HT_ ?_
     refine aP 5 (some 78) (tb_ 47 14) HT_ ?_
     refine aP 6 (some 79) (tb_ 111 14) HT_ ?_
     refine take_ (i := 4) (N := some 77) (v := ?_) (a' := ?_) (tf_ 7 14) rfl rfl (take_ofW HT_.out HW_.out (by kernel_rfl)) (fun _ _ _ h => h) (Or.inl ⟨by rfl, ?_⟩) hHeld ?_ ?_
     rotate_left
     ·rintro w' ⟨s0, s1, s2, s3, s4, s5, s6⟩
      go_simp
      with_reducible rfl
     rotate_left
     ·simp only [Act.put, sA_, sB_, sC_, i64_w, i32_w]
      rfl
     refine take_ (i := 7) (N := some 80) (v := ?_) (a' := ?_) (tf_ 8 14) rfl rfl (take_ofW HT_.out HW_.out (by kernel_rfl)) (fun _ _ _ h => h) (Or.inl ⟨by rfl, ?_⟩) hHeld ?_ ?_
     rotate_left
     ·rintro w' ⟨s0, s1, s2, s3, s4, s5, s6⟩
      go_simp
      with_reducible rfl
     rotate_left
     ·simp only [Act.put, sA_, sB_, sC_, i64_w, i32_w]
      rfl
     refine one_ (i := 8) (N := some 81) (tb_ 511 14) rfl rfl (one_of HT_.out (by kernel_rfl)) (by decide) (fun K hK => ?_)
     refine goes_ Try.func22 (by kernel_rfl) rfl #[vt2_, .int .i32 ((rd_T50 l0 x15_1).f0)] (by rfl) rfl rfl aT ?_
     with_reducible refine (prop_Table_Of.calls vt2_ a2 ((rd_T50 l0 x15_1).f0) t134 _ ?side1 A65.out).mono ?_
     (case side1 => exact TabAt.below HTa2.out (aL HB))
     rintro e w' ⟨rfl, ⟨nd, rfl⟩⟩
     refine ⟨_, rfl, ?_⟩
     have p68 : 0 ≤ ((ji57) : Int) := aD
     have q68 : ((ji57) : Int) < ((x8_1.length : Int) : Int) := aD
     obtain ⟨ce68, hcl68, hM68, hcc68, hfr68⟩ := Kd.R_elem HO_8.out z48 ((ji57) : Int) p68 q68; obtain rfl := k48_openM hM68
     have hx68_0 : World.cell? _ ⟨go64, ((ji57) : Int).toNat * 4, none⟩ = some (.int .i64 ((rd_T48 y132 (ji57)).f0)) := hcc68 0 _ rfl
     have hx68_1 : World.cell? _ ⟨go64, ((ji57) : Int).toNat * 4 + 1, none⟩ = some (.int .i64 ((rd_T48 y132 (ji57)).f1)) := hcc68 1 _ rfl
     have hx68_2 : World.cell? _ ⟨go64, ((ji57) : Int).toNat * 4 + 2, none⟩ = some (.int .i64 ((rd_T48 y132 (ji57)).f2)) := hcc68 2 _ rfl
     have hx68_3 : World.cell? _ ⟨go64, ((ji57) : Int).toNat * 4 + 3, none⟩ = some (.int .u8 ((rd_T48 y132 (ji57)).f3)) := hcc68 3 _ rfl
     have hf68_0 : World.frozen? _ ⟨go64, ((ji57) : Int).toNat * 4, none⟩ = false := hfr68 0
     have hf68_1 : World.frozen? _ ⟨go64, ((ji57) : Int).toNat * 4 + 1, none⟩ = false := hfr68 1
     have hf68_2 : World.frozen? _ ⟨go64, ((ji57) : Int).toNat * 4 + 2, none⟩ = false := hfr68 2
     have hf68_3 : World.frozen? _ ⟨go64, ((ji57) : Int).toNat * 4 + 3, none⟩ = false := hfr68 3
     (try clear hcl68); (try clear hcc68); (try clear hfr68); (try clear hM68)
     replace p68 := eq_true p68; replace q68 := eq_true q68; obtain ⟨cx75, gx75⟩ := Kd.R_typed HO_8.out _ rfl; have GG75_ := zA.mk gx75; clear gx75; obtain ⟨ce75, hcl75, hM75, hcc75, hfr75⟩ := Kd.R_elem HO_8.out z48 ((ji57) : Int) (aD) (by have h_ : ((ji57) : Int) < ((x8_1.length : Int) : Int) := aD; first | exact h_ | (have e_ := (Kd.zI HO_8.out).1; omega) | simpa using h_)
     obtain rfl := k48_openM hM75
     have HP75 := (Kd.R_seg HO_8.out ((ji57) : Int) (aD) (by have h_ : ((ji57) : Int) < ((x8_1.length : Int) : Int) := aD; first | exact h_ | (have e_ := (Kd.zI HO_8.out).1; omega) | simpa using h_) (seg := [.int .i64 ji67]) (j := 2) hcl75 hcc75 (show 3 ≤ 4 from by decide) (x' := (⟨(rd_T48 y132 (ji57)).f0, (rd_T48 y132 (ji57)).f1, ji67, (rd_T48 y132 (ji57)).f3⟩ : S48)) (k48_mkM _ _ _ (⟨(rd_T48 y132 (ji57)).f0, (rd_T48 y132 (ji57)).f1, ji67, (rd_T48 y132 (ji57)).f3⟩ : S48) ) (fun _ hk => hk)).1
     rw [← Ny135.out] at HP75; have HQ75 := zA.mk HP75; clear hcl75 hcc75 hfr75 hM75 HP75; refine hK.out _ _ ⟨(blk_cell BK107.out 0).trans rfl, (blk_cell BK107.out 1).trans rfl, (blk_cell BK107.out 2).trans rfl, hHeld.2.2.2.1, hHeld.2.2.2.2.1, hHeld.2.2.2.2.2.1, hHeld.2.2.2.2.2.2⟩ (fun hHeld => ?_)
     clear hK K; refine norm_ (a' := ?_) ?_ ?_
     rotate_left
     ·show Act.put _ (some 81) _ = _
      simp only [Act.put, sA_, sB_, sC_, i64_w, i32_w]; rfl
     refine aP 9 (some 82) (tf_ 10 14) HT_ ?_
     refine aP 10 (some 83) (tf_ 11 14) HT_ ?_
     refine aP 11 (some 84) (tf_ 12 14) HT_ ?_
     refine aP 12 (some 85) (tf_ 13 14) HT_ ?_
     refine last_ (i := 13) (N := none) (tb_ 16383 14) rfl rfl (one_of HT_.out (by kernel_rfl)) (by decide) (fun K hK => ?_)
     refine skip_ (w1 := ?_) (by rfl) rfl ?_ ?_
     rotate_left
     ·go_simp
      rfl
     refine hK.out _ _ ?_
     clear hK K; refine done_ (done_of HT_.out (by kernel_rfl)) ?_
     try go_wp2
     go_roundg kj6
     case measure => have := HK1.out; have := HJ6.out; omega
     case rel => exact ⟨(y135), (x9_1), (wrap64 (x15_1 + 1)), aZ, H', ⟨by have := HK1.out; have := HJ6.out; omega⟩, ⟨aR HQ75⟩, ⟨by (with_reducible repeat (first | apply Kd.zB | apply Kd.zC | apply Kd.zD)); exact Kd.zN (Kd.zK (p := ⟨go64, ((ji57) : Int).toNat * 4 + 2, none⟩) (Kd.zO HO_9.out GG75_.out (by decide)) (fun _ hk => hk.2) (.int .i64 ji67)) (fun _ hk => trivial)⟩, ⟨aL HB⟩⟩
    rw [if_neg c63] at H; have c63b0 : ((rd x9_1 (ji60)) == x15_1) = false := beq_eq_false_iff_ne.mpr c63
    have c63b1 : ((rd x9_1 (ji60)) != x15_1) = true := bne_iff_ne.mpr c63
    obtain ⟨y136, hy136⟩ : ∃ y_ : List (S48), y_ = (x8_1.set ((ji57) : Int).toNat (⟨(rd_T48 x8_1 (ji57)).f0, (rd_T48 x8_1 (ji57)).f1, (rd_T48 x8_1 (ji57)).f2, 0⟩ : S48)) := ⟨_, rfl⟩; replace H : ((some (y136.set ((ji57) : Int).toNat (⟨(rd_T48 y136 (ji57)).f0, wrap64 (((rd_T48 y136 (ji57)).f1) + ((rd_T50 l0 x15_1).f2)), (rd_T48 y136 (ji57)).f2, (rd_T48 y136 (ji57)).f3⟩ : S48) : List (S48))).bind fun y138 => ((prop_Table_Of.f a2 ((rd_T50 l0 x15_1).f0)).bind fun t140 => (cells_Make.l0 kj6 l0 l1 a2 (y138.set ((ji57) : Int).toNat (⟨(rd_T48 y138 (ji57)).f0, (rd_T48 y138 (ji57)).f1, mx ((rd_T48 y138 (ji57)).f2) (mn t140 2), (rd_T48 y138 (ji57)).f3⟩ : S48)) x9_1 l0 (l0.length : Int) (wrap64 (x15_1 + 1))))) = some (r1, r2) := by first | (rw [hy136]; with_reducible exact H) | (have H2_ := (Option.bind_some _ _).symm.trans H; rw [hy136]; with_reducible exact H2_) | (have H2_ := (Option.bind_some _ _).symm.trans H; with_reducible exact H2_) | with_reducible exact H | (rw [hy136]; exact H) | exact H
    have Ny136 := zA.mk hy136; clear hy136; obtain ⟨y138, hy138⟩ : ∃ y_ : List (S48), y_ = (y136.set ((ji57) : Int).toNat (⟨(rd_T48 y136 (ji57)).f0, wrap64 (((rd_T48 y136 (ji57)).f1) + ((rd_T50 l0 x15_1).f2)), (rd_T48 y136 (ji57)).f2, (rd_T48 y136 (ji57)).f3⟩ : S48)) := ⟨_, rfl⟩; replace H : ((prop_Table_Of.f a2 ((rd_T50 l0 x15_1).f0)).bind fun t140 => (cells_Make.l0 kj6 l0 l1 a2 (y138.set ((ji57) : Int).toNat (⟨(rd_T48 y138 (ji57)).f0, (rd_T48 y138 (ji57)).f1, mx ((rd_T48 y138 (ji57)).f2) (mn t140 2), (rd_T48 y138 (ji57)).f3⟩ : S48)) x9_1 l0 (l0.length : Int) (wrap64 (x15_1 + 1)))) = some (r1, r2) := by first | (rw [hy138]; with_reducible exact H) | (have H2_ := (Option.bind_some _ _).symm.trans H; rw [hy138]; with_reducible exact H2_) | (have H2_ := (Option.bind_some _ _).symm.trans H; with_reducible exact H2_) | with_reducible exact H | (rw [hy138]; exact H) | exact H
    have Ny138 := zA.mk hy138; clear hy138; replace H := Option.bind_eq_some_iff.mp H; obtain ⟨t140, A780, H⟩ := H; replace H : (cells_Make.l0 kj6 l0 l1 a2 (y138.set ((ji57) : Int).toNat (⟨(rd_T48 y138 (ji57)).f0, (rd_T48 y138 (ji57)).f1, mx ((rd_T48 y138 (ji57)).f2) (mn t140 2), (rd_T48 y138 (ji57)).f3⟩ : S48)) x9_1 l0 (l0.length : Int) (wrap64 (x15_1 + 1))) = some (r1, r2) := H; have A78 := zA.mk A780; clear A780; obtain ⟨ji79, hji79⟩ : ∃ j_ : Int, (mn t140 2) = j_ := ⟨_, rfl⟩; replace H : (cells_Make.l0 kj6 l0 l1 a2 (y138.set ((ji57) : Int).toNat (⟨(rd_T48 y138 (ji57)).f0, (rd_T48 y138 (ji57)).f1, mx ((rd_T48 y138 (ji57)).f2) (ji79), (rd_T48 y138 (ji57)).f3⟩ : S48)) x9_1 l0 (l0.length : Int) (wrap64 (x15_1 + 1))) = some (r1, r2) := by first | (rw [hji79] at H; exact H) | (simp only [hji79] at H ⊢; exact H)
    (try rw [hji79] at A78)
    (try (have hji79h : ji79 ≤ 2 := by (rw [← hji79]; unfold mn; (repeat' split) <;> omega)))
    (try (have hji79g : ji79 ≤ 64 := by omega))
    have hji79_ : (if 2 < t140 then 2 else t140) = ji79 := hji79
    obtain ⟨ji80, hji80⟩ : ∃ j_ : Int, (mx ((rd_T48 y138 (ji57)).f2) (ji79)) = j_ := ⟨_, rfl⟩; replace H : (cells_Make.l0 kj6 l0 l1 a2 (y138.set ((ji57) : Int).toNat (⟨(rd_T48 y138 (ji57)).f0, (rd_T48 y138 (ji57)).f1, ji80, (rd_T48 y138 (ji57)).f3⟩ : S48)) x9_1 l0 (l0.length : Int) (wrap64 (x15_1 + 1))) = some (r1, r2) := by first | (rw [hji80] at H; exact H) | (simp only [hji80] at H ⊢; exact H)
    (try rw [hji80] at A78)
    have hji80_ : (if ((rd_T48 y138 (ji57)).f2) < (ji79) then (ji79) else ((rd_T48 y138 (ji57)).f2)) = ji80 := hji80
    obtain ⟨y141, hy141⟩ : ∃ y_ : List (S48), y_ = (y138.set ((ji57) : Int).toNat (⟨(rd_T48 y138 (ji57)).f0, (rd_T48 y138 (ji57)).f1, ji80, (rd_T48 y138 (ji57)).f3⟩ : S48)) := ⟨_, rfl⟩; replace H : (cells_Make.l0 kj6 l0 l1 a2 y141 x9_1 l0 (l0.length : Int) (wrap64 (x15_1 + 1))) = some (r1, r2) := by first | (rw [hy141]; with_reducible exact H) | (have H2_ := (Option.bind_some _ _).symm.trans H; rw [hy141]; with_reducible exact H2_) | (have H2_ := (Option.bind_some _ _).symm.trans H; with_reducible exact H2_) | with_reducible exact H | (rw [hy141]; exact H) | exact H
    have Ny141 := zA.mk hy141; clear hy141; have H' := zA.mk H
    clear H; obtain ⟨Ao82, co82, eo82⟩ := Kd.zL HO_8.out; subst eo82; have p129 : 0 ≤ ((ji57) : Int) := aD
    have q129 : (ji57) < (x8_1.length : Int) := aD
    obtain ⟨ad129, e129, hx129_0, hx129_1, hx129_2, hx129_3⟩ := at_T48 (Kd.zI HO_8.out).2.2 (ji57) p129 q129; cases e129
    replace p129 := eq_true p129; replace q129 := eq_true q129; obtain ⟨Ao83, co83, eo83⟩ := Kd.zL HO_9.out; subst eo83; have p130 : 0 ≤ ((ji60) : Int) := aD
    have q130 : (ji60) < (x9_1.length : Int) := aD
    obtain ⟨ad130, e130, hx130_0⟩ := Kd.at_int (Kd.zI HO_9.out).2.2 (ji60) p130 q130; cases e130
    replace p130 := eq_true p130; replace q130 := eq_true q130; have p76 : 0 ≤ ((ji57) : Int) := aD
    have q76 : ((ji57) : Int) < ((x8_1.length : Int) : Int) := aD
    obtain ⟨go76, co76, eo76, gb76, gl76, cl76, HG76⟩ := Kd.R_form HO_8.out (by omega)
    (first | cases eo76 | (injection eo76 with ea_ en_ ec_; (first | subst ea_ | (injection ea_ with ea_; subst ea_)); subst ec_; clear en_))
    have GB76 := zA.mk gb76; have GG76 := zA.mk HG76; clear gb76 gl76 HG76; (first | simp only [add_plain] at hx129_0 | skip)
    (first | simp only [add_plain] at hx129_1 | skip)
    (first | simp only [add_plain] at hx129_2 | skip)
    (first | simp only [add_plain] at hx129_3 | skip)
    obtain ⟨ce76, hcl76, hM76, hcc76, hfr76⟩ := Kd.R_elem HO_8.out z48 ((ji57) : Int) p76 q76; obtain rfl := k48_openM hM76
    have hx76_0 : wc.cell? ⟨go76, ((ji57) : Int).toNat * 4, none⟩ = some (.int .i64 ((rd_T48 x8_1 (ji57)).f0)) := hcc76 0 _ rfl
    have hx76_1 : wc.cell? ⟨go76, ((ji57) : Int).toNat * 4 + 1, none⟩ = some (.int .i64 ((rd_T48 x8_1 (ji57)).f1)) := hcc76 1 _ rfl
    have hx76_2 : wc.cell? ⟨go76, ((ji57) : Int).toNat * 4 + 2, none⟩ = some (.int .i64 ((rd_T48 x8_1 (ji57)).f2)) := hcc76 2 _ rfl
    have hx76_3 : wc.cell? ⟨go76, ((ji57) : Int).toNat * 4 + 3, none⟩ = some (.int .u8 ((rd_T48 x8_1 (ji57)).f3)) := hcc76 3 _ rfl
    have hf76_0 : wc.frozen? ⟨go76, ((ji57) : Int).toNat * 4, none⟩ = false := hfr76 0
    have hf76_1 : wc.frozen? ⟨go76, ((ji57) : Int).toNat * 4 + 1, none⟩ = false := hfr76 1
    have hf76_2 : wc.frozen? ⟨go76, ((ji57) : Int).toNat * 4 + 2, none⟩ = false := hfr76 2
    have hf76_3 : wc.frozen? ⟨go76, ((ji57) : Int).toNat * 4 + 3, none⟩ = false := hfr76 3
    (try clear hcl76); (try clear hcc76); (try clear hfr76); (try clear hM76)
    replace p76 := eq_true p76; replace q76 := eq_true q76; have HX84 := zA.mk (show Kd.R k48 48 wc w.heap.size (fun _ => True) (.slice (some ⟨go76, 0, none⟩) x8_1.length co82) x8_1 from (aR HO_8))
    obtain ⟨ce84, hcl84, hM84, hcc84, hfr84⟩ := Kd.R_elem HX84.out z48 ((ji57) : Int) (aD) (by have h_ : ((ji57) : Int) < ((x8_1.length : Int) : Int) := aD; first | exact h_ | (have e_ := (Kd.zI HO_8.out).1; omega) | simpa using h_)
    obtain rfl := k48_openM hM84
    have HP84 := Kd.R_seg HX84.out ((ji57) : Int) (aD) (by have h_ : ((ji57) : Int) < ((x8_1.length : Int) : Int) := aD; first | exact h_ | (have e_ := (Kd.zI HO_8.out).1; omega) | simpa using h_) (seg := [.int .u8 0]) (j := 3) hcl84 hcc84 (show 4 ≤ 4 from by decide) (x' := (⟨(rd_T48 x8_1 (ji57)).f0, (rd_T48 x8_1 (ji57)).f1, (rd_T48 x8_1 (ji57)).f2, 0⟩ : S48)) (k48_mkM _ _ _ (⟨(rd_T48 x8_1 (ji57)).f0, (rd_T48 x8_1 (ji57)).f1, (rd_T48 x8_1 (ji57)).f2, 0⟩ : S48) ) (fun _ hk => hk)
    have hx84_3 := hcc84 3 _ rfl; (try simp only [show (k48).sz = 4 from rfl, Nat.mul_one, Nat.add_zero] at hx84_3)
    have hf84_3 := hfr84 3; (try simp only [show (k48).sz = 4 from rfl, Nat.mul_one, Nat.add_zero] at hf84_3)
    (try clear hcl84); (try clear hcc84); (try clear hfr84); (try clear hM84)
    try go_wp2_with (first | ((with_reducible refine gate_store (t := 46) (p := 63) rfl ?_); refine store_event (t := 46) (p := 63) (v := ?vo_w85) (w1 := (wc.setCell ⟨go76, ((ji57) : Int).toNat * 4 + 3, none⟩ (.int .u8 0))) ?hg ?ho ?hn ?hr ?_; (case ho => rfl); (case hg => rfl); (case hn => rfl); (case hr => first | (go_simp; done) | (go_simp; rfl)); intro w85 hw; have hg : wc.grownBy w85 (some go76) := (by rw [hw]; exact HP84.2); have hp_ : Kd.R k48 48 w85 w.heap.size (fun _ => True) (.slice (some ⟨go76, 0, none⟩) x8_1.length co82) y136 := (by rw [hw, Ny136.out]; exact HP84.1); clear HP84; replace HO_9 := zA.mk (Kd.R_over' (v := (.slice (some ⟨go76, 0, none⟩) x8_1.length co82)) (aR HO_9) (Kd.R_typed HO_8.out) (by decide) hg); replace BK107 := zA.mk (blk_grown (g := gb107) (o := .cells #[.int .i32 ((rd_T50 l0 x15_1).f0), .int .i64 ((rd_T50 l0 x15_1).f1), .int .i64 ((rd_T50 l0 x15_1).f2)] 50 (0, 0)) (aB BK107) hg (Kd.R_ne HO_8.out BK107.out (by decide))); replace HO_8 := zA.mk (hp_); replace HB := zA.mk ((by rw [hw]; exact below_set (HB.out) GB76.out : Below w.heap.size w w85)); clear hg hw hp_))
    replace HO_8 := zA.mk (Kd.zD HO_8.out); replace HO_9 := zA.mk (Kd.zD HO_9.out); replace BK107 := zA.mk (blk_drew BK107.out); replace HB := zA.mk (below_drew1 HB.out); have p137 : 0 ≤ ((ji57) : Int) := aD
    have q137 : (ji57) < (y136.length : Int) := (by have h_ : ((ji57) : Int) < ((x8_1.length : Int) : Int) := aD; first | (have e_ := (Kd.zI HO_8.out).1; omega) | simpa only [Ny136.out, List.length_set] using h_)
    have ql137 : (((ji57) : Int) < ((x8_1.length : Int) : Int)) = True := eq_true (aD)
    obtain ⟨ad137, e137, hx137_0, hx137_1, hx137_2, hx137_3⟩ := at_T48 (Kd.zI HO_8.out).2.2 (ji57) p137 q137; obtain rfl : (⟨go76, 0, none⟩ : Addr) = ad137 := (by injection e137)
    (first | simp only [add_plain] at hx137_0 | simp only [add_at] at hx137_0 | simp only [Addr.add, Nat.zero_add] at hx137_0 | skip)
    (first | simp only [add_plain] at hx137_1 | simp only [add_at] at hx137_1 | simp only [Addr.add, Nat.zero_add] at hx137_1 | skip)
    (first | simp only [add_plain] at hx137_2 | simp only [add_at] at hx137_2 | simp only [Addr.add, Nat.zero_add] at hx137_2 | skip)
    (first | simp only [add_plain] at hx137_3 | simp only [add_at] at hx137_3 | simp only [Addr.add, Nat.zero_add] at hx137_3 | skip)
    replace p137 := eq_true p137; replace q137 := eq_true q137; have p77 : 0 ≤ ((ji57) : Int) := aD
    have q77 : ((ji57) : Int) < ((x8_1.length : Int) : Int) := aD
    obtain ⟨ce77, hcl77, hM77, hcc77, hfr77⟩ := Kd.R_elem HO_8.out z48 ((ji57) : Int) p77 q77; obtain rfl := k48_openM hM77
    have hx77_0 : World.cell? _ ⟨go76, ((ji57) : Int).toNat * 4, none⟩ = some (.int .i64 ((rd_T48 y136 (ji57)).f0)) := hcc77 0 _ rfl
    have hx77_1 : World.cell? _ ⟨go76, ((ji57) : Int).toNat * 4 + 1, none⟩ = some (.int .i64 ((rd_T48 y136 (ji57)).f1)) := hcc77 1 _ rfl
    have hx77_2 : World.cell? _ ⟨go76, ((ji57) : Int).toNat * 4 + 2, none⟩ = some (.int .i64 ((rd_T48 y136 (ji57)).f2)) := hcc77 2 _ rfl
    have hx77_3 : World.cell? _ ⟨go76, ((ji57) : Int).toNat * 4 + 3, none⟩ = some (.int .u8 ((rd_T48 y136 (ji57)).f3)) := hcc77 3 _ rfl
    have hf77_0 : World.frozen? _ ⟨go76, ((ji57) : Int).toNat * 4, none⟩ = false := hfr77 0
    have hf77_1 : World.frozen? _ ⟨go76, ((ji57) : Int).toNat * 4 + 1, none⟩ = false := hfr77 1
    have hf77_2 : World.frozen? _ ⟨go76, ((ji57) : Int).toNat * 4 + 2, none⟩ = false := hfr77 2
    have hf77_3 : World.frozen? _ ⟨go76, ((ji57) : Int).toNat * 4 + 3, none⟩ = false := hfr77 3
    (try clear hcl77); (try clear hcc77); (try clear hfr77); (try clear hM77)
    replace p77 := eq_true p77; replace q77 := eq_true q77; obtain ⟨cx87, gx87⟩ := Kd.R_typed HO_8.out _ rfl; have GG87_ := zA.mk gx87; clear gx87; obtain ⟨ce87, hcl87, hM87, hcc87, hfr87⟩ := Kd.R_elem HO_8.out z48 ((ji57) : Int) (aD) (by have h_ : ((ji57) : Int) < ((x8_1.length : Int) : Int) := aD; first | exact h_ | (have e_ := (Kd.zI HO_8.out).1; omega) | simpa using h_)
    obtain rfl := k48_openM hM87
    have HP87 := (Kd.R_seg HO_8.out ((ji57) : Int) (aD) (by have h_ : ((ji57) : Int) < ((x8_1.length : Int) : Int) := aD; first | exact h_ | (have e_ := (Kd.zI HO_8.out).1; omega) | simpa using h_) (seg := [.int .i64 (wrap64 (((rd_T48 y136 (ji57)).f1) + ((rd_T50 l0 x15_1).f2)))]) (j := 1) hcl87 hcc87 (show 2 ≤ 4 from by decide) (x' := (⟨(rd_T48 y136 (ji57)).f0, wrap64 (((rd_T48 y136 (ji57)).f1) + ((rd_T50 l0 x15_1).f2)), (rd_T48 y136 (ji57)).f2, (rd_T48 y136 (ji57)).f3⟩ : S48)) (k48_mkM _ _ _ (⟨(rd_T48 y136 (ji57)).f0, wrap64 (((rd_T48 y136 (ji57)).f1) + ((rd_T50 l0 x15_1).f2)), (rd_T48 y136 (ji57)).f2, (rd_T48 y136 (ji57)).f3⟩ : S48) ) (fun _ hk => hk)).1
    rw [← Ny138.out] at HP87; have HQ87 := zA.mk HP87; clear hcl87 hcc87 hfr87 hM87 HP87; refine start_ (n := 10) (S := fun w' => w'.cell? ⟨gb107, 0, none⟩ = some (.int .i32 ((rd_T50 l0 x15_1).f0)) ∧ w'.cell? ⟨gb107, 1, none⟩ = some (.int .i64 ((rd_T50 l0 x15_1).f1)) ∧ w'.cell? ⟨gb107, 2, none⟩ = some (.int .i64 ((rd_T50 l0 x15_1).f2)) ∧ w'.cell? ⟨go76, ((ji57)).toNat * 4, none⟩ = some (.int .i64 ((rd_T48 y136 (ji57)).f0)) ∧ w'.cell? ⟨go76, ((ji57)).toNat * 4 + 1, none⟩ = some (.int .i64 ((rd_T48 y136 (ji57)).f1)) ∧ w'.cell? ⟨go76, ((ji57)).toNat * 4 + 2, none⟩ = some (.int .i64 ((rd_T48 y136 (ji57)).f2)) ∧ w'.cell? ⟨go76, ((ji57)).toNat * 4 + 3, none⟩ = some (.int .u8 ((rd_T48 y136 (ji57)).f3))) (ds := [9]) #[false, false, false, false, false, false, false, false, false, false] (by kernel_rfl) rfl rfl ⟨(blk_cell BK107.out 0).trans rfl, (blk_cell BK107.out 1).trans rfl, (blk_cell BK107.out 2).trans rfl, hx137_0, hx137_1, hx137_2, hx137_3⟩ (fun hHeld => ?_); refine with_tabW cells_Make.tab12 cells_Make.bits12 (fun HT_ HW_ => ?_)
    generalize w85.drew = w86 at HO_8 HO_9 BK107 HB GG87_ HQ87 hf77_0 hf77_1 hf77_2 hf77_3 hx137_0 hx137_1 hx137_2 hx137_3 hx77_0 hx77_1 hx77_2 hx77_3 hHeld ⊢
    refine aP 0 (some 64) (tf_ 1 10) HT_ ?_
    refine aP 1 (some 65) (tf_ 2 10) HT_ ?_
    refine aP 2 (some 66) (tf_ 3 10) HT_ ?_
    refine aP 4 (some 68) (tb_ 23 10) HT_ ?_
    refine take_ (i := 3) (N := some 67) (v := ?_) (a' := ?_) (tf_ 5 10) rfl rfl (take_ofW HT_.out HW_.out (by kernel_rfl)) (fun _ _ _ h => h) (Or.inl ⟨by rfl, ?_⟩) hHeld ?_ ?_
    rotate_left
    ·rintro w' ⟨s0, s1, s2, s3, s4, s5, s6⟩
     go_simp
     with_reducible rfl
    rotate_left
    ·simp only [Act.put, sA_, sB_, sC_, i64_w, i32_w]
     rfl
    refine take_ (i := 5) (N := some 69) (v := ?_) (a' := ?_) (tf_ 6 10) rfl rfl (take_ofW HT_.out HW_.out (by kernel_rfl)) (fun _ _ _ h => h) (Or.inl ⟨by rfl, ?_⟩) hHeld ?_ ?_
    rotate_left
    ·rintro w' ⟨s0, s1, s2, s3, s4, s5, s6⟩
     go_simp
     with_reducible rfl
    rotate_left
    ·simp only [Act.put, sA_, sB_, sC_, i64_w, i32_w]
     rfl
    refine aP 6 (some 70) (tf_ 7 10) HT_ ?_
    refine aP 7 (some 71) (tf_ 8 10) HT_ ?_
    refine aP 8 (some 72) (tf_ 9 10) HT_ ?_
    refine last_ (i := 9) (N := none) (tb_ 1023 10) rfl rfl (one_of HT_.out (by kernel_rfl)) (by decide) (fun K hK => ?_)
    refine skip_ (w1 := ?_) (by rfl) rfl ?_ ?_
    rotate_left
    ·go_simp
     rfl
    refine hK.out _ _ ?_
    clear hK K; refine done_ (done_of HT_.out (by kernel_rfl)) ?_
    try go_wp2
    have n0_ : zA (Kd.R k48 48 (w86.setCell ⟨go76, ((ji57) : Int).toNat * 4 + 1, none⟩ (.int .i64 (wrap64 (((rd_T48 y136 (ji57)).f1) + ((rd_T50 l0 x15_1).f2))))) w.heap.size (fun _ => True) (.slice (some ⟨go76, 0, none⟩) x8_1.length co82) y138) := ⟨aR HQ87⟩
    have n1_ : zA (Kd.R (Kd.int .i64) 3 (w86.setCell ⟨go76, ((ji57) : Int).toNat * 4 + 1, none⟩ (.int .i64 (wrap64 (((rd_T48 y136 (ji57)).f1) + ((rd_T50 l0 x15_1).f2))))) w.heap.size (fun _ => True) (.slice (some ad130) x9_1.length co83) x9_1) := ⟨by (with_reducible repeat (first | apply Kd.zB | apply Kd.zC | apply Kd.zD)); exact Kd.zN (Kd.zK (p := ⟨go76, ((ji57) : Int).toNat * 4 + 1, none⟩) (Kd.zO HO_9.out GG87_.out (by decide)) (fun _ hk => hk.2) (.int .i64 (wrap64 (((rd_T48 y136 (ji57)).f1) + ((rd_T50 l0 x15_1).f2))))) (fun _ hk => trivial)⟩
    have n2_ : zA ((w86.setCell ⟨go76, ((ji57) : Int).toNat * 4 + 1, none⟩ (.int .i64 (wrap64 (((rd_T48 y136 (ji57)).f1) + ((rd_T50 l0 x15_1).f2))))).heap[gb107]? = some (.cells #[.int .i32 ((rd_T50 l0 x15_1).f0), .int .i64 ((rd_T50 l0 x15_1).f1), .int .i64 ((rd_T50 l0 x15_1).f2)] 50 (0, 0))) := ⟨by (with_reducible repeat (first | refine blk_drewN ?_ _ | refine blk_drew ?_ | refine blk_alloc ?_ _)); refine blk_far ?_ (by have h_ := Kd.R_ne HO_8.out BK107.out (by decide); intro e_; exact h_ (by rw [e_]; rfl)) _; (with_reducible repeat (first | refine blk_drewN ?_ _ | refine blk_drew ?_ | refine blk_alloc ?_ _)); exact BK107.out⟩
    have n3_ : zA (Below w.heap.size w (w86.setCell ⟨go76, ((ji57) : Int).toNat * 4 + 1, none⟩ (.int .i64 (wrap64 (((rd_T48 y136 (ji57)).f1) + ((rd_T50 l0 x15_1).f2)))))) := ⟨aL HB⟩
    (try clear HO_8)
    (try clear HO_9)
    (try clear BK107)
    (try clear HB)
    generalize (w86.setCell ⟨go76, ((ji57) : Int).toNat * 4 + 1, none⟩ (.int .i64 (wrap64 (((rd_T48 y136 (ji57)).f1) + ((rd_T50 l0 x15_1).f2))))) = w88 at n0_ n1_ n2_ n3_ ⊢
    have HO_8 := n0_; have HO_9 := n1_; have BK107 := n2_; have HB := n3_; clear n0_ n1_ n2_ n3_; replace HO_8 := zA.mk (Kd.zD HO_8.out); replace HO_9 := zA.mk (Kd.zD HO_9.out); replace BK107 := zA.mk (blk_drew BK107.out); replace HB := zA.mk (below_drew1 HB.out); have p139 : 0 ≤ ((ji57) : Int) := aD
    have q139 : (ji57) < (y138.length : Int) := (by have h_ : ((ji57) : Int) < ((x8_1.length : Int) : Int) := aD; first | (have e_ := (Kd.zI HO_8.out).1; omega) | simpa only [Ny136.out, Ny138.out, List.length_set] using h_)
    have ql139 : (((ji57) : Int) < ((x8_1.length : Int) : Int)) = True := eq_true (aD)
    obtain ⟨ad139, e139, hx139_0, hx139_1, hx139_2, hx139_3⟩ := at_T48 (Kd.zI HO_8.out).2.2 (ji57) p139 q139; obtain rfl : (⟨go76, 0, none⟩ : Addr) = ad139 := (by injection e139)
    (first | simp only [add_plain] at hx139_0 | simp only [add_at] at hx139_0 | simp only [Addr.add, Nat.zero_add] at hx139_0 | skip)
    (first | simp only [add_plain] at hx139_1 | simp only [add_at] at hx139_1 | simp only [Addr.add, Nat.zero_add] at hx139_1 | skip)
    (first | simp only [add_plain] at hx139_2 | simp only [add_at] at hx139_2 | simp only [Addr.add, Nat.zero_add] at hx139_2 | skip)
    (first | simp only [add_plain] at hx139_3 | simp only [add_at] at hx139_3 | simp only [Addr.add, Nat.zero_add] at hx139_3 | skip)
    replace p139 := eq_true p139; replace q139 := eq_true q139; refine start_ (n := 14) (S := fun w' => w'.cell? ⟨gb107, 0, none⟩ = some (.int .i32 ((rd_T50 l0 x15_1).f0)) ∧ w'.cell? ⟨gb107, 1, none⟩ = some (.int .i64 ((rd_T50 l0 x15_1).f1)) ∧ w'.cell? ⟨gb107, 2, none⟩ = some (.int .i64 ((rd_T50 l0 x15_1).f2)) ∧ w'.cell? ⟨go76, ((ji57)).toNat * 4, none⟩ = some (.int .i64 ((rd_T48 y138 (ji57)).f0)) ∧ w'.cell? ⟨go76, ((ji57)).toNat * 4 + 1, none⟩ = some (.int .i64 ((rd_T48 y138 (ji57)).f1)) ∧ w'.cell? ⟨go76, ((ji57)).toNat * 4 + 2, none⟩ = some (.int .i64 ((rd_T48 y138 (ji57)).f2)) ∧ w'.cell? ⟨go76, ((ji57)).toNat * 4 + 3, none⟩ = some (.int .u8 ((rd_T48 y138 (ji57)).f3))) (ds := [13]) #[false, false, false, false, false, false, false, false, false, false, false, false, false, false] (by kernel_rfl) rfl rfl ⟨(blk_cell BK107.out 0).trans rfl, (blk_cell BK107.out 1).trans rfl, (blk_cell BK107.out 2).trans rfl, hx139_0, hx139_1, hx139_2, hx139_3⟩ (fun hHeld => ?_); refine with_tabW cells_Make.tab13 cells_Make.bits13 (fun HT_ HW_ => ?_)
    generalize w88.drew = w89 at HO_8 HO_9 BK107 HB HQ87 hx139_0 hx139_1 hx139_2 hx139_3 hHeld ⊢
    refine aP 0 (some 73) (tf_ 1 14) HT_ ?_
    refine aP 1 (some 74) (tf_ 2 14) HT_ ?_
    refine aP 2 (some 75) (tf_ 3 14) HT_ ?_
    refine aP 3 (some 76) (tf_ 4 14) HT_ ?_
    refine aP 5 (some 78) (tb_ 47 14) HT_ ?_
    refine aP 6 (some 79) (tb_ 111 14) HT_ ?_
    refine take_ (i := 4) (N := some 77) (v := ?_) (a' := ?_) (tf_ 7 14) rfl rfl (take_ofW HT_.out HW_.out (by kernel_rfl)) (fun _ _ _ h => h) (Or.inl ⟨by rfl, ?_⟩) hHeld ?_ ?_
    rotate_left
    ·rintro w' ⟨s0, s1, s2, s3, s4, s5, s6⟩
     go_simp
     with_reducible rfl
    rotate_left
    ·simp only [Act.put, sA_, sB_, sC_, i64_w, i32_w]
     rfl
    refine take_ (i := 7) (N := some 80) (v := ?_) (a' := ?_) (tf_ 8 14) rfl rfl (take_ofW HT_.out HW_.out (by kernel_rfl)) (fun _ _ _ h => h) (Or.inl ⟨by rfl, ?_⟩) hHeld ?_ ?_
    rotate_left
    ·rintro w' ⟨s0, s1, s2, s3, s4, s5, s6⟩
     go_simp
     with_reducible rfl
    rotate_left
    ·simp only [Act.put, sA_, sB_, sC_, i64_w, i32_w]
     rfl
    refine one_ (i := 8) (N := some 81) (tb_ 511 14) rfl rfl (one_of HT_.out (by kernel_rfl)) (by decide) (fun K hK => ?_)
    refine goes_ Try.func22 (by kernel_rfl) rfl #[vt2_, .int .i32 ((rd_T50 l0 x15_1).f0)] (by rfl) rfl rfl aT ?_
    with_reducible refine (prop_Table_Of.calls vt2_ a2 ((rd_T50 l0 x15_1).f0) t140 _ ?side1 A78.out).mono ?_
    (case side1 => exact TabAt.below HTa2.out (aL HB))
    rintro e w' ⟨rfl, ⟨nd, rfl⟩⟩
    refine ⟨_, rfl, ?_⟩
    have p81 : 0 ≤ ((ji57) : Int) := aD
    have q81 : ((ji57) : Int) < ((x8_1.length : Int) : Int) := aD
    obtain ⟨ce81, hcl81, hM81, hcc81, hfr81⟩ := Kd.R_elem HO_8.out z48 ((ji57) : Int) p81 q81; obtain rfl := k48_openM hM81
    have hx81_0 : World.cell? _ ⟨go76, ((ji57) : Int).toNat * 4, none⟩ = some (.int .i64 ((rd_T48 y138 (ji57)).f0)) := hcc81 0 _ rfl
    have hx81_1 : World.cell? _ ⟨go76, ((ji57) : Int).toNat * 4 + 1, none⟩ = some (.int .i64 ((rd_T48 y138 (ji57)).f1)) := hcc81 1 _ rfl
    have hx81_2 : World.cell? _ ⟨go76, ((ji57) : Int).toNat * 4 + 2, none⟩ = some (.int .i64 ((rd_T48 y138 (ji57)).f2)) := hcc81 2 _ rfl
    have hx81_3 : World.cell? _ ⟨go76, ((ji57) : Int).toNat * 4 + 3, none⟩ = some (.int .u8 ((rd_T48 y138 (ji57)).f3)) := hcc81 3 _ rfl
    have hf81_0 : World.frozen? _ ⟨go76, ((ji57) : Int).toNat * 4, none⟩ = false := hfr81 0
    have hf81_1 : World.frozen? _ ⟨go76, ((ji57) : Int).toNat * 4 + 1, none⟩ = false := hfr81 1
    have hf81_2 : World.frozen? _ ⟨go76, ((ji57) : Int).toNat * 4 + 2, none⟩ = false := hfr81 2
    have hf81_3 : World.frozen? _ ⟨go76, ((ji57) : Int).toNat * 4 + 3, none⟩ = false := hfr81 3
    (try clear hcl81); (try clear hcc81); (try clear hfr81); (try clear hM81)
    replace p81 := eq_true p81; replace q81 := eq_true q81; obtain ⟨cx90, gx90⟩ := Kd.R_typed HO_8.out _ rfl; have GG90_ := zA.mk gx90; clear gx90; obtain ⟨ce90, hcl90, hM90, hcc90, hfr90⟩ := Kd.R_elem HO_8.out z48 ((ji57) : Int) (aD) (by have h_ : ((ji57) : Int) < ((x8_1.length : Int) : Int) := aD; first | exact h_ | (have e_ := (Kd.zI HO_8.out).1; omega) | simpa using h_)
    obtain rfl := k48_openM hM90
    have HP90 := (Kd.R_seg HO_8.out ((ji57) : Int) (aD) (by have h_ : ((ji57) : Int) < ((x8_1.length : Int) : Int) := aD; first | exact h_ | (have e_ := (Kd.zI HO_8.out).1; omega) | simpa using h_) (seg := [.int .i64 ji80]) (j := 2) hcl90 hcc90 (show 3 ≤ 4 from by decide) (x' := (⟨(rd_T48 y138 (ji57)).f0, (rd_T48 y138 (ji57)).f1, ji80, (rd_T48 y138 (ji57)).f3⟩ : S48)) (k48_mkM _ _ _ (⟨(rd_T48 y138 (ji57)).f0, (rd_T48 y138 (ji57)).f1, ji80, (rd_T48 y138 (ji57)).f3⟩ : S48) ) (fun _ hk => hk)).1
    rw [← Ny141.out] at HP90; have HQ90 := zA.mk HP90; clear hcl90 hcc90 hfr90 hM90 HP90; refine hK.out _ _ ⟨(blk_cell BK107.out 0).trans rfl, (blk_cell BK107.out 1).trans rfl, (blk_cell BK107.out 2).trans rfl, hHeld.2.2.2.1, hHeld.2.2.2.2.1, hHeld.2.2.2.2.2.1, hHeld.2.2.2.2.2.2⟩ (fun hHeld => ?_)
    clear hK K; refine norm_ (a' := ?_) ?_ ?_
    rotate_left
    ·show Act.put _ (some 81) _ = _
     simp only [Act.put, sA_, sB_, sC_, i64_w, i32_w]; rfl
    refine aP 9 (some 82) (tf_ 10 14) HT_ ?_
    refine aP 10 (some 83) (tf_ 11 14) HT_ ?_
    refine aP 11 (some 84) (tf_ 12 14) HT_ ?_
    refine aP 12 (some 85) (tf_ 13 14) HT_ ?_
    refine last_ (i := 13) (N := none) (tb_ 16383 14) rfl rfl (one_of HT_.out (by kernel_rfl)) (by decide) (fun K hK => ?_)
    refine skip_ (w1 := ?_) (by rfl) rfl ?_ ?_
    rotate_left
    ·go_simp
     rfl
    refine hK.out _ _ ?_
    clear hK K; refine done_ (done_of HT_.out (by kernel_rfl)) ?_
    try go_wp2
    go_roundg kj6
    case measure => have := HK1.out; have := HJ6.out; omega
    case rel => exact ⟨(y141), (x9_1), (wrap64 (x15_1 + 1)), aZ, H', ⟨by have := HK1.out; have := HJ6.out; omega⟩, ⟨aR HQ90⟩, ⟨by (with_reducible repeat (first | apply Kd.zB | apply Kd.zC | apply Kd.zD)); exact Kd.zN (Kd.zK (p := ⟨go76, ((ji57) : Int).toNat * 4 + 2, none⟩) (Kd.zO HO_9.out GG90_.out (by decide)) (fun _ hk => hk.2) (.int .i64 ji80)) (fun _ hk => trivial)⟩, ⟨aL HB⟩⟩
   subst c13; have H1 : ((cells_kind.f ((rd_T50 l0 x15_1).f0)).bind fun t109 => (if x8_1.length < 4398046511104 then ((some (x8_1 ++ [(⟨((rd_T50 l0 x15_1).f1), 0, 0, t109⟩ : S48)] : List (S48))).bind fun y110 => (if x9_1.length < 17592186044416 then ((some (x9_1 ++ [x15_1] : List Int)).bind fun y113 => (if 0 ≤ (wrap64 ((y110.length : Int) - 1)) then (if (wrap64 ((y110.length : Int) - 1)) < (y110.length : Int) then (if 0 ≤ (wrap64 ((y113.length : Int) - 1)) then (if (wrap64 ((y113.length : Int) - 1)) < (y113.length : Int) then (if (rd y113 (wrap64 ((y113.length : Int) - 1))) = x15_1 then ((some (y110.set ((wrap64 ((y110.length : Int) - 1)) : Int).toNat (⟨(rd_T48 y110 (wrap64 ((y110.length : Int) - 1))).f0, wrap64 (((rd_T48 y110 (wrap64 ((y110.length : Int) - 1))).f1) + ((rd_T50 l0 x15_1).f2)), (rd_T48 y110 (wrap64 ((y110.length : Int) - 1))).f2, (rd_T48 y110 (wrap64 ((y110.length : Int) - 1))).f3⟩ : S48) : List (S48))).bind fun y119 => ((prop_Table_Of.f a2 ((rd_T50 l0 x15_1).f0)).bind fun t121 => (cells_Make.l0 kj6 l0 l1 a2 (y119.set ((wrap64 ((y110.length : Int) - 1)) : Int).toNat (⟨(rd_T48 y119 (wrap64 ((y110.length : Int) - 1))).f0, (rd_T48 y119 (wrap64 ((y110.length : Int) - 1))).f1, mx ((rd_T48 y119 (wrap64 ((y110.length : Int) - 1))).f2) (mn t121 2), (rd_T48 y119 (wrap64 ((y110.length : Int) - 1))).f3⟩ : S48)) y113 l0 (l0.length : Int) (wrap64 (x15_1 + 1))))) else ((some (y110.set ((wrap64 ((y110.length : Int) - 1)) : Int).toNat (⟨(rd_T48 y110 (wrap64 ((y110.length : Int) - 1))).f0, (rd_T48 y110 (wrap64 ((y110.length : Int) - 1))).f1, (rd_T48 y110 (wrap64 ((y110.length : Int) - 1))).f2, 0⟩ : S48) : List (S48))).bind fun y123 => ((some (y123.set ((wrap64 ((y110.length : Int) - 1)) : Int).toNat (⟨(rd_T48 y123 (wrap64 ((y110.length : Int) - 1))).f0, wrap64 (((rd_T48 y123 (wrap64 ((y110.length : Int) - 1))).f1) + ((rd_T50 l0 x15_1).f2)), (rd_T48 y123 (wrap64 ((y110.length : Int) - 1))).f2, (rd_T48 y123 (wrap64 ((y110.length : Int) - 1))).f3⟩ : S48) : List (S48))).bind fun y125 => ((prop_Table_Of.f a2 ((rd_T50 l0 x15_1).f0)).bind fun t127 => (cells_Make.l0 kj6 l0 l1 a2 (y125.set ((wrap64 ((y110.length : Int) - 1)) : Int).toNat (⟨(rd_T48 y125 (wrap64 ((y110.length : Int) - 1))).f0, (rd_T48 y125 (wrap64 ((y110.length : Int) - 1))).f1, mx ((rd_T48 y125 (wrap64 ((y110.length : Int) - 1))).f2) (mn t127 2), (rd_T48 y125 (wrap64 ((y110.length : Int) - 1))).f3⟩ : S48)) y113 l0 (l0.length : Int) (wrap64 (x15_1 + 1))))))) else (none)) else (none)) else (none)) else (none))) else (none))) else (none))) = some (r1, r2) := by rw [if_pos rfl] at H; exact H
   clear H; have H := H1; clear H1; replace H := Option.bind_eq_some_iff.mp H; obtain ⟨t109, A140, H⟩ := H; replace H : (if x8_1.length < 4398046511104 then ((some (x8_1 ++ [(⟨((rd_T50 l0 x15_1).f1), 0, 0, t109⟩ : S48)] : List (S48))).bind fun y110 => (if x9_1.length < 17592186044416 then ((some (x9_1 ++ [x15_1] : List Int)).bind fun y113 => (if 0 ≤ (wrap64 ((y110.length : Int) - 1)) then (if (wrap64 ((y110.length : Int) - 1)) < (y110.length : Int) then (if 0 ≤ (wrap64 ((y113.length : Int) - 1)) then (if (wrap64 ((y113.length : Int) - 1)) < (y113.length : Int) then (if (rd y113 (wrap64 ((y113.length : Int) - 1))) = x15_1 then ((some (y110.set ((wrap64 ((y110.length : Int) - 1)) : Int).toNat (⟨(rd_T48 y110 (wrap64 ((y110.length : Int) - 1))).f0, wrap64 (((rd_T48 y110 (wrap64 ((y110.length : Int) - 1))).f1) + ((rd_T50 l0 x15_1).f2)), (rd_T48 y110 (wrap64 ((y110.length : Int) - 1))).f2, (rd_T48 y110 (wrap64 ((y110.length : Int) - 1))).f3⟩ : S48) : List (S48))).bind fun y119 => ((prop_Table_Of.f a2 ((rd_T50 l0 x15_1).f0)).bind fun t121 => (cells_Make.l0 kj6 l0 l1 a2 (y119.set ((wrap64 ((y110.length : Int) - 1)) : Int).toNat (⟨(rd_T48 y119 (wrap64 ((y110.length : Int) - 1))).f0, (rd_T48 y119 (wrap64 ((y110.length : Int) - 1))).f1, mx ((rd_T48 y119 (wrap64 ((y110.length : Int) - 1))).f2) (mn t121 2), (rd_T48 y119 (wrap64 ((y110.length : Int) - 1))).f3⟩ : S48)) y113 l0 (l0.length : Int) (wrap64 (x15_1 + 1))))) else ((some (y110.set ((wrap64 ((y110.length : Int) - 1)) : Int).toNat (⟨(rd_T48 y110 (wrap64 ((y110.length : Int) - 1))).f0, (rd_T48 y110 (wrap64 ((y110.length : Int) - 1))).f1, (rd_T48 y110 (wrap64 ((y110.length : Int) - 1))).f2, 0⟩ : S48) : List (S48))).bind fun y123 => ((some (y123.set ((wrap64 ((y110.length : Int) - 1)) : Int).toNat (⟨(rd_T48 y123 (wrap64 ((y110.length : Int) - 1))).f0, wrap64 (((rd_T48 y123 (wrap64 ((y110.length : Int) - 1))).f1) + ((rd_T50 l0 x15_1).f2)), (rd_T48 y123 (wrap64 ((y110.length : Int) - 1))).f2, (rd_T48 y123 (wrap64 ((y110.length : Int) - 1))).f3⟩ : S48) : List (S48))).bind fun y125 => ((prop_Table_Of.f a2 ((rd_T50 l0 x15_1).f0)).bind fun t127 => (cells_Make.l0 kj6 l0 l1 a2 (y125.set ((wrap64 ((y110.length : Int) - 1)) : Int).toNat (⟨(rd_T48 y125 (wrap64 ((y110.length : Int) - 1))).f0, (rd_T48 y125 (wrap64 ((y110.length : Int) - 1))).f1, mx ((rd_T48 y125 (wrap64 ((y110.length : Int) - 1))).f2) (mn t127 2), (rd_T48 y125 (wrap64 ((y110.length : Int) - 1))).f3⟩ : S48)) y113 l0 (l0.length : Int) (wrap64 (x15_1 + 1))))))) else (none)) else (none)) else (none)) else (none))) else (none))) else (none)) = some (r1, r2) := H
   have A14 := zA.mk A140; clear A140; by_cases c15 : x8_1.length < 4398046511104
   rotate_left
   ·rw [if_neg c15] at H
    exact absurd H (by simp)
   rw [if_pos c15] at H; have LMc15 := zA.mk c15; clear c15; obtain ⟨y110, hy110⟩ : ∃ y_ : List (S48), y_ = (x8_1 ++ [(⟨((rd_T50 l0 x15_1).f1), 0, 0, t109⟩ : S48)]) := ⟨_, rfl⟩; replace H : (if x9_1.length < 17592186044416 then ((some (x9_1 ++ [x15_1] : List Int)).bind fun y113 => (if 0 ≤ (wrap64 ((y110.length : Int) - 1)) then (if (wrap64 ((y110.length : Int) - 1)) < (y110.length : Int) then (if 0 ≤ (wrap64 ((y113.length : Int) - 1)) then (if (wrap64 ((y113.length : Int) - 1)) < (y113.length : Int) then (if (rd y113 (wrap64 ((y113.length : Int) - 1))) = x15_1 then ((some (y110.set ((wrap64 ((y110.length : Int) - 1)) : Int).toNat (⟨(rd_T48 y110 (wrap64 ((y110.length : Int) - 1))).f0, wrap64 (((rd_T48 y110 (wrap64 ((y110.length : Int) - 1))).f1) + ((rd_T50 l0 x15_1).f2)), (rd_T48 y110 (wrap64 ((y110.length : Int) - 1))).f2, (rd_T48 y110 (wrap64 ((y110.length : Int) - 1))).f3⟩ : S48) : List (S48))).bind fun y119 => ((prop_Table_Of.f a2 ((rd_T50 l0 x15_1).f0)).bind fun t121 => (cells_Make.l0 kj6 l0 l1 a2 (y119.set ((wrap64 ((y110.length : Int) - 1)) : Int).toNat (⟨(rd_T48 y119 (wrap64 ((y110.length : Int) - 1))).f0, (rd_T48 y119 (wrap64 ((y110.length : Int) - 1))).f1, mx ((rd_T48 y119 (wrap64 ((y110.length : Int) - 1))).f2) (mn t121 2), (rd_T48 y119 (wrap64 ((y110.length : Int) - 1))).f3⟩ : S48)) y113 l0 (l0.length : Int) (wrap64 (x15_1 + 1))))) else ((some (y110.set ((wrap64 ((y110.length : Int) - 1)) : Int).toNat (⟨(rd_T48 y110 (wrap64 ((y110.length : Int) - 1))).f0, (rd_T48 y110 (wrap64 ((y110.length : Int) - 1))).f1, (rd_T48 y110 (wrap64 ((y110.length : Int) - 1))).f2, 0⟩ : S48) : List (S48))).bind fun y123 => ((some (y123.set ((wrap64 ((y110.length : Int) - 1)) : Int).toNat (⟨(rd_T48 y123 (wrap64 ((y110.length : Int) - 1))).f0, wrap64 (((rd_T48 y123 (wrap64 ((y110.length : Int) - 1))).f1) + ((rd_T50 l0 x15_1).f2)), (rd_T48 y123 (wrap64 ((y110.length : Int) - 1))).f2, (rd_T48 y123 (wrap64 ((y110.length : Int) - 1))).f3⟩ : S48) : List (S48))).bind fun y125 => ((prop_Table_Of.f a2 ((rd_T50 l0 x15_1).f0)).bind fun t127 => (cells_Make.l0 kj6 l0 l1 a2 (y125.set ((wrap64 ((y110.length : Int) - 1)) : Int).toNat (⟨(rd_T48 y125 (wrap64 ((y110.length : Int) - 1))).f0, (rd_T48 y125 (wrap64 ((y110.length : Int) - 1))).f1, mx ((rd_T48 y125 (wrap64 ((y110.length : Int) - 1))).f2) (mn t127 2), (rd_T48 y125 (wrap64 ((y110.length : Int) - 1))).f3⟩ : S48)) y113 l0 (l0.length : Int) (wrap64 (x15_1 + 1))))))) else (none)) else (none)) else (none)) else (none))) else (none)) = some (r1, r2) := by first | (rw [hy110]; with_reducible exact H) | (have H2_ := (Option.bind_some _ _).symm.trans H; rw [hy110]; with_reducible exact H2_) | (have H2_ := (Option.bind_some _ _).symm.trans H; with_reducible exact H2_) | with_reducible exact H | (rw [hy110]; exact H) | exact H
   have Ny110 := zA.mk hy110; clear hy110; by_cases c16 : x9_1.length < 17592186044416
   rotate_left
   ·rw [if_neg c16] at H
    exact absurd H (by simp)
   rw [if_pos c16] at H; have LMc16 := zA.mk c16; clear c16; obtain ⟨y113, hy113⟩ : ∃ y_ : List Int, y_ = (x9_1 ++ [x15_1]) := ⟨_, rfl⟩; replace H : (if 0 ≤ (wrap64 ((y110.length : Int) - 1)) then (if (wrap64 ((y110.length : Int) - 1)) < (y110.length : Int) then (if 0 ≤ (wrap64 ((y113.length : Int) - 1)) then (if (wrap64 ((y113.length : Int) - 1)) < (y113.length : Int) then (if (rd y113 (wrap64 ((y113.length : Int) - 1))) = x15_1 then ((some (y110.set ((wrap64 ((y110.length : Int) - 1)) : Int).toNat (⟨(rd_T48 y110 (wrap64 ((y110.length : Int) - 1))).f0, wrap64 (((rd_T48 y110 (wrap64 ((y110.length : Int) - 1))).f1) + ((rd_T50 l0 x15_1).f2)), (rd_T48 y110 (wrap64 ((y110.length : Int) - 1))).f2, (rd_T48 y110 (wrap64 ((y110.length : Int) - 1))).f3⟩ : S48) : List (S48))).bind fun y119 => ((prop_Table_Of.f a2 ((rd_T50 l0 x15_1).f0)).bind fun t121 => (cells_Make.l0 kj6 l0 l1 a2 (y119.set ((wrap64 ((y110.length : Int) - 1)) : Int).toNat (⟨(rd_T48 y119 (wrap64 ((y110.length : Int) - 1))).f0, (rd_T48 y119 (wrap64 ((y110.length : Int) - 1))).f1, mx ((rd_T48 y119 (wrap64 ((y110.length : Int) - 1))).f2) (mn t121 2), (rd_T48 y119 (wrap64 ((y110.length : Int) - 1))).f3⟩ : S48)) y113 l0 (l0.length : Int) (wrap64 (x15_1 + 1))))) else ((some (y110.set ((wrap64 ((y110.length : Int) - 1)) : Int).toNat (⟨(rd_T48 y110 (wrap64 ((y110.length : Int) - 1))).f0, (rd_T48 y110 (wrap64 ((y110.length : Int) - 1))).f1, (rd_T48 y110 (wrap64 ((y110.length : Int) - 1))).f2, 0⟩ : S48) : List (S48))).bind fun y123 => ((some (y123.set ((wrap64 ((y110.length : Int) - 1)) : Int).toNat (⟨(rd_T48 y123 (wrap64 ((y110.length : Int) - 1))).f0, wrap64 (((rd_T48 y123 (wrap64 ((y110.length : Int) - 1))).f1) + ((rd_T50 l0 x15_1).f2)), (rd_T48 y123 (wrap64 ((y110.length : Int) - 1))).f2, (rd_T48 y123 (wrap64 ((y110.length : Int) - 1))).f3⟩ : S48) : List (S48))).bind fun y125 => ((prop_Table_Of.f a2 ((rd_T50 l0 x15_1).f0)).bind fun t127 => (cells_Make.l0 kj6 l0 l1 a2 (y125.set ((wrap64 ((y110.length : Int) - 1)) : Int).toNat (⟨(rd_T48 y125 (wrap64 ((y110.length : Int) - 1))).f0, (rd_T48 y125 (wrap64 ((y110.length : Int) - 1))).f1, mx ((rd_T48 y125 (wrap64 ((y110.length : Int) - 1))).f2) (mn t127 2), (rd_T48 y125 (wrap64 ((y110.length : Int) - 1))).f3⟩ : S48)) y113 l0 (l0.length : Int) (wrap64 (x15_1 + 1))))))) else (none)) else (none)) else (none)) else (none)) = some (r1, r2) := by first | (rw [hy113]; with_reducible exact H) | (have H2_ := (Option.bind_some _ _).symm.trans H; rw [hy113]; with_reducible exact H2_) | (have H2_ := (Option.bind_some _ _).symm.trans H; with_reducible exact H2_) | with_reducible exact H | (rw [hy113]; exact H) | exact H
   have Ny113 := zA.mk hy113; clear hy113; obtain ⟨ji17, hji17⟩ : ∃ j_ : Int, (wrap64 ((y110.length : Int) - 1)) = j_ := ⟨_, rfl⟩; replace H : (if 0 ≤ (ji17) then (if (ji17) < (y110.length : Int) then (if 0 ≤ (wrap64 ((y113.length : Int) - 1)) then (if (wrap64 ((y113.length : Int) - 1)) < (y113.length : Int) then (if (rd y113 (wrap64 ((y113.length : Int) - 1))) = x15_1 then ((some (y110.set ((ji17) : Int).toNat (⟨(rd_T48 y110 (ji17)).f0, wrap64 (((rd_T48 y110 (ji17)).f1) + ((rd_T50 l0 x15_1).f2)), (rd_T48 y110 (ji17)).f2, (rd_T48 y110 (ji17)).f3⟩ : S48) : List (S48))).bind fun y119 => ((prop_Table_Of.f a2 ((rd_T50 l0 x15_1).f0)).bind fun t121 => (cells_Make.l0 kj6 l0 l1 a2 (y119.set ((ji17) : Int).toNat (⟨(rd_T48 y119 (ji17)).f0, (rd_T48 y119 (ji17)).f1, mx ((rd_T48 y119 (ji17)).f2) (mn t121 2), (rd_T48 y119 (ji17)).f3⟩ : S48)) y113 l0 (l0.length : Int) (wrap64 (x15_1 + 1))))) else ((some (y110.set ((ji17) : Int).toNat (⟨(rd_T48 y110 (ji17)).f0, (rd_T48 y110 (ji17)).f1, (rd_T48 y110 (ji17)).f2, 0⟩ : S48) : List (S48))).bind fun y123 => ((some (y123.set ((ji17) : Int).toNat (⟨(rd_T48 y123 (ji17)).f0, wrap64 (((rd_T48 y123 (ji17)).f1) + ((rd_T50 l0 x15_1).f2)), (rd_T48 y123 (ji17)).f2, (rd_T48 y123 (ji17)).f3⟩ : S48) : List (S48))).bind fun y125 => ((prop_Table_Of.f a2 ((rd_T50 l0 x15_1).f0)).bind fun t127 => (cells_Make.l0 kj6 l0 l1 a2 (y125.set ((ji17) : Int).toNat (⟨(rd_T48 y125 (ji17)).f0, (rd_T48 y125 (ji17)).f1, mx ((rd_T48 y125 (ji17)).f2) (mn t127 2), (rd_T48 y125 (ji17)).f3⟩ : S48)) y113 l0 (l0.length : Int) (wrap64 (x15_1 + 1))))))) else (none)) else (none)) else (none)) else (none)) = some (r1, r2) := by first | (rw [hji17] at H; exact H) | (simp only [hji17] at H ⊢; exact H)
   (try rw [hji17] at A14)
   have hji17w : (IntKind.i64.wrap ((y110.length : Int) - 1)) = ji17 := (i64_w _).trans hji17
   by_cases c18 : 0 ≤ (ji17)
   rotate_left
   ·rw [if_neg c18] at H
    exact absurd H (by simp)
   rw [if_pos c18] at H; have c18b0 : decide (0 ≤ (ji17)) = true := decide_eq_true c18
   clear c18; by_cases c19 : (ji17) < (y110.length : Int)
   rotate_left
   ·rw [if_neg c19] at H
    exact absurd H (by simp)
   rw [if_pos c19] at H; have c19b0 : decide ((ji17) < (y110.length : Int)) = true := decide_eq_true c19
   clear c19; obtain ⟨ji20, hji20⟩ : ∃ j_ : Int, (wrap64 ((y113.length : Int) - 1)) = j_ := ⟨_, rfl⟩; replace H : (if 0 ≤ (ji20) then (if (ji20) < (y113.length : Int) then (if (rd y113 (ji20)) = x15_1 then ((some (y110.set ((ji17) : Int).toNat (⟨(rd_T48 y110 (ji17)).f0, wrap64 (((rd_T48 y110 (ji17)).f1) + ((rd_T50 l0 x15_1).f2)), (rd_T48 y110 (ji17)).f2, (rd_T48 y110 (ji17)).f3⟩ : S48) : List (S48))).bind fun y119 => ((prop_Table_Of.f a2 ((rd_T50 l0 x15_1).f0)).bind fun t121 => (cells_Make.l0 kj6 l0 l1 a2 (y119.set ((ji17) : Int).toNat (⟨(rd_T48 y119 (ji17)).f0, (rd_T48 y119 (ji17)).f1, mx ((rd_T48 y119 (ji17)).f2) (mn t121 2), (rd_T48 y119 (ji17)).f3⟩ : S48)) y113 l0 (l0.length : Int) (wrap64 (x15_1 + 1))))) else ((some (y110.set ((ji17) : Int).toNat (⟨(rd_T48 y110 (ji17)).f0, (rd_T48 y110 (ji17)).f1, (rd_T48 y110 (ji17)).f2, 0⟩ : S48) : List (S48))).bind fun y123 => ((some (y123.set ((ji17) : Int).toNat (⟨(rd_T48 y123 (ji17)).f0, wrap64 (((rd_T48 y123 (ji17)).f1) + ((rd_T50 l0 x15_1).f2)), (rd_T48 y123 (ji17)).f2, (rd_T48 y123 (ji17)).f3⟩ : S48) : List (S48))).bind fun y125 => ((prop_Table_Of.f a2 ((rd_T50 l0 x15_1).f0)).bind fun t127 => (cells_Make.l0 kj6 l0 l1 a2 (y125.set ((ji17) : Int).toNat (⟨(rd_T48 y125 (ji17)).f0, (rd_T48 y125 (ji17)).f1, mx ((rd_T48 y125 (ji17)).f2) (mn t127 2), (rd_T48 y125 (ji17)).f3⟩ : S48)) y113 l0 (l0.length : Int) (wrap64 (x15_1 + 1))))))) else (none)) else (none)) = some (r1, r2) := by first | (rw [hji20] at H; exact H) | (simp only [hji20] at H ⊢; exact H)
   (try rw [hji20] at A14)
   have hji20w : (IntKind.i64.wrap ((y113.length : Int) - 1)) = ji20 := (i64_w _).trans hji20
   by_cases c21 : 0 ≤ (ji20)
   rotate_left
   ·rw [if_neg c21] at H
    exact absurd H (by simp)
   rw [if_pos c21] at H; have c21b0 : decide (0 ≤ (ji20)) = true := decide_eq_true c21
   clear c21; by_cases c22 : (ji20) < (y113.length : Int)
   rotate_left
   ·rw [if_neg c22] at H
    exact absurd H (by simp)
   rw [if_pos c22] at H; have c22b0 : decide ((ji20) < (y113.length : Int)) = true := decide_eq_true c22
   clear c22; by_cases c23 : (rd y113 (ji20)) = x15_1
   ·rw [if_pos c23] at H
    have c23b0 : ((rd y113 (ji20)) == x15_1) = true := beq_iff_eq.mpr c23
    have c23b1 : ((rd y113 (ji20)) != x15_1) = false := bne_eq_false_iff_eq.mpr c23
    clear c23; obtain ⟨y119, hy119⟩ : ∃ y_ : List (S48), y_ = (y110.set ((ji17) : Int).toNat (⟨(rd_T48 y110 (ji17)).f0, wrap64 (((rd_T48 y110 (ji17)).f1) + ((rd_T50 l0 x15_1).f2)), (rd_T48 y110 (ji17)).f2, (rd_T48 y110 (ji17)).f3⟩ : S48)) := ⟨_, rfl⟩; replace H : ((prop_Table_Of.f a2 ((rd_T50 l0 x15_1).f0)).bind fun t121 => (cells_Make.l0 kj6 l0 l1 a2 (y119.set ((ji17) : Int).toNat (⟨(rd_T48 y119 (ji17)).f0, (rd_T48 y119 (ji17)).f1, mx ((rd_T48 y119 (ji17)).f2) (mn t121 2), (rd_T48 y119 (ji17)).f3⟩ : S48)) y113 l0 (l0.length : Int) (wrap64 (x15_1 + 1)))) = some (r1, r2) := by first | (rw [hy119]; with_reducible exact H) | (have H2_ := (Option.bind_some _ _).symm.trans H; rw [hy119]; with_reducible exact H2_) | (have H2_ := (Option.bind_some _ _).symm.trans H; with_reducible exact H2_) | with_reducible exact H | (rw [hy119]; exact H) | exact H
    have Ny119 := zA.mk hy119; clear hy119; replace H := Option.bind_eq_some_iff.mp H; obtain ⟨t121, A250, H⟩ := H; replace H : (cells_Make.l0 kj6 l0 l1 a2 (y119.set ((ji17) : Int).toNat (⟨(rd_T48 y119 (ji17)).f0, (rd_T48 y119 (ji17)).f1, mx ((rd_T48 y119 (ji17)).f2) (mn t121 2), (rd_T48 y119 (ji17)).f3⟩ : S48)) y113 l0 (l0.length : Int) (wrap64 (x15_1 + 1))) = some (r1, r2) := H; have A25 := zA.mk A250; clear A250; obtain ⟨ji26, hji26⟩ : ∃ j_ : Int, (mn t121 2) = j_ := ⟨_, rfl⟩; replace H : (cells_Make.l0 kj6 l0 l1 a2 (y119.set ((ji17) : Int).toNat (⟨(rd_T48 y119 (ji17)).f0, (rd_T48 y119 (ji17)).f1, mx ((rd_T48 y119 (ji17)).f2) (ji26), (rd_T48 y119 (ji17)).f3⟩ : S48)) y113 l0 (l0.length : Int) (wrap64 (x15_1 + 1))) = some (r1, r2) := by first | (rw [hji26] at H; exact H) | (simp only [hji26] at H ⊢; exact H)
    (try rw [hji26] at A14)
    (try rw [hji26] at A25)
    (try (have hji26h : ji26 ≤ 2 := by (rw [← hji26]; unfold mn; (repeat' split) <;> omega)))
    (try (have hji26g : ji26 ≤ 64 := by omega))
    have hji26_ : (if 2 < t121 then 2 else t121) = ji26 := hji26
    obtain ⟨ji27, hji27⟩ : ∃ j_ : Int, (mx ((rd_T48 y119 (ji17)).f2) (ji26)) = j_ := ⟨_, rfl⟩; replace H : (cells_Make.l0 kj6 l0 l1 a2 (y119.set ((ji17) : Int).toNat (⟨(rd_T48 y119 (ji17)).f0, (rd_T48 y119 (ji17)).f1, ji27, (rd_T48 y119 (ji17)).f3⟩ : S48)) y113 l0 (l0.length : Int) (wrap64 (x15_1 + 1))) = some (r1, r2) := by first | (rw [hji27] at H; exact H) | (simp only [hji27] at H ⊢; exact H)
    (try rw [hji27] at A14)
    (try rw [hji27] at A25)
    have hji27_ : (if ((rd_T48 y119 (ji17)).f2) < (ji26) then (ji26) else ((rd_T48 y119 (ji17)).f2)) = ji27 := hji27
    obtain ⟨y122, hy122⟩ : ∃ y_ : List (S48), y_ = (y119.set ((ji17) : Int).toNat (⟨(rd_T48 y119 (ji17)).f0, (rd_T48 y119 (ji17)).f1, ji27, (rd_T48 y119 (ji17)).f3⟩ : S48)) := ⟨_, rfl⟩; replace H : (cells_Make.l0 kj6 l0 l1 a2 y122 y113 l0 (l0.length : Int) (wrap64 (x15_1 + 1))) = some (r1, r2) := by first | (rw [hy122]; with_reducible exact H) | (have H2_ := (Option.bind_some _ _).symm.trans H; rw [hy122]; with_reducible exact H2_) | (have H2_ := (Option.bind_some _ _).symm.trans H; with_reducible exact H2_) | with_reducible exact H | (rw [hy122]; exact H) | exact H
    have Ny122 := zA.mk hy122; clear hy122; have H' := zA.mk H
    clear H; try go_wp2
    replace HO_8 := zA.mk (Kd.zD HO_8.out); replace HO_9 := zA.mk (Kd.zD HO_9.out); replace BK107 := zA.mk (blk_drew BK107.out); replace HB := zA.mk (below_drew1 HB.out); refine start_ (n := 10) (S := fun w' => w'.cell? ⟨gb107, 0, none⟩ = some (.int .i32 ((rd_T50 l0 x15_1).f0)) ∧ w'.cell? ⟨gb107, 1, none⟩ = some (.int .i64 ((rd_T50 l0 x15_1).f1)) ∧ w'.cell? ⟨gb107, 2, none⟩ = some (.int .i64 ((rd_T50 l0 x15_1).f2))) (ds := []) #[false, false, false, false, false, false, false, false, false, false] (by kernel_rfl) rfl rfl ⟨(blk_cell BK107.out 0).trans rfl, (blk_cell BK107.out 1).trans rfl, (blk_cell BK107.out 2).trans rfl⟩ (fun hHeld => ?_); refine with_tabW cells_Make.tab7 cells_Make.bits7 (fun HT_ HW_ => ?_)
    generalize wc.drew = w29 at HO_8 HO_9 BK107 HB hHeld ⊢
    refine aP 0 (some 35) (tf_ 1 10) HT_ ?_
    refine aP 1 (some 36) (tf_ 2 10) HT_ ?_
    refine aP 3 (some 38) (tb_ 11 10) HT_ ?_
    refine take_ (i := 2) (N := some 37) (v := ?_) (a' := ?_) (tf_ 4 10) rfl rfl (take_ofW HT_.out HW_.out (by kernel_rfl)) (fun _ _ _ h => h) (Or.inl ⟨by rfl, ?_⟩) hHeld ?_ ?_
    rotate_left
    ·rintro w' ⟨s0, s1, s2⟩
     go_simp
     with_reducible rfl
    rotate_left
    ·simp only [Act.put, sA_, sB_, sC_, i64_w, i32_w]
     rfl
    refine take_ (i := 4) (N := some 39) (v := ?_) (a' := ?_) (tf_ 5 10) rfl rfl (take_ofW HT_.out HW_.out (by kernel_rfl)) (fun _ _ _ h => h) (Or.inl ⟨by rfl, ?_⟩) hHeld ?_ ?_
    rotate_left
    ·rintro w' ⟨s0, s1, s2⟩
     go_simp
     with_reducible rfl
    rotate_left
    ·simp only [Act.put, sA_, sB_, sC_, i64_w, i32_w]
     rfl
    refine one_ (i := 5) (N := some 40) (tb_ 63 10) rfl rfl (one_of HT_.out (by kernel_rfl)) (by decide) (fun K hK => ?_)
    refine goes_ Try.func36 (by kernel_rfl) rfl #[.int .i32 ((rd_T50 l0 x15_1).f0)] (by rfl) rfl rfl aT ?_
    with_reducible refine (cells_kind.calls ((rd_T50 l0 x15_1).f0) t109 _ A14.out).mono ?_
    rintro e w' ⟨rfl, ⟨nd, rfl⟩⟩
    refine ⟨_, rfl, ?_⟩
    refine hK.out _ _ ⟨(blk_cell BK107.out 0).trans rfl, (blk_cell BK107.out 1).trans rfl, (blk_cell BK107.out 2).trans rfl⟩ (fun hHeld => ?_)
    clear hK K; refine norm_ (a' := ?_) ?_ ?_
    rotate_left
    ·show Act.put _ (some 40) _ = _
     simp only [Act.put, sA_, sB_, sC_, i64_w, i32_w]; rfl
    refine aP 6 (some 41) (tf_ 7 10) HT_ ?_
    refine one_ (i := 7) (N := some 42) (tb_ 255 10) rfl rfl (one_of HT_.out (by kernel_rfl)) (by decide) (fun K hK => ?_)
    refine value_ (w1 := ?_) (v := ?_) (by rfl) rfl ?_ ?_
    rotate_left 2
    ·go_simp
     constructor
     ·rfl
     rfl
    refine hK.out _ _ ⟨(blk_cell (blk_alloc BK107.out _) 0).trans rfl, (blk_cell (blk_alloc BK107.out _) 1).trans rfl, (blk_cell (blk_alloc BK107.out _) 2).trans rfl⟩ (fun hHeld => ?_)
    clear hK K; refine norm_ (a' := ?_) ?_ ?_
    rotate_left
    ·show Act.put _ (some 42) _ = _
     simp only [Act.put, sA_, sB_, sC_, i64_w, i32_w]; rfl
    refine one_ (i := 8) (N := some 43) (tb_ 511 10) rfl rfl (one_of HT_.out (by kernel_rfl)) (by decide) (fun K hK => ?_)
    refine Kd.R_append_step k48 (w0 := w) w.heap.size (by rfl) (.tmp 35) (.tmp 42) 34 48 (.agg #[(.int .i64 0), (.int .i64 0), (.int .i64 0), (.int .u8 0)]) 32 rfl Try.underlying34 info48 rfl (by decide) (by omega) u8 x8_1 (⟨((rd_T50 l0 x15_1).f1), 0, 0, t109⟩ : S48) [.int .i64 ((rd_T50 l0 x15_1).f1), .int .i64 0, .int .i64 0, .int .u8 t109] (fun _ => True) (fun _ => False) rfl rfl ?aP (fun _ hk => hk.elim) ?aF ?aO ?aB ?aS ?aL ?_
    (case aP => exact k48_mkM _ _ _ (⟨((rd_T50 l0 x15_1).f1), 0, 0, t109⟩ : S48))
    (case aB => exact (aL HB))
    (case aF => exact (fun _ _ => trivial))
    (case aO => exact (aR HO_8))
    (case aS => exact (below_size (aL HB)))
    (case aL => have := LMc15.out; omega)
    intro v111 w30 ho hb hg hat
    rw [← Ny110.out] at ho; replace HO_9 := zA.mk (Kd.R_over' (aR HO_9) (Kd.R_typed (aR HO_8)) (by decide) hg)
    replace BK107 := zA.mk (blk_grown (g := gb107) (o := .cells #[.int .i32 ((rd_T50 l0 x15_1).f0), .int .i64 ((rd_T50 l0 x15_1).f1), .int .i64 ((rd_T50 l0 x15_1).f2)] 50 (0, 0)) (aB BK107) hg (Kd.R_ne HO_8.out BK107.out (by decide)))
    replace HB := zA.mk (hb); have HO112 := zA.mk (ho); clear HO_8; clear ho hb hg hat; refine hK.out _ _ ⟨(blk_cell BK107.out 0).trans rfl, (blk_cell BK107.out 1).trans rfl, (blk_cell BK107.out 2).trans rfl⟩ (fun hHeld => ?_)
    clear hK K; refine norm_ (a' := ?_) ?_ ?_
    rotate_left
    ·show Act.put _ (some 43) _ = _
     simp only [Act.put, sA_, sB_, sC_, i64_w, i32_w]; rfl
    refine aP 9 (some 8) (tb_ 1023 10) HT_ ?_
    refine done_ (done_of HT_.out (by kernel_rfl)) ?_
    try go_wp2_with (first | ((with_reducible refine gate_builtin (b := .append) (xs := #[.tmp 44, .tmp 46]) rfl ?_); (try (refine gate_guard (by rfl) ?_; dsimp only)); at_builtin; refine Kd.R_append (Kd.int .i64) (w0 := w) w.heap.size rfl (.tmp 44) (.tmp 46) 35 3 (.int .i64 0) 8 rfl Try.underlying35 info3 rfl (by decide) (by omega) u9 x9_1 x15_1 [.int .i64 x15_1] (fun _ => True) (fun _ => False) rfl rfl ?aP (fun _ hk => hk.elim) ?aF ?aO ?aB ?aS ?aL ?_; (case aP => exact rfl); (case aB => exact (aL HB)); (case aF => exact (fun _ _ => trivial)); (case aO => exact (aR HO_9)); (case aS => exact (below_size (aL HB))); (case aL => have := LMc16.out; omega); intro v114 w31 ho hb hg hat; rw [← Ny113.out] at ho; replace BK107 := zA.mk (blk_grown (g := gb107) (o := .cells #[.int .i32 ((rd_T50 l0 x15_1).f0), .int .i64 ((rd_T50 l0 x15_1).f1), .int .i64 ((rd_T50 l0 x15_1).f2)] 50 (0, 0)) (aB BK107) hg (Kd.R_ne HO_9.out BK107.out (by decide))); replace HO112 := zA.mk (Kd.R_over' (aR HO112) (Kd.R_typed (aR HO_9)) (by decide) hg); replace HB := zA.mk (hb); have HO115 := zA.mk (ho); clear HO_9; clear ho hb hg hat; obtain ⟨Ao32, co32, eo32⟩ := Kd.zL HO112.out; subst eo32; have p116 : 0 ≤ ((ji17) : Int) := aD; have q116 : (ji17) < (y110.length : Int) := aD; obtain ⟨ad116, e116, hx116_0, hx116_1, hx116_2, hx116_3⟩ := at_T48 (Kd.zI HO112.out).2.2 (ji17) p116 q116; cases e116; replace p116 := eq_true p116; replace q116 := eq_true q116; obtain ⟨Ao33, co33, eo33⟩ := Kd.zL HO115.out; subst eo33; have p117 : 0 ≤ ((ji20) : Int) := aD; have q117 : (ji20) < (y113.length : Int) := aD; obtain ⟨ad117, e117, hx117_0⟩ := Kd.at_int (Kd.zI HO115.out).2.2 (ji20) p117 q117; cases e117; replace p117 := eq_true p117; replace q117 := eq_true q117))
    replace HO112 := zA.mk (Kd.zD HO112.out); replace HO115 := zA.mk (Kd.zD HO115.out); replace BK107 := zA.mk (blk_drew BK107.out); replace HB := zA.mk (below_drew1 HB.out); have p118 : 0 ≤ ((ji17) : Int) := aD
    have q118 : (ji17) < (y110.length : Int) := aD
    obtain ⟨ad118, e118, hx118_0, hx118_1, hx118_2, hx118_3⟩ := at_T48 (Kd.zI HO112.out).2.2 (ji17) p118 q118; obtain rfl : ad116 = ad118 := (by injection e118)
    replace p118 := eq_true p118; replace q118 := eq_true q118; have p24 : 0 ≤ ((ji17) : Int) := aD
    have q24 : ((ji17) : Int) < ((y110.length : Int) : Int) := aD
    obtain ⟨go24, co24, eo24, gb24, gl24, cl24, HG24⟩ := Kd.R_form HO112.out (by omega)
    (first | cases eo24 | (injection eo24 with ea_ en_ ec_; (first | subst ea_ | (injection ea_ with ea_; subst ea_)); subst ec_; clear en_))
    have GB24 := zA.mk gb24; have GG24 := zA.mk HG24; clear gb24 gl24 HG24; (first | simp only [add_plain] at hx116_0 | skip)
    (first | simp only [add_plain] at hx116_1 | skip)
    (first | simp only [add_plain] at hx116_2 | skip)
    (first | simp only [add_plain] at hx116_3 | skip)
    (first | simp only [add_plain] at hx118_0 | skip)
    (first | simp only [add_plain] at hx118_1 | skip)
    (first | simp only [add_plain] at hx118_2 | skip)
    (first | simp only [add_plain] at hx118_3 | skip)
    obtain ⟨ce24, hcl24, hM24, hcc24, hfr24⟩ := Kd.R_elem HO112.out z48 ((ji17) : Int) p24 q24; obtain rfl := k48_openM hM24
    have hx24_0 : World.cell? _ ⟨go24, ((ji17) : Int).toNat * 4, none⟩ = some (.int .i64 ((rd_T48 y110 (ji17)).f0)) := hcc24 0 _ rfl
    have hx24_1 : World.cell? _ ⟨go24, ((ji17) : Int).toNat * 4 + 1, none⟩ = some (.int .i64 ((rd_T48 y110 (ji17)).f1)) := hcc24 1 _ rfl
    have hx24_2 : World.cell? _ ⟨go24, ((ji17) : Int).toNat * 4 + 2, none⟩ = some (.int .i64 ((rd_T48 y110 (ji17)).f2)) := hcc24 2 _ rfl
    have hx24_3 : World.cell? _ ⟨go24, ((ji17) : Int).toNat * 4 + 3, none⟩ = some (.int .u8 ((rd_T48 y110 (ji17)).f3)) := hcc24 3 _ rfl
    have hf24_0 : World.frozen? _ ⟨go24, ((ji17) : Int).toNat * 4, none⟩ = false := hfr24 0
    have hf24_1 : World.frozen? _ ⟨go24, ((ji17) : Int).toNat * 4 + 1, none⟩ = false := hfr24 1
    have hf24_2 : World.frozen? _ ⟨go24, ((ji17) : Int).toNat * 4 + 2, none⟩ = false := hfr24 2
    have hf24_3 : World.frozen? _ ⟨go24, ((ji17) : Int).toNat * 4 + 3, none⟩ = false := hfr24 3
    (try clear hcl24); (try clear hcc24); (try clear hfr24); (try clear hM24)
    replace p24 := eq_true p24; replace q24 := eq_true q24; obtain ⟨ce35, hcl35, hM35, hcc35, hfr35⟩ := Kd.R_elem HO112.out z48 ((ji17) : Int) (aD) (by have h_ : ((ji17) : Int) < ((y110.length : Int) : Int) := aD; first | exact h_ | (have e_ := (Kd.zI HO112.out).1; omega) | simpa using h_)
    obtain rfl := k48_openM hM35
    have HP35 := (Kd.R_seg HO112.out ((ji17) : Int) (aD) (by have h_ : ((ji17) : Int) < ((y110.length : Int) : Int) := aD; first | exact h_ | (have e_ := (Kd.zI HO112.out).1; omega) | simpa using h_) (seg := [.int .i64 (wrap64 (((rd_T48 y110 (ji17)).f1) + ((rd_T50 l0 x15_1).f2)))]) (j := 1) hcl35 hcc35 (show 2 ≤ 4 from by decide) (x' := (⟨(rd_T48 y110 (ji17)).f0, wrap64 (((rd_T48 y110 (ji17)).f1) + ((rd_T50 l0 x15_1).f2)), (rd_T48 y110 (ji17)).f2, (rd_T48 y110 (ji17)).f3⟩ : S48)) (k48_mkM _ _ _ (⟨(rd_T48 y110 (ji17)).f0, wrap64 (((rd_T48 y110 (ji17)).f1) + ((rd_T50 l0 x15_1).f2)), (rd_T48 y110 (ji17)).f2, (rd_T48 y110 (ji17)).f3⟩ : S48) ) (fun _ hk => hk)).1
    rw [← Ny119.out] at HP35; have HQ35 := zA.mk HP35; clear hcl35 hcc35 hfr35 hM35 HP35; refine start_ (n := 10) (S := fun w' => w'.cell? ⟨gb107, 0, none⟩ = some (.int .i32 ((rd_T50 l0 x15_1).f0)) ∧ w'.cell? ⟨gb107, 1, none⟩ = some (.int .i64 ((rd_T50 l0 x15_1).f1)) ∧ w'.cell? ⟨gb107, 2, none⟩ = some (.int .i64 ((rd_T50 l0 x15_1).f2)) ∧ w'.cell? ⟨go24, (((ji17)).toNat * 4), none⟩ = some (.int .i64 ((rd_T48 y110 (ji17)).f0)) ∧ w'.cell? ⟨go24, (((ji17)).toNat * 4) + 1, none⟩ = some (.int .i64 ((rd_T48 y110 (ji17)).f1)) ∧ w'.cell? ⟨go24, (((ji17)).toNat * 4) + 2, none⟩ = some (.int .i64 ((rd_T48 y110 (ji17)).f2)) ∧ w'.cell? ⟨go24, (((ji17)).toNat * 4) + 3, none⟩ = some (.int .u8 ((rd_T48 y110 (ji17)).f3))) (ds := [9]) #[false, false, false, false, false, false, false, false, false, false] (by kernel_rfl) rfl rfl ⟨(blk_cell BK107.out 0).trans rfl, (blk_cell BK107.out 1).trans rfl, (blk_cell BK107.out 2).trans rfl, hx118_0, hx118_1, hx118_2, hx118_3⟩ (fun hHeld => ?_); refine with_tabW cells_Make.tab12 cells_Make.bits12 (fun HT_ HW_ => ?_)
    generalize w31.drew = w34 at HO112 HO115 BK107 HB GG24 HQ35 hf24_0 hf24_1 hf24_2 hf24_3 hx116_0 hx116_1 hx116_2 hx116_3 hx118_0 hx118_1 hx118_2 hx118_3 hx24_0 hx24_1 hx24_2 hx24_3 hHeld ⊢
    refine aP 0 (some 64) (tf_ 1 10) HT_ ?_
    refine aP 1 (some 65) (tf_ 2 10) HT_ ?_
    refine aP 2 (some 66) (tf_ 3 10) HT_ ?_
    refine aP 4 (some 68) (tb_ 23 10) HT_ ?_
    refine take_ (i := 3) (N := some 67) (v := ?_) (a' := ?_) (tf_ 5 10) rfl rfl (take_ofW HT_.out HW_.out (by kernel_rfl)) (fun _ _ _ h => h) (Or.inl ⟨by rfl, ?_⟩) hHeld ?_ ?_
    rotate_left
    ·rintro w' ⟨s0, s1, s2, s3, s4, s5, s6⟩
     go_simp
     with_reducible rfl
    rotate_left
    ·simp only [Act.put, sA_, sB_, sC_, i64_w, i32_w]
     rfl
    refine take_ (i := 5) (N := some 69) (v := ?_) (a' := ?_) (tf_ 6 10) rfl rfl (take_ofW HT_.out HW_.out (by kernel_rfl)) (fun _ _ _ h => h) (Or.inl ⟨by rfl, ?_⟩) hHeld ?_ ?_
    rotate_left
    ·rintro w' ⟨s0, s1, s2, s3, s4, s5, s6⟩
     go_simp
     with_reducible rfl
    rotate_left
    ·simp only [Act.put, sA_, sB_, sC_, i64_w, i32_w]
     rfl
    refine aP 6 (some 70) (tf_ 7 10) HT_ ?_
    refine aP 7 (some 71) (tf_ 8 10) HT_ ?_
    refine aP 8 (some 72) (tf_ 9 10) HT_ ?_
    refine last_ (i := 9) (N := none) (tb_ 1023 10) rfl rfl (one_of HT_.out (by kernel_rfl)) (by decide) (fun K hK => ?_)
    refine skip_ (w1 := ?_) (by rfl) rfl ?_ ?_
    rotate_left
    ·go_simp
     rfl
    refine hK.out _ _ ?_
    clear hK K; refine done_ (done_of HT_.out (by kernel_rfl)) ?_
    try go_wp2
    have n0_ : zA (Kd.R k48 48 (w34.setCell ⟨go24, ((ji17) : Int).toNat * 4 + 1, none⟩ (.int .i64 (wrap64 (((rd_T48 y110 (ji17)).f1) + ((rd_T50 l0 x15_1).f2))))) w.heap.size (fun _ => True) (.slice (some ⟨go24, 0, none⟩) y110.length co32) y119) := ⟨aR HQ35⟩
    have n1_ : zA (Kd.R (Kd.int .i64) 3 (w34.setCell ⟨go24, ((ji17) : Int).toNat * 4 + 1, none⟩ (.int .i64 (wrap64 (((rd_T48 y110 (ji17)).f1) + ((rd_T50 l0 x15_1).f2))))) w.heap.size (fun _ => True) (.slice (some ad117) y113.length co33) y113) := ⟨by (with_reducible repeat (first | apply Kd.zB | apply Kd.zC | apply Kd.zD)); exact Kd.zN (Kd.zK (p := ⟨go24, ((ji17) : Int).toNat * 4 + 1, none⟩) (Kd.zO HO115.out GG24.out (by decide)) (fun _ hk => hk.2) (.int .i64 (wrap64 (((rd_T48 y110 (ji17)).f1) + ((rd_T50 l0 x15_1).f2))))) (fun _ hk => trivial)⟩
    have n2_ : zA ((w34.setCell ⟨go24, ((ji17) : Int).toNat * 4 + 1, none⟩ (.int .i64 (wrap64 (((rd_T48 y110 (ji17)).f1) + ((rd_T50 l0 x15_1).f2))))).heap[gb107]? = some (.cells #[.int .i32 ((rd_T50 l0 x15_1).f0), .int .i64 ((rd_T50 l0 x15_1).f1), .int .i64 ((rd_T50 l0 x15_1).f2)] 50 (0, 0))) := ⟨by (with_reducible repeat (first | refine blk_drewN ?_ _ | refine blk_drew ?_ | refine blk_alloc ?_ _)); refine blk_far ?_ (by have h_ := Kd.R_ne HO112.out BK107.out (by decide); intro e_; exact h_ (by rw [e_]; rfl)) _; (with_reducible repeat (first | refine blk_drewN ?_ _ | refine blk_drew ?_ | refine blk_alloc ?_ _)); exact BK107.out⟩
    have n3_ : zA (Below w.heap.size w (w34.setCell ⟨go24, ((ji17) : Int).toNat * 4 + 1, none⟩ (.int .i64 (wrap64 (((rd_T48 y110 (ji17)).f1) + ((rd_T50 l0 x15_1).f2)))))) := ⟨aL HB⟩
    (try clear HO112)
    (try clear HO115)
    (try clear BK107)
    (try clear HB)
    generalize (w34.setCell ⟨go24, ((ji17) : Int).toNat * 4 + 1, none⟩ (.int .i64 (wrap64 (((rd_T48 y110 (ji17)).f1) + ((rd_T50 l0 x15_1).f2))))) = w36 at n0_ n1_ n2_ n3_ ⊢
    have HO112 := n0_; have HO115 := n1_; have BK107 := n2_; have HB := n3_; clear n0_ n1_ n2_ n3_; replace HO112 := zA.mk (Kd.zD HO112.out); replace HO115 := zA.mk (Kd.zD HO115.out); replace BK107 := zA.mk (blk_drew BK107.out); replace HB := zA.mk (below_drew1 HB.out); have p120 : 0 ≤ ((ji17) : Int) := aD
    have q120 : (ji17) < (y119.length : Int) := (by have h_ : ((ji17) : Int) < ((y110.length : Int) : Int) := aD; first | (have e_ := (Kd.zI HO112.out).1; omega) | simpa only [Ny119.out, List.length_set] using h_)
    have ql120 : (((ji17) : Int) < ((y110.length : Int) : Int)) = True := eq_true (aD)
    obtain ⟨ad120, e120, hx120_0, hx120_1, hx120_2, hx120_3⟩ := at_T48 (Kd.zI HO112.out).2.2 (ji17) p120 q120; obtain rfl : (⟨go24, 0, none⟩ : Addr) = ad120 := (by injection e120)
    (first | simp only [add_plain] at hx120_0 | simp only [add_at] at hx120_0 | simp only [Addr.add, Nat.zero_add] at hx120_0 | skip)
    (first | simp only [add_plain] at hx120_1 | simp only [add_at] at hx120_1 | simp only [Addr.add, Nat.zero_add] at hx120_1 | skip)
    (first | simp only [add_plain] at hx120_2 | simp only [add_at] at hx120_2 | simp only [Addr.add, Nat.zero_add] at hx120_2 | skip)
    (first | simp only [add_plain] at hx120_3 | simp only [add_at] at hx120_3 | simp only [Addr.add, Nat.zero_add] at hx120_3 | skip)
    replace p120 := eq_true p120; replace q120 := eq_true q120; refine start_ (n := 14) (S := fun w' => w'.cell? ⟨gb107, 0, none⟩ = some (.int .i32 ((rd_T50 l0 x15_1).f0)) ∧ w'.cell? ⟨gb107, 1, none⟩ = some (.int .i64 ((rd_T50 l0 x15_1).f1)) ∧ w'.cell? ⟨gb107, 2, none⟩ = some (.int .i64 ((rd_T50 l0 x15_1).f2)) ∧ w'.cell? ⟨go24, ((ji17)).toNat * 4, none⟩ = some (.int .i64 ((rd_T48 y119 (ji17)).f0)) ∧ w'.cell? ⟨go24, ((ji17)).toNat * 4 + 1, none⟩ = some (.int .i64 ((rd_T48 y119 (ji17)).f1)) ∧ w'.cell? ⟨go24, ((ji17)).toNat * 4 + 2, none⟩ = some (.int .i64 ((rd_T48 y119 (ji17)).f2)) ∧ w'.cell? ⟨go24, ((ji17)).toNat * 4 + 3, none⟩ = some (.int .u8 ((rd_T48 y119 (ji17)).f3))) (ds := [13]) #[false, false, false, false, false, false, false, false, false, false, false, false, false, false] (by kernel_rfl) rfl rfl ⟨(blk_cell BK107.out 0).trans rfl, (blk_cell BK107.out 1).trans rfl, (blk_cell BK107.out 2).trans rfl, hx120_0, hx120_1, hx120_2, hx120_3⟩ (fun hHeld => ?_); refine with_tabW cells_Make.tab13 cells_Make.bits13 (fun HT_ HW_ => ?_)
    generalize w36.drew = w37 at HO112 HO115 BK107 HB HQ35 hx120_0 hx120_1 hx120_2 hx120_3 hHeld ⊢
    refine aP 0 (some 73) (tf_ 1 14) HT_ ?_
    refine aP 1 (some 74) (tf_ 2 14) HT_ ?_
    refine aP 2 (some 75) (tf_ 3 14) HT_ ?_
    refine aP 3 (some 76) (tf_ 4 14) HT_ ?_
    refine aP 5 (some 78) (tb_ 47 14) HT_ ?_
    refine aP 6 (some 79) (tb_ 111 14) HT_ ?_
    refine take_ (i := 4) (N := some 77) (v := ?_) (a' := ?_) (tf_ 7 14) rfl rfl (take_ofW HT_.out HW_.out (by kernel_rfl)) (fun _ _ _ h => h) (Or.inl ⟨by rfl, ?_⟩) hHeld ?_ ?_
    rotate_left
    ·rintro w' ⟨s0, s1, s2, s3, s4, s5, s6⟩
     go_simp
     with_reducible rfl
    rotate_left
    ·simp only [Act.put, sA_, sB_, sC_, i64_w, i32_w]
     rfl
    refine take_ (i := 7) (N := some 80) (v := ?_) (a' := ?_) (tf_ 8 14) rfl rfl (take_ofW HT_.out HW_.out (by kernel_rfl)) (fun _ _ _ h => h) (Or.inl ⟨by rfl, ?_⟩) hHeld ?_ ?_
    rotate_left
    ·rintro w' ⟨s0, s1, s2, s3, s4, s5, s6⟩
     go_simp
     with_reducible rfl
    rotate_left
    ·simp only [Act.put, sA_, sB_, sC_, i64_w, i32_w]
     rfl
    refine one_ (i := 8) (N := some 81) (tb_ 511 14) rfl rfl (one_of HT_.out (by kernel_rfl)) (by decide) (fun K hK => ?_)
    refine goes_ Try.func22 (by kernel_rfl) rfl #[vt2_, .int .i32 ((rd_T50 l0 x15_1).f0)] (by rfl) rfl rfl aT ?_
    with_reducible refine (prop_Table_Of.calls vt2_ a2 ((rd_T50 l0 x15_1).f0) t121 _ ?side1 A25.out).mono ?_
    (case side1 => exact TabAt.below HTa2.out (aL HB))
    rintro e w' ⟨rfl, ⟨nd, rfl⟩⟩
    refine ⟨_, rfl, ?_⟩
    have p28 : 0 ≤ ((ji17) : Int) := aD
    have q28 : ((ji17) : Int) < ((y110.length : Int) : Int) := aD
    obtain ⟨ce28, hcl28, hM28, hcc28, hfr28⟩ := Kd.R_elem HO112.out z48 ((ji17) : Int) p28 q28; obtain rfl := k48_openM hM28
    have hx28_0 : World.cell? _ ⟨go24, ((ji17) : Int).toNat * 4, none⟩ = some (.int .i64 ((rd_T48 y119 (ji17)).f0)) := hcc28 0 _ rfl
    have hx28_1 : World.cell? _ ⟨go24, ((ji17) : Int).toNat * 4 + 1, none⟩ = some (.int .i64 ((rd_T48 y119 (ji17)).f1)) := hcc28 1 _ rfl
    have hx28_2 : World.cell? _ ⟨go24, ((ji17) : Int).toNat * 4 + 2, none⟩ = some (.int .i64 ((rd_T48 y119 (ji17)).f2)) := hcc28 2 _ rfl
    have hx28_3 : World.cell? _ ⟨go24, ((ji17) : Int).toNat * 4 + 3, none⟩ = some (.int .u8 ((rd_T48 y119 (ji17)).f3)) := hcc28 3 _ rfl
    have hf28_0 : World.frozen? _ ⟨go24, ((ji17) : Int).toNat * 4, none⟩ = false := hfr28 0
    have hf28_1 : World.frozen? _ ⟨go24, ((ji17) : Int).toNat * 4 + 1, none⟩ = false := hfr28 1
    have hf28_2 : World.frozen? _ ⟨go24, ((ji17) : Int).toNat * 4 + 2, none⟩ = false := hfr28 2
    have hf28_3 : World.frozen? _ ⟨go24, ((ji17) : Int).toNat * 4 + 3, none⟩ = false := hfr28 3
    (try clear hcl28); (try clear hcc28); (try clear hfr28); (try clear hM28)
    replace p28 := eq_true p28; replace q28 := eq_true q28; obtain ⟨cx38, gx38⟩ := Kd.R_typed HO112.out _ rfl; have GG38_ := zA.mk gx38; clear gx38; obtain ⟨ce38, hcl38, hM38, hcc38, hfr38⟩ := Kd.R_elem HO112.out z48 ((ji17) : Int) (aD) (by have h_ : ((ji17) : Int) < ((y110.length : Int) : Int) := aD; first | exact h_ | (have e_ := (Kd.zI HO112.out).1; omega) | simpa using h_)
    obtain rfl := k48_openM hM38
    have HP38 := (Kd.R_seg HO112.out ((ji17) : Int) (aD) (by have h_ : ((ji17) : Int) < ((y110.length : Int) : Int) := aD; first | exact h_ | (have e_ := (Kd.zI HO112.out).1; omega) | simpa using h_) (seg := [.int .i64 ji27]) (j := 2) hcl38 hcc38 (show 3 ≤ 4 from by decide) (x' := (⟨(rd_T48 y119 (ji17)).f0, (rd_T48 y119 (ji17)).f1, ji27, (rd_T48 y119 (ji17)).f3⟩ : S48)) (k48_mkM _ _ _ (⟨(rd_T48 y119 (ji17)).f0, (rd_T48 y119 (ji17)).f1, ji27, (rd_T48 y119 (ji17)).f3⟩ : S48) ) (fun _ hk => hk)).1
    rw [← Ny122.out] at HP38; have HQ38 := zA.mk HP38; clear hcl38 hcc38 hfr38 hM38 HP38; refine hK.out _ _ ⟨(blk_cell BK107.out 0).trans rfl, (blk_cell BK107.out 1).trans rfl, (blk_cell BK107.out 2).trans rfl, hHeld.2.2.2.1, hHeld.2.2.2.2.1, hHeld.2.2.2.2.2.1, hHeld.2.2.2.2.2.2⟩ (fun hHeld => ?_)
    clear hK K; refine norm_ (a' := ?_) ?_ ?_
    rotate_left
    ·show Act.put _ (some 81) _ = _
     simp only [Act.put, sA_, sB_, sC_, i64_w, i32_w]; rfl
    refine aP 9 (some 82) (tf_ 10 14) HT_ ?_
    refine aP 10 (some 83) (tf_ 11 14) HT_ ?_
    refine aP 11 (some 84) (tf_ 12 14) HT_ ?_
    refine aP 12 (some 85) (tf_ 13 14) HT_ ?_
    refine last_ (i := 13) (N := none) (tb_ 16383 14) rfl rfl (one_of HT_.out (by kernel_rfl)) (by decide) (fun K hK => ?_)
    refine skip_ (w1 := ?_) (by rfl) rfl ?_ ?_
    rotate_left
    ·go_simp
     rfl
    refine hK.out _ _ ?_
    clear hK K; refine done_ (done_of HT_.out (by kernel_rfl)) ?_
    try go_wp2
    go_roundg kj6
    case measure => have := HK1.out; have := HJ6.out; omega
    case rel => exact ⟨(y122), (y113), (wrap64 (x15_1 + 1)), aZ, H', ⟨by have := HK1.out; have := HJ6.out; omega⟩, ⟨aR HQ38⟩, ⟨by (with_reducible repeat (first | apply Kd.zB | apply Kd.zC | apply Kd.zD)); exact Kd.zN (Kd.zK (p := ⟨go24, ((ji17) : Int).toNat * 4 + 2, none⟩) (Kd.zO HO115.out GG38_.out (by decide)) (fun _ hk => hk.2) (.int .i64 ji27)) (fun _ hk => trivial)⟩, ⟨aL HB⟩⟩
   rw [if_neg c23] at H; have c23b0 : ((rd y113 (ji20)) == x15_1) = false := beq_eq_false_iff_ne.mpr c23
   have c23b1 : ((rd y113 (ji20)) != x15_1) = true := bne_iff_ne.mpr c23
   obtain ⟨y123, hy123⟩ : ∃ y_ : List (S48), y_ = (y110.set ((ji17) : Int).toNat (⟨(rd_T48 y110 (ji17)).f0, (rd_T48 y110 (ji17)).f1, (rd_T48 y110 (ji17)).f2, 0⟩ : S48)) := ⟨_, rfl⟩; replace H : ((some (y123.set ((ji17) : Int).toNat (⟨(rd_T48 y123 (ji17)).f0, wrap64 (((rd_T48 y123 (ji17)).f1) + ((rd_T50 l0 x15_1).f2)), (rd_T48 y123 (ji17)).f2, (rd_T48 y123 (ji17)).f3⟩ : S48) : List (S48))).bind fun y125 => ((prop_Table_Of.f a2 ((rd_T50 l0 x15_1).f0)).bind fun t127 => (cells_Make.l0 kj6 l0 l1 a2 (y125.set ((ji17) : Int).toNat (⟨(rd_T48 y125 (ji17)).f0, (rd_T48 y125 (ji17)).f1, mx ((rd_T48 y125 (ji17)).f2) (mn t127 2), (rd_T48 y125 (ji17)).f3⟩ : S48)) y113 l0 (l0.length : Int) (wrap64 (x15_1 + 1))))) = some (r1, r2) := by first | (rw [hy123]; with_reducible exact H) | (have H2_ := (Option.bind_some _ _).symm.trans H; rw [hy123]; with_reducible exact H2_) | (have H2_ := (Option.bind_some _ _).symm.trans H; with_reducible exact H2_) | with_reducible exact H | (rw [hy123]; exact H) | exact H
   have Ny123 := zA.mk hy123; clear hy123; obtain ⟨y125, hy125⟩ : ∃ y_ : List (S48), y_ = (y123.set ((ji17) : Int).toNat (⟨(rd_T48 y123 (ji17)).f0, wrap64 (((rd_T48 y123 (ji17)).f1) + ((rd_T50 l0 x15_1).f2)), (rd_T48 y123 (ji17)).f2, (rd_T48 y123 (ji17)).f3⟩ : S48)) := ⟨_, rfl⟩; replace H : ((prop_Table_Of.f a2 ((rd_T50 l0 x15_1).f0)).bind fun t127 => (cells_Make.l0 kj6 l0 l1 a2 (y125.set ((ji17) : Int).toNat (⟨(rd_T48 y125 (ji17)).f0, (rd_T48 y125 (ji17)).f1, mx ((rd_T48 y125 (ji17)).f2) (mn t127 2), (rd_T48 y125 (ji17)).f3⟩ : S48)) y113 l0 (l0.length : Int) (wrap64 (x15_1 + 1)))) = some (r1, r2) := by first | (rw [hy125]; with_reducible exact H) | (have H2_ := (Option.bind_some _ _).symm.trans H; rw [hy125]; with_reducible exact H2_) | (have H2_ := (Option.bind_some _ _).symm.trans H; with_reducible exact H2_) | with_reducible exact H | (rw [hy125]; exact H) | exact H
   have Ny125 := zA.mk hy125; clear hy125; replace H := Option.bind_eq_some_iff.mp H; obtain ⟨t127, A410, H⟩ := H; replace H : (cells_Make.l0 kj6 l0 l1 a2 (y125.set ((ji17) : Int).toNat (⟨(rd_T48 y125 (ji17)).f0, (rd_T48 y125 (ji17)).f1, mx ((rd_T48 y125 (ji17)).f2) (mn t127 2), (rd_T48 y125 (ji17)).f3⟩ : S48)) y113 l0 (l0.length : Int) (wrap64 (x15_1 + 1))) = some (r1, r2) := H; have A41 := zA.mk A410; clear A410; obtain ⟨ji42, hji42⟩ : ∃ j_ : Int, (mn t127 2) = j_ := ⟨_, rfl⟩; replace H : (cells_Make.l0 kj6 l0 l1 a2 (y125.set ((ji17) : Int).toNat (⟨(rd_T48 y125 (ji17)).f0, (rd_T48 y125 (ji17)).f1, mx ((rd_T48 y125 (ji17)).f2) (ji42), (rd_T48 y125 (ji17)).f3⟩ : S48)) y113 l0 (l0.length : Int) (wrap64 (x15_1 + 1))) = some (r1, r2) := by first | (rw [hji42] at H; exact H) | (simp only [hji42] at H ⊢; exact H)
   (try rw [hji42] at A14)
   (try rw [hji42] at A41)
   (try (have hji42h : ji42 ≤ 2 := by (rw [← hji42]; unfold mn; (repeat' split) <;> omega)))
   (try (have hji42g : ji42 ≤ 64 := by omega))
   have hji42_ : (if 2 < t127 then 2 else t127) = ji42 := hji42
   obtain ⟨ji43, hji43⟩ : ∃ j_ : Int, (mx ((rd_T48 y125 (ji17)).f2) (ji42)) = j_ := ⟨_, rfl⟩; replace H : (cells_Make.l0 kj6 l0 l1 a2 (y125.set ((ji17) : Int).toNat (⟨(rd_T48 y125 (ji17)).f0, (rd_T48 y125 (ji17)).f1, ji43, (rd_T48 y125 (ji17)).f3⟩ : S48)) y113 l0 (l0.length : Int) (wrap64 (x15_1 + 1))) = some (r1, r2) := by first | (rw [hji43] at H; exact H) | (simp only [hji43] at H ⊢; exact H)
   (try rw [hji43] at A14)
   (try rw [hji43] at A41)
   have hji43_ : (if ((rd_T48 y125 (ji17)).f2) < (ji42) then (ji42) else ((rd_T48 y125 (ji17)).f2)) = ji43 := hji43
   obtain ⟨y128, hy128⟩ : ∃ y_ : List (S48), y_ = (y125.set ((ji17) : Int).toNat (⟨(rd_T48 y125 (ji17)).f0, (rd_T48 y125 (ji17)).f1, ji43, (rd_T48 y125 (ji17)).f3⟩ : S48)) := ⟨_, rfl⟩; replace H : (cells_Make.l0 kj6 l0 l1 a2 y128 y113 l0 (l0.length : Int) (wrap64 (x15_1 + 1))) = some (r1, r2) := by first | (rw [hy128]; with_reducible exact H) | (have H2_ := (Option.bind_some _ _).symm.trans H; rw [hy128]; with_reducible exact H2_) | (have H2_ := (Option.bind_some _ _).symm.trans H; with_reducible exact H2_) | with_reducible exact H | (rw [hy128]; exact H) | exact H
   have Ny128 := zA.mk hy128; clear hy128; have H' := zA.mk H
   clear H; try go_wp2
   replace HO_8 := zA.mk (Kd.zD HO_8.out); replace HO_9 := zA.mk (Kd.zD HO_9.out); replace BK107 := zA.mk (blk_drew BK107.out); replace HB := zA.mk (below_drew1 HB.out); refine start_ (n := 10) (S := fun w' => w'.cell? ⟨gb107, 0, none⟩ = some (.int .i32 ((rd_T50 l0 x15_1).f0)) ∧ w'.cell? ⟨gb107, 1, none⟩ = some (.int .i64 ((rd_T50 l0 x15_1).f1)) ∧ w'.cell? ⟨gb107, 2, none⟩ = some (.int .i64 ((rd_T50 l0 x15_1).f2))) (ds := []) #[false, false, false, false, false, false, false, false, false, false] (by kernel_rfl) rfl rfl ⟨(blk_cell BK107.out 0).trans rfl, (blk_cell BK107.out 1).trans rfl, (blk_cell BK107.out 2).trans rfl⟩ (fun hHeld => ?_); refine with_tabW cells_Make.tab7 cells_Make.bits7 (fun HT_ HW_ => ?_)
   generalize wc.drew = w45 at HO_8 HO_9 BK107 HB hHeld ⊢
   refine aP 0 (some 35) (tf_ 1 10) HT_ ?_
   refine aP 1 (some 36) (tf_ 2 10) HT_ ?_
   refine aP 3 (some 38) (tb_ 11 10) HT_ ?_
   refine take_ (i := 2) (N := some 37) (v := ?_) (a' := ?_) (tf_ 4 10) rfl rfl (take_ofW HT_.out HW_.out (by kernel_rfl)) (fun _ _ _ h => h) (Or.inl ⟨by rfl, ?_⟩) hHeld ?_ ?_
   rotate_left
   ·rintro w' ⟨s0, s1, s2⟩
    go_simp
    with_reducible rfl
   rotate_left
   ·simp only [Act.put, sA_, sB_, sC_, i64_w, i32_w]
    rfl
   refine take_ (i := 4) (N := some 39) (v := ?_) (a' := ?_) (tf_ 5 10) rfl rfl (take_ofW HT_.out HW_.out (by kernel_rfl)) (fun _ _ _ h => h) (Or.inl ⟨by rfl, ?_⟩) hHeld ?_ ?_
   rotate_left
   ·rintro w' ⟨s0, s1, s2⟩
    go_simp
    with_reducible rfl
   rotate_left
   ·simp only [Act.put, sA_, sB_, sC_, i64_w, i32_w]
    rfl
   refine one_ (i := 5) (N := some 40) (tb_ 63 10) rfl rfl (one_of HT_.out (by kernel_rfl)) (by decide) (fun K hK => ?_)
   refine goes_ Try.func36 (by kernel_rfl) rfl #[.int .i32 ((rd_T50 l0 x15_1).f0)] (by rfl) rfl rfl aT ?_
   with_reducible refine (cells_kind.calls ((rd_T50 l0 x15_1).f0) t109 _ A14.out).mono ?_
   rintro e w' ⟨rfl, ⟨nd, rfl⟩⟩
   refine ⟨_, rfl, ?_⟩
   refine hK.out _ _ ⟨(blk_cell BK107.out 0).trans rfl, (blk_cell BK107.out 1).trans rfl, (blk_cell BK107.out 2).trans rfl⟩ (fun hHeld => ?_)
   clear hK K; refine norm_ (a' := ?_) ?_ ?_
   rotate_left
   ·show Act.put _ (some 40) _ = _
    simp only [Act.put, sA_, sB_, sC_, i64_w, i32_w]; rfl
   refine aP 6 (some 41) (tf_ 7 10) HT_ ?_
   refine one_ (i := 7) (N := some 42) (tb_ 255 10) rfl rfl (one_of HT_.out (by kernel_rfl)) (by decide) (fun K hK => ?_)
   refine value_ (w1 := ?_) (v := ?_) (by rfl) rfl ?_ ?_
   rotate_left 2
   ·go_simp
    constructor
    ·rfl
    rfl
   refine hK.out _ _ ⟨(blk_cell (blk_alloc BK107.out _) 0).trans rfl, (blk_cell (blk_alloc BK107.out _) 1).trans rfl, (blk_cell (blk_alloc BK107.out _) 2).trans rfl⟩ (fun hHeld => ?_)
   clear hK K; refine norm_ (a' := ?_) ?_ ?_
   rotate_left
   ·show Act.put _ (some 42) _ = _
    simp only [Act.put, sA_, sB_, sC_, i64_w, i32_w]; rfl
   refine one_ (i := 8) (N := some 43) (tb_ 511 10) rfl rfl (one_of HT_.out (by kernel_rfl)) (by decide) (fun K hK => ?_)
   refine Kd.R_append_step k48 (w0 := w) w.heap.size (by rfl) (.tmp 35) (.tmp 42) 34 48 (.agg #[(.int .i64 0), (.int .i64 0), (.int .i64 0), (.int .u8 0)]) 32 rfl Try.underlying34 info48 rfl (by decide) (by omega) u8 x8_1 (⟨((rd_T50 l0 x15_1).f1), 0, 0, t109⟩ : S48) [.int .i64 ((rd_T50 l0 x15_1).f1), .int .i64 0, .int .i64 0, .int .u8 t109] (fun _ => True) (fun _ => False) rfl rfl ?aP (fun _ hk => hk.elim) ?aF ?aO ?aB ?aS ?aL ?_
   (case aP => exact k48_mkM _ _ _ (⟨((rd_T50 l0 x15_1).f1), 0, 0, t109⟩ : S48))
   (case aB => exact (aL HB))
   (case aF => exact (fun _ _ => trivial))
   (case aO => exact (aR HO_8))
   (case aS => exact (below_size (aL HB)))
   (case aL => have := LMc15.out; omega)
   intro v111 w46 ho hb hg hat
   rw [← Ny110.out] at ho; replace HO_9 := zA.mk (Kd.R_over' (aR HO_9) (Kd.R_typed (aR HO_8)) (by decide) hg)
   replace BK107 := zA.mk (blk_grown (g := gb107) (o := .cells #[.int .i32 ((rd_T50 l0 x15_1).f0), .int .i64 ((rd_T50 l0 x15_1).f1), .int .i64 ((rd_T50 l0 x15_1).f2)] 50 (0, 0)) (aB BK107) hg (Kd.R_ne HO_8.out BK107.out (by decide)))
   replace HB := zA.mk (hb); have HO112 := zA.mk (ho); clear HO_8; clear ho hb hg hat; refine hK.out _ _ ⟨(blk_cell BK107.out 0).trans rfl, (blk_cell BK107.out 1).trans rfl, (blk_cell BK107.out 2).trans rfl⟩ (fun hHeld => ?_)
   clear hK K; refine norm_ (a' := ?_) ?_ ?_
   rotate_left
   ·show Act.put _ (some 43) _ = _
    simp only [Act.put, sA_, sB_, sC_, i64_w, i32_w]; rfl
   refine aP 9 (some 8) (tb_ 1023 10) HT_ ?_
   refine done_ (done_of HT_.out (by kernel_rfl)) ?_
   try go_wp2_with (first | ((with_reducible refine gate_builtin (b := .append) (xs := #[.tmp 44, .tmp 46]) rfl ?_); (try (refine gate_guard (by rfl) ?_; dsimp only)); at_builtin; refine Kd.R_append (Kd.int .i64) (w0 := w) w.heap.size rfl (.tmp 44) (.tmp 46) 35 3 (.int .i64 0) 8 rfl Try.underlying35 info3 rfl (by decide) (by omega) u9 x9_1 x15_1 [.int .i64 x15_1] (fun _ => True) (fun _ => False) rfl rfl ?aP (fun _ hk => hk.elim) ?aF ?aO ?aB ?aS ?aL ?_; (case aP => exact rfl); (case aB => exact (aL HB)); (case aF => exact (fun _ _ => trivial)); (case aO => exact (aR HO_9)); (case aS => exact (below_size (aL HB))); (case aL => have := LMc16.out; omega); intro v114 w47 ho hb hg hat; rw [← Ny113.out] at ho; replace BK107 := zA.mk (blk_grown (g := gb107) (o := .cells #[.int .i32 ((rd_T50 l0 x15_1).f0), .int .i64 ((rd_T50 l0 x15_1).f1), .int .i64 ((rd_T50 l0 x15_1).f2)] 50 (0, 0)) (aB BK107) hg (Kd.R_ne HO_9.out BK107.out (by decide))); replace HO112 := zA.mk (Kd.R_over' (aR HO112) (Kd.R_typed (aR HO_9)) (by decide) hg); replace HB := zA.mk (hb); have HO115 := zA.mk (ho); clear HO_9; clear ho hb hg hat; obtain ⟨Ao48, co48, eo48⟩ := Kd.zL HO112.out; subst eo48; have p116 : 0 ≤ ((ji17) : Int) := aD; have q116 : (ji17) < (y110.length : Int) := aD; obtain ⟨ad116, e116, hx116_0, hx116_1, hx116_2, hx116_3⟩ := at_T48 (Kd.zI HO112.out).2.2 (ji17) p116 q116; cases e116; replace p116 := eq_true p116; replace q116 := eq_true q116; obtain ⟨Ao49, co49, eo49⟩ := Kd.zL HO115.out; subst eo49; have p117 : 0 ≤ ((ji20) : Int) := aD; have q117 : (ji20) < (y113.length : Int) := aD; obtain ⟨ad117, e117, hx117_0⟩ := Kd.at_int (Kd.zI HO115.out).2.2 (ji20) p117 q117; cases e117; replace p117 := eq_true p117; replace q117 := eq_true q117; have p39 : 0 ≤ ((ji17) : Int) := aD; have q39 : ((ji17) : Int) < ((y110.length : Int) : Int) := aD; obtain ⟨go39, co39, eo39, gb39, gl39, cl39, HG39⟩ := Kd.R_form HO112.out (by omega); (first | cases eo39 | (injection eo39 with ea_ en_ ec_; (first | subst ea_ | (injection ea_ with ea_; subst ea_)); subst ec_; clear en_)); have GB39 := zA.mk gb39; have GG39 := zA.mk HG39; clear gb39 gl39 HG39; (first | simp only [add_plain] at hx116_0 | skip); (first | simp only [add_plain] at hx116_1 | skip); (first | simp only [add_plain] at hx116_2 | skip); (first | simp only [add_plain] at hx116_3 | skip); obtain ⟨ce39, hcl39, hM39, hcc39, hfr39⟩ := Kd.R_elem HO112.out z48 ((ji17) : Int) p39 q39; obtain rfl := k48_openM hM39; have hx39_0 : w47.cell? ⟨go39, ((ji17) : Int).toNat * 4, none⟩ = some (.int .i64 ((rd_T48 y110 (ji17)).f0)) := hcc39 0 _ rfl; have hx39_1 : w47.cell? ⟨go39, ((ji17) : Int).toNat * 4 + 1, none⟩ = some (.int .i64 ((rd_T48 y110 (ji17)).f1)) := hcc39 1 _ rfl; have hx39_2 : w47.cell? ⟨go39, ((ji17) : Int).toNat * 4 + 2, none⟩ = some (.int .i64 ((rd_T48 y110 (ji17)).f2)) := hcc39 2 _ rfl; have hx39_3 : w47.cell? ⟨go39, ((ji17) : Int).toNat * 4 + 3, none⟩ = some (.int .u8 ((rd_T48 y110 (ji17)).f3)) := hcc39 3 _ rfl; have hf39_0 : w47.frozen? ⟨go39, ((ji17) : Int).toNat * 4, none⟩ = false := hfr39 0; have hf39_1 : w47.frozen? ⟨go39, ((ji17) : Int).toNat * 4 + 1, none⟩ = false := hfr39 1; have hf39_2 : w47.frozen? ⟨go39, ((ji17) : Int).toNat * 4 + 2, none⟩ = false := hfr39 2; have hf39_3 : w47.frozen? ⟨go39, ((ji17) : Int).toNat * 4 + 3, none⟩ = false := hfr39 3; (try clear hcl39); (try clear hcc39); (try clear hfr39); (try clear hM39); replace p39 := eq_true p39; replace q39 := eq_true q39; have HX50 := zA.mk (show Kd.R k48 48 w47 w.heap.size (fun _ => True) (.slice (some ⟨go39, 0, none⟩) y110.length co48) y110 from (aR HO112)); obtain ⟨ce50, hcl50, hM50, hcc50, hfr50⟩ := Kd.R_elem HX50.out z48 ((ji17) : Int) (aD) (by have h_ : ((ji17) : Int) < ((y110.length : Int) : Int) := aD; first | exact h_ | (have e_ := (Kd.zI HO112.out).1; omega) | simpa using h_); obtain rfl := k48_openM hM50; have HP50 := Kd.R_seg HX50.out ((ji17) : Int) (aD) (by have h_ : ((ji17) : Int) < ((y110.length : Int) : Int) := aD; first | exact h_ | (have e_ := (Kd.zI HO112.out).1; omega) | simpa using h_) (seg := [.int .u8 0]) (j := 3) hcl50 hcc50 (show 4 ≤ 4 from by decide) (x' := (⟨(rd_T48 y110 (ji17)).f0, (rd_T48 y110 (ji17)).f1, (rd_T48 y110 (ji17)).f2, 0⟩ : S48)) (k48_mkM _ _ _ (⟨(rd_T48 y110 (ji17)).f0, (rd_T48 y110 (ji17)).f1, (rd_T48 y110 (ji17)).f2, 0⟩ : S48) ) (fun _ hk => hk); have hx50_3 := hcc50 3 _ rfl; (try simp only [show (k48).sz = 4 from rfl, Nat.mul_one, Nat.add_zero] at hx50_3); have hf50_3 := hfr50 3; (try simp only [show (k48).sz = 4 from rfl, Nat.mul_one, Nat.add_zero] at hf50_3); (try clear hcl50); (try clear hcc50); (try clear hfr50); (try clear hM50)) | ((with_reducible refine gate_store (t := 46) (p := 63) rfl ?_); refine store_event (t := 46) (p := 63) (v := ?vo_w51) (w1 := (w47.setCell ⟨go39, ((ji17) : Int).toNat * 4 + 3, none⟩ (.int .u8 0))) ?hg ?ho ?hn ?hr ?_; (case ho => rfl); (case hg => rfl); (case hn => rfl); (case hr => first | (go_simp; done) | (go_simp; rfl)); intro w51 hw; have hg : w47.grownBy w51 (some go39) := (by rw [hw]; exact HP50.2); have hp_ : Kd.R k48 48 w51 w.heap.size (fun _ => True) (.slice (some ⟨go39, 0, none⟩) y110.length co48) y123 := (by rw [hw, Ny123.out]; exact HP50.1); clear HP50; replace BK107 := zA.mk (blk_grown (g := gb107) (o := .cells #[.int .i32 ((rd_T50 l0 x15_1).f0), .int .i64 ((rd_T50 l0 x15_1).f1), .int .i64 ((rd_T50 l0 x15_1).f2)] 50 (0, 0)) (aB BK107) hg (Kd.R_ne HO112.out BK107.out (by decide))); replace HO115 := zA.mk (Kd.R_over' (v := (.slice (some ⟨go39, 0, none⟩) y110.length co48)) (aR HO115) (Kd.R_typed HO112.out) (by decide) hg); replace HO112 := zA.mk (hp_); replace HB := zA.mk ((by rw [hw]; exact below_set (HB.out) GB39.out : Below w.heap.size w w51)); clear hg hw hp_))
   replace HO112 := zA.mk (Kd.zD HO112.out); replace HO115 := zA.mk (Kd.zD HO115.out); replace BK107 := zA.mk (blk_drew BK107.out); replace HB := zA.mk (below_drew1 HB.out); have p124 : 0 ≤ ((ji17) : Int) := aD
   have q124 : (ji17) < (y123.length : Int) := (by have h_ : ((ji17) : Int) < ((y110.length : Int) : Int) := aD; first | (have e_ := (Kd.zI HO112.out).1; omega) | simpa only [Ny123.out, List.length_set] using h_)
   have ql124 : (((ji17) : Int) < ((y110.length : Int) : Int)) = True := eq_true (aD)
   obtain ⟨ad124, e124, hx124_0, hx124_1, hx124_2, hx124_3⟩ := at_T48 (Kd.zI HO112.out).2.2 (ji17) p124 q124; obtain rfl : (⟨go39, 0, none⟩ : Addr) = ad124 := (by injection e124)
   (first | simp only [add_plain] at hx124_0 | simp only [add_at] at hx124_0 | simp only [Addr.add, Nat.zero_add] at hx124_0 | skip)
   (first | simp only [add_plain] at hx124_1 | simp only [add_at] at hx124_1 | simp only [Addr.add, Nat.zero_add] at hx124_1 | skip)
   (first | simp only [add_plain] at hx124_2 | simp only [add_at] at hx124_2 | simp only [Addr.add, Nat.zero_add] at hx124_2 | skip)
   (first | simp only [add_plain] at hx124_3 | simp only [add_at] at hx124_3 | simp only [Addr.add, Nat.zero_add] at hx124_3 | skip)
   replace p124 := eq_true p124; replace q124 := eq_true q124; have p40 : 0 ≤ ((ji17) : Int) := aD
   have q40 : ((ji17) : Int) < ((y110.length : Int) : Int) := aD
   obtain ⟨ce40, hcl40, hM40, hcc40, hfr40⟩ := Kd.R_elem HO112.out z48 ((ji17) : Int) p40 q40; obtain rfl := k48_openM hM40
   have hx40_0 : World.cell? _ ⟨go39, ((ji17) : Int).toNat * 4, none⟩ = some (.int .i64 ((rd_T48 y123 (ji17)).f0)) := hcc40 0 _ rfl
   have hx40_1 : World.cell? _ ⟨go39, ((ji17) : Int).toNat * 4 + 1, none⟩ = some (.int .i64 ((rd_T48 y123 (ji17)).f1)) := hcc40 1 _ rfl
   have hx40_2 : World.cell? _ ⟨go39, ((ji17) : Int).toNat * 4 + 2, none⟩ = some (.int .i64 ((rd_T48 y123 (ji17)).f2)) := hcc40 2 _ rfl
   have hx40_3 : World.cell? _ ⟨go39, ((ji17) : Int).toNat * 4 + 3, none⟩ = some (.int .u8 ((rd_T48 y123 (ji17)).f3)) := hcc40 3 _ rfl
   have hf40_0 : World.frozen? _ ⟨go39, ((ji17) : Int).toNat * 4, none⟩ = false := hfr40 0
   have hf40_1 : World.frozen? _ ⟨go39, ((ji17) : Int).toNat * 4 + 1, none⟩ = false := hfr40 1
   have hf40_2 : World.frozen? _ ⟨go39, ((ji17) : Int).toNat * 4 + 2, none⟩ = false := hfr40 2
   have hf40_3 : World.frozen? _ ⟨go39, ((ji17) : Int).toNat * 4 + 3, none⟩ = false := hfr40 3
   (try clear hcl40); (try clear hcc40); (try clear hfr40); (try clear hM40)
   replace p40 := eq_true p40; replace q40 := eq_true q40; obtain ⟨cx53, gx53⟩ := Kd.R_typed HO112.out _ rfl; have GG53_ := zA.mk gx53; clear gx53; obtain ⟨ce53, hcl53, hM53, hcc53, hfr53⟩ := Kd.R_elem HO112.out z48 ((ji17) : Int) (aD) (by have h_ : ((ji17) : Int) < ((y110.length : Int) : Int) := aD; first | exact h_ | (have e_ := (Kd.zI HO112.out).1; omega) | simpa using h_)
   obtain rfl := k48_openM hM53
   have HP53 := (Kd.R_seg HO112.out ((ji17) : Int) (aD) (by have h_ : ((ji17) : Int) < ((y110.length : Int) : Int) := aD; first | exact h_ | (have e_ := (Kd.zI HO112.out).1; omega) | simpa using h_) (seg := [.int .i64 (wrap64 (((rd_T48 y123 (ji17)).f1) + ((rd_T50 l0 x15_1).f2)))]) (j := 1) hcl53 hcc53 (show 2 ≤ 4 from by decide) (x' := (⟨(rd_T48 y123 (ji17)).f0, wrap64 (((rd_T48 y123 (ji17)).f1) + ((rd_T50 l0 x15_1).f2)), (rd_T48 y123 (ji17)).f2, (rd_T48 y123 (ji17)).f3⟩ : S48)) (k48_mkM _ _ _ (⟨(rd_T48 y123 (ji17)).f0, wrap64 (((rd_T48 y123 (ji17)).f1) + ((rd_T50 l0 x15_1).f2)), (rd_T48 y123 (ji17)).f2, (rd_T48 y123 (ji17)).f3⟩ : S48) ) (fun _ hk => hk)).1
   rw [← Ny125.out] at HP53; have HQ53 := zA.mk HP53; clear hcl53 hcc53 hfr53 hM53 HP53; refine start_ (n := 10) (S := fun w' => w'.cell? ⟨gb107, 0, none⟩ = some (.int .i32 ((rd_T50 l0 x15_1).f0)) ∧ w'.cell? ⟨gb107, 1, none⟩ = some (.int .i64 ((rd_T50 l0 x15_1).f1)) ∧ w'.cell? ⟨gb107, 2, none⟩ = some (.int .i64 ((rd_T50 l0 x15_1).f2)) ∧ w'.cell? ⟨go39, ((ji17)).toNat * 4, none⟩ = some (.int .i64 ((rd_T48 y123 (ji17)).f0)) ∧ w'.cell? ⟨go39, ((ji17)).toNat * 4 + 1, none⟩ = some (.int .i64 ((rd_T48 y123 (ji17)).f1)) ∧ w'.cell? ⟨go39, ((ji17)).toNat * 4 + 2, none⟩ = some (.int .i64 ((rd_T48 y123 (ji17)).f2)) ∧ w'.cell? ⟨go39, ((ji17)).toNat * 4 + 3, none⟩ = some (.int .u8 ((rd_T48 y123 (ji17)).f3))) (ds := [9]) #[false, false, false, false, false, false, false, false, false, false] (by kernel_rfl) rfl rfl ⟨(blk_cell BK107.out 0).trans rfl, (blk_cell BK107.out 1).trans rfl, (blk_cell BK107.out 2).trans rfl, hx124_0, hx124_1, hx124_2, hx124_3⟩ (fun hHeld => ?_); refine with_tabW cells_Make.tab12 cells_Make.bits12 (fun HT_ HW_ => ?_)
   generalize w51.drew = w52 at HO112 HO115 BK107 HB GG53_ HQ53 hf40_0 hf40_1 hf40_2 hf40_3 hx124_0 hx124_1 hx124_2 hx124_3 hx40_0 hx40_1 hx40_2 hx40_3 hHeld ⊢
   refine aP 0 (some 64) (tf_ 1 10) HT_ ?_
   refine aP 1 (some 65) (tf_ 2 10) HT_ ?_
   refine aP 2 (some 66) (tf_ 3 10) HT_ ?_
   refine aP 4 (some 68) (tb_ 23 10) HT_ ?_
   refine take_ (i := 3) (N := some 67) (v := ?_) (a' := ?_) (tf_ 5 10) rfl rfl (take_ofW HT_.out HW_.out (by kernel_rfl)) (fun _ _ _ h => h) (Or.inl ⟨by rfl, ?_⟩) hHeld ?_ ?_
   rotate_left
   ·rintro w' ⟨s0, s1, s2, s3, s4, s5, s6⟩
    go_simp
    with_reducible rfl
   rotate_left
   ·simp only [Act.put, sA_, sB_, sC_, i64_w, i32_w]
    rfl
   refine take_ (i := 5) (N := some 69) (v := ?_) (a' := ?_) (tf_ 6 10) rfl rfl (take_ofW HT_.out HW_.out (by kernel_rfl)) (fun _ _ _ h => h) (Or.inl ⟨by rfl, ?_⟩) hHeld ?_ ?_
   rotate_left
   ·rintro w' ⟨s0, s1, s2, s3, s4, s5, s6⟩
    go_simp
    with_reducible rfl
   rotate_left
   ·simp only [Act.put, sA_, sB_, sC_, i64_w, i32_w]
    rfl
   refine aP 6 (some 70) (tf_ 7 10) HT_ ?_
   refine aP 7 (some 71) (tf_ 8 10) HT_ ?_
   refine aP 8 (some 72) (tf_ 9 10) HT_ ?_
   refine last_ (i := 9) (N := none) (tb_ 1023 10) rfl rfl (one_of HT_.out (by kernel_rfl)) (by decide) (fun K hK => ?_)
   refine skip_ (w1 := ?_) (by rfl) rfl ?_ ?_
   rotate_left
   ·go_simp
    rfl
   refine hK.out _ _ ?_
   clear hK K; refine done_ (done_of HT_.out (by kernel_rfl)) ?_
   try go_wp2
   have n0_ : zA (Kd.R k48 48 (w52.setCell ⟨go39, ((ji17) : Int).toNat * 4 + 1, none⟩ (.int .i64 (wrap64 (((rd_T48 y123 (ji17)).f1) + ((rd_T50 l0 x15_1).f2))))) w.heap.size (fun _ => True) (.slice (some ⟨go39, 0, none⟩) y110.length co48) y125) := ⟨aR HQ53⟩
   have n1_ : zA (Kd.R (Kd.int .i64) 3 (w52.setCell ⟨go39, ((ji17) : Int).toNat * 4 + 1, none⟩ (.int .i64 (wrap64 (((rd_T48 y123 (ji17)).f1) + ((rd_T50 l0 x15_1).f2))))) w.heap.size (fun _ => True) (.slice (some ad117) y113.length co49) y113) := ⟨by (with_reducible repeat (first | apply Kd.zB | apply Kd.zC | apply Kd.zD)); exact Kd.zN (Kd.zK (p := ⟨go39, ((ji17) : Int).toNat * 4 + 1, none⟩) (Kd.zO HO115.out GG53_.out (by decide)) (fun _ hk => hk.2) (.int .i64 (wrap64 (((rd_T48 y123 (ji17)).f1) + ((rd_T50 l0 x15_1).f2))))) (fun _ hk => trivial)⟩
   have n2_ : zA ((w52.setCell ⟨go39, ((ji17) : Int).toNat * 4 + 1, none⟩ (.int .i64 (wrap64 (((rd_T48 y123 (ji17)).f1) + ((rd_T50 l0 x15_1).f2))))).heap[gb107]? = some (.cells #[.int .i32 ((rd_T50 l0 x15_1).f0), .int .i64 ((rd_T50 l0 x15_1).f1), .int .i64 ((rd_T50 l0 x15_1).f2)] 50 (0, 0))) := ⟨by (with_reducible repeat (first | refine blk_drewN ?_ _ | refine blk_drew ?_ | refine blk_alloc ?_ _)); refine blk_far ?_ (by have h_ := Kd.R_ne HO112.out BK107.out (by decide); intro e_; exact h_ (by rw [e_]; rfl)) _; (with_reducible repeat (first | refine blk_drewN ?_ _ | refine blk_drew ?_ | refine blk_alloc ?_ _)); exact BK107.out⟩
   have n3_ : zA (Below w.heap.size w (w52.setCell ⟨go39, ((ji17) : Int).toNat * 4 + 1, none⟩ (.int .i64 (wrap64 (((rd_T48 y123 (ji17)).f1) + ((rd_T50 l0 x15_1).f2)))))) := ⟨aL HB⟩
   (try clear HO112)
   (try clear HO115)
   (try clear BK107)
   (try clear HB)
   generalize (w52.setCell ⟨go39, ((ji17) : Int).toNat * 4 + 1, none⟩ (.int .i64 (wrap64 (((rd_T48 y123 (ji17)).f1) + ((rd_T50 l0 x15_1).f2))))) = w54 at n0_ n1_ n2_ n3_ ⊢
   have HO112 := n0_; have HO115 := n1_; have BK107 := n2_; have HB := n3_; clear n0_ n1_ n2_ n3_; replace HO112 := zA.mk (Kd.zD HO112.out); replace HO115 := zA.mk (Kd.zD HO115.out); replace BK107 := zA.mk (blk_drew BK107.out); replace HB := zA.mk (below_drew1 HB.out); have p126 : 0 ≤ ((ji17) : Int) := aD
   have q126 : (ji17) < (y125.length : Int) := (by have h_ : ((ji17) : Int) < ((y110.length : Int) : Int) := aD; first | (have e_ := (Kd.zI HO112.out).1; omega) | simpa only [Ny123.out, Ny125.out, List.length_set] using h_)
   have ql126 : (((ji17) : Int) < ((y110.length : Int) : Int)) = True := eq_true (aD)
   obtain ⟨ad126, e126, hx126_0, hx126_1, hx126_2, hx126_3⟩ := at_T48 (Kd.zI HO112.out).2.2 (ji17) p126 q126; obtain rfl : (⟨go39, 0, none⟩ : Addr) = ad126 := (by injection e126)
   (first | simp only [add_plain] at hx126_0 | simp only [add_at] at hx126_0 | simp only [Addr.add, Nat.zero_add] at hx126_0 | skip)
   (first | simp only [add_plain] at hx126_1 | simp only [add_at] at hx126_1 | simp only [Addr.add, Nat.zero_add] at hx126_1 | skip)
   (first | simp only [add_plain] at hx126_2 | simp only [add_at] at hx126_2 | simp only [Addr.add, Nat.zero_add] at hx126_2 | skip)
   (first | simp only [add_plain] at hx126_3 | simp only [add_at] at hx126_3 | simp only [Addr.add, Nat.zero_add] at hx126_3 | skip)
   replace p126 := eq_true p126; replace q126 := eq_true q126; refine start_ (n := 14) (S := fun w' => w'.cell? ⟨gb107, 0, none⟩ = some (.int .i32 ((rd_T50 l0 x15_1).f0)) ∧ w'.cell? ⟨gb107, 1, none⟩ = some (.int .i64 ((rd_T50 l0 x15_1).f1)) ∧ w'.cell? ⟨gb107, 2, none⟩ = some (.int .i64 ((rd_T50 l0 x15_1).f2)) ∧ w'.cell? ⟨go39, ((ji17)).toNat * 4, none⟩ = some (.int .i64 ((rd_T48 y125 (ji17)).f0)) ∧ w'.cell? ⟨go39, ((ji17)).toNat * 4 + 1, none⟩ = some (.int .i64 ((rd_T48 y125 (ji17)).f1)) ∧ w'.cell? ⟨go39, ((ji17)).toNat * 4 + 2, none⟩ = some (.int .i64 ((rd_T48 y125 (ji17)).f2)) ∧ w'.cell? ⟨go39, ((ji17)).toNat * 4 + 3, none⟩ = some (.int .u8 ((rd_T48 y125 (ji17)).f3))) (ds := [13]) #[false, false, false, false, false, false, false, false, false, false, false, false, false, false] (by kernel_rfl) rfl rfl ⟨(blk_cell BK107.out 0).trans rfl, (blk_cell BK107.out 1).trans rfl, (blk_cell BK107.out 2).trans rfl, hx126_0, hx126_1, hx126_2, hx126_3⟩ (fun hHeld => ?_); refine with_tabW cells_Make.tab13 cells_Make.bits13 (fun HT_ HW_ => ?_)
   generalize w54.drew = w55 at HO112 HO115 BK107 HB HQ53 hx126_0 hx126_1 hx126_2 hx126_3 hHeld ⊢
   refine aP 0 (some 73) (tf_ 1 14) HT_ ?_
   refine aP 1 (some 74) (tf_ 2 14) HT_ ?_
   refine aP 2 (some 75) (tf_ 3 14) HT_ ?_
   refine aP 3 (some 76) (tf_ 4 14) HT_ ?_
   refine aP 5 (some 78) (tb_ 47 14) HT_ ?_
   refine aP 6 (some 79) (tb_ 111 14) HT_ ?_
   refine take_ (i := 4) (N := some 77) (v := ?_) (a' := ?_) (tf_ 7 14) rfl rfl (take_ofW HT_.out HW_.out (by kernel_rfl)) (fun _ _ _ h => h) (Or.inl ⟨by rfl, ?_⟩) hHeld ?_ ?_
   rotate_left
   ·rintro w' ⟨s0, s1, s2, s3, s4, s5, s6⟩
    go_simp
    with_reducible rfl
   rotate_left
   ·simp only [Act.put, sA_, sB_, sC_, i64_w, i32_w]
    rfl
   refine take_ (i := 7) (N := some 80) (v := ?_) (a' := ?_) (tf_ 8 14) rfl rfl (take_ofW HT_.out HW_.out (by kernel_rfl)) (fun _ _ _ h => h) (Or.inl ⟨by rfl, ?_⟩) hHeld ?_ ?_
   rotate_left
   ·rintro w' ⟨s0, s1, s2, s3, s4, s5, s6⟩
    go_simp
    with_reducible rfl
   rotate_left
   ·simp only [Act.put, sA_, sB_, sC_, i64_w, i32_w]
    rfl
   refine one_ (i := 8) (N := some 81) (tb_ 511 14) rfl rfl (one_of HT_.out (by kernel_rfl)) (by decide) (fun K hK => ?_)
   refine goes_ Try.func22 (by kernel_rfl) rfl #[vt2_, .int .i32 ((rd_T50 l0 x15_1).f0)] (by rfl) rfl rfl aT ?_
   with_reducible refine (prop_Table_Of.calls vt2_ a2 ((rd_T50 l0 x15_1).f0) t127 _ ?side1 A41.out).mono ?_
   (case side1 => exact TabAt.below HTa2.out (aL HB))
   rintro e w' ⟨rfl, ⟨nd, rfl⟩⟩
   refine ⟨_, rfl, ?_⟩
   have p44 : 0 ≤ ((ji17) : Int) := aD
   have q44 : ((ji17) : Int) < ((y110.length : Int) : Int) := aD
   obtain ⟨ce44, hcl44, hM44, hcc44, hfr44⟩ := Kd.R_elem HO112.out z48 ((ji17) : Int) p44 q44; obtain rfl := k48_openM hM44
   have hx44_0 : World.cell? _ ⟨go39, ((ji17) : Int).toNat * 4, none⟩ = some (.int .i64 ((rd_T48 y125 (ji17)).f0)) := hcc44 0 _ rfl
   have hx44_1 : World.cell? _ ⟨go39, ((ji17) : Int).toNat * 4 + 1, none⟩ = some (.int .i64 ((rd_T48 y125 (ji17)).f1)) := hcc44 1 _ rfl
   have hx44_2 : World.cell? _ ⟨go39, ((ji17) : Int).toNat * 4 + 2, none⟩ = some (.int .i64 ((rd_T48 y125 (ji17)).f2)) := hcc44 2 _ rfl
   have hx44_3 : World.cell? _ ⟨go39, ((ji17) : Int).toNat * 4 + 3, none⟩ = some (.int .u8 ((rd_T48 y125 (ji17)).f3)) := hcc44 3 _ rfl
   have hf44_0 : World.frozen? _ ⟨go39, ((ji17) : Int).toNat * 4, none⟩ = false := hfr44 0
   have hf44_1 : World.frozen? _ ⟨go39, ((ji17) : Int).toNat * 4 + 1, none⟩ = false := hfr44 1
   have hf44_2 : World.frozen? _ ⟨go39, ((ji17) : Int).toNat * 4 + 2, none⟩ = false := hfr44 2
   have hf44_3 : World.frozen? _ ⟨go39, ((ji17) : Int).toNat * 4 + 3, none⟩ = false := hfr44 3
   (try clear hcl44); (try clear hcc44); (try clear hfr44); (try clear hM44)
   replace p44 := eq_true p44; replace q44 := eq_true q44; obtain ⟨cx56, gx56⟩ := Kd.R_typed HO112.out _ rfl; have GG56_ := zA.mk gx56; clear gx56; obtain ⟨ce56, hcl56, hM56, hcc56, hfr56⟩ := Kd.R_elem HO112.out z48 ((ji17) : Int) (aD) (by have h_ : ((ji17) : Int) < ((y110.length : Int) : Int) := aD; first | exact h_ | (have e_ := (Kd.zI HO112.out).1; omega) | simpa using h_)
   obtain rfl := k48_openM hM56
   have HP56 := (Kd.R_seg HO112.out ((ji17) : Int) (aD) (by have h_ : ((ji17) : Int) < ((y110.length : Int) : Int) := aD; first | exact h_ | (have e_ := (Kd.zI HO112.out).1; omega) | simpa using h_) (seg := [.int .i64 ji43]) (j := 2) hcl56 hcc56 (show 3 ≤ 4 from by decide) (x' := (⟨(rd_T48 y125 (ji17)).f0, (rd_T48 y125 (ji17)).f1, ji43, (rd_T48 y125 (ji17)).f3⟩ : S48)) (k48_mkM _ _ _ (⟨(rd_T48 y125 (ji17)).f0, (rd_T48 y125 (ji17)).f1, ji43, (rd_T48 y125 (ji17)).f3⟩ : S48) ) (fun _ hk => hk)).1
   rw [← Ny128.out] at HP56; have HQ56 := zA.mk HP56; clear hcl56 hcc56 hfr56 hM56 HP56; refine hK.out _ _ ⟨(blk_cell BK107.out 0).trans rfl, (blk_cell BK107.out 1).trans rfl, (blk_cell BK107.out 2).trans rfl, hHeld.2.2.2.1, hHeld.2.2.2.2.1, hHeld.2.2.2.2.2.1, hHeld.2.2.2.2.2.2⟩ (fun hHeld => ?_)
   clear hK K; refine norm_ (a' := ?_) ?_ ?_
   rotate_left
   ·show Act.put _ (some 81) _ = _
    simp only [Act.put, sA_, sB_, sC_, i64_w, i32_w]; rfl
   refine aP 9 (some 82) (tf_ 10 14) HT_ ?_
   refine aP 10 (some 83) (tf_ 11 14) HT_ ?_
   refine aP 11 (some 84) (tf_ 12 14) HT_ ?_
   refine aP 12 (some 85) (tf_ 13 14) HT_ ?_
   refine last_ (i := 13) (N := none) (tb_ 16383 14) rfl rfl (one_of HT_.out (by kernel_rfl)) (by decide) (fun K hK => ?_)
   refine skip_ (w1 := ?_) (by rfl) rfl ?_ ?_
   rotate_left
   ·go_simp
    rfl
   refine hK.out _ _ ?_
   clear hK K; refine done_ (done_of HT_.out (by kernel_rfl)) ?_
   try go_wp2
   go_roundg kj6
   case measure => have := HK1.out; have := HJ6.out; omega
   case rel => exact ⟨(y128), (y113), (wrap64 (x15_1 + 1)), aZ, H', ⟨by have := HK1.out; have := HJ6.out; omega⟩, ⟨aR HQ56⟩, ⟨by (with_reducible repeat (first | apply Kd.zB | apply Kd.zC | apply Kd.zD)); exact Kd.zN (Kd.zK (p := ⟨go39, ((ji17) : Int).toNat * 4 + 2, none⟩) (Kd.zO HO115.out GG56_.out (by decide)) (fun _ hk => hk.2) (.int .i64 ji43)) (fun _ hk => trivial)⟩, ⟨aL HB⟩⟩
theorem eqA48 (d : Nat) (w : World) (x0 y0 : Int) (x1 y1 : Int) (x2 y2 : Int) (x3 y3 : Int) :
  (Op.equalIn (d + 2) 48 (.agg #[.int .i64 x0, .int .i64 x1, .int .i64 x2, .int .u8 x3]) (.agg #[.int .i64 y0, .int .i64 y1, .int .i64 y2, .int .u8 y3])).run Try.prog w = .ok (x0 == y0 && (x1 == y1 && (x2 == y2 && (x3 == y3)))) w := by
 refine eqA_of Try.underlying48 (by kernel_rfl) ?_
 refine eqf_cons (by rfl) (by go_simp; rfl) (by go_simp; rfl) (by go_simp) ?_
 refine eqf_cons (by rfl) (by go_simp; rfl) (by go_simp; rfl) (by go_simp) ?_
 refine eqf_cons (by rfl) (by go_simp; rfl) (by go_simp; rfl) (by go_simp) ?_
 exact eqf_last (by rfl) (by go_simp; rfl) (by go_simp; rfl) (by go_simp)
attribute [local go_sem high] eqA48
def stanzalaw10_Awake.f (k : Nat)  : Option (Bool) := (some (([(⟨32, 126, 1⟩ : S45)] : List (S45)) : List (S45))).bind fun y142 => (if prop_Make.c y142 3 = true then ((prop_MakeY.f y142 3).bind fun t147 => ((cells_Make.f k (([(⟨97, 0, 1⟩ : S50), (⟨769, 1, 2⟩ : S50), (⟨32, 3, 1⟩ : S50)] : List (S50))) (([0, 0, 1, 2] : List Int)) t147).bind fun bt154 => (if (bt154.1.length : Int) = 2 then (if (bt154.2.length : Int) = 3 then (if 1 < (bt154.2.length : Int) then (if (rd bt154.2 1) = 2 then (if 0 < (bt154.1.length : Int) then (if (((rd_T48 bt154.1 0).f0) == 0 && (((rd_T48 bt154.1 0).f1) == 3 && (((rd_T48 bt154.1 0).f2) == 1 && (((rd_T48 bt154.1 0).f3) == 0)))) = true then (if 1 < (bt154.1.length : Int) then (some (((rd_T48 bt154.1 1).f0) == 3 && (((rd_T48 bt154.1 1).f1) == 1 && (((rd_T48 bt154.1 1).f2) == 1 && (((rd_T48 bt154.1 1).f3) == 1))))) else (none)) else (some false)) else (none)) else (some false)) else (none)) else (some false)) else (some false)))) else ((prop_MakeN.f y142 3).bind fun _ => (some false)))
theorem stanzalaw10_Awake.mono : ∀ k, LeO (stanzalaw10_Awake.f k ) (stanzalaw10_Awake.f (k + 1) ) := by
 intro  k
 unfold stanzalaw10_Awake.f
 repeat' (with_reducible first | exact cells_Make.mono _ _ _ _ | exact LeO.refl _ | exact LeO.none _ | refine LeO.ite ?_ ?_ | refine LeO.bind ?_ (fun _ => ?_))
set_option maxHeartbeats 8000000 in
set_option maxRecDepth 100000 in
theorem stanzalaw10_Awake.calls (k : Nat)  (r : Bool) (w : World) (h : stanzalaw10_Awake.f k  = some r) (hrt_ : zA (r = true)) :
  Calls Try.prog 12 #[] w fun e w' => e = .returned (.bool r) ∧ Below w.heap.size w w' := by
 have hu45 := Try.underlying45; have hu50 := Try.underlying50; have hu48 := Try.underlying48; have HB := zA.mk (Below.refl w.heap.size w); have H : ((some (([(⟨32, 126, 1⟩ : S45)] : List (S45)) : List (S45))).bind fun y142 => (if prop_Make.c y142 3 = true then ((prop_MakeY.f y142 3).bind fun t147 => ((cells_Make.f k (([(⟨97, 0, 1⟩ : S50), (⟨769, 1, 2⟩ : S50), (⟨32, 3, 1⟩ : S50)] : List (S50))) (([0, 0, 1, 2] : List Int)) t147).bind fun bt154 => (if (bt154.1.length : Int) = 2 then (if (bt154.2.length : Int) = 3 then (if 1 < (bt154.2.length : Int) then (if (rd bt154.2 1) = 2 then (if 0 < (bt154.1.length : Int) then (if (((rd_T48 bt154.1 0).f0) == 0 && (((rd_T48 bt154.1 0).f1) == 3 && (((rd_T48 bt154.1 0).f2) == 1 && (((rd_T48 bt154.1 0).f3) == 0)))) = true then (if 1 < (bt154.1.length : Int) then (some (((rd_T48 bt154.1 1).f0) == 3 && (((rd_T48 bt154.1 1).f1) == 1 && (((rd_T48 bt154.1 1).f2) == 1 && (((rd_T48 bt154.1 1).f3) == 1))))) else (none)) else (some false)) else (none)) else (some false)) else (none)) else (some false)) else (some false)))) else ((prop_MakeN.f y142 3).bind fun _ => (some false)))) = some r := h
 clear h; obtain ⟨y142, hy142⟩ : ∃ y_ : List (S45), y_ = (([(⟨32, 126, 1⟩ : S45)] : List (S45))) := ⟨_, rfl⟩; replace H : (if prop_Make.c y142 3 = true then ((prop_MakeY.f y142 3).bind fun t147 => ((cells_Make.f k (([(⟨97, 0, 1⟩ : S50), (⟨769, 1, 2⟩ : S50), (⟨32, 3, 1⟩ : S50)] : List (S50))) (([0, 0, 1, 2] : List Int)) t147).bind fun bt154 => (if (bt154.1.length : Int) = 2 then (if (bt154.2.length : Int) = 3 then (if 1 < (bt154.2.length : Int) then (if (rd bt154.2 1) = 2 then (if 0 < (bt154.1.length : Int) then (if (((rd_T48 bt154.1 0).f0) == 0 && (((rd_T48 bt154.1 0).f1) == 3 && (((rd_T48 bt154.1 0).f2) == 1 && (((rd_T48 bt154.1 0).f3) == 0)))) = true then (if 1 < (bt154.1.length : Int) then (some (((rd_T48 bt154.1 1).f0) == 3 && (((rd_T48 bt154.1 1).f1) == 1 && (((rd_T48 bt154.1 1).f2) == 1 && (((rd_T48 bt154.1 1).f3) == 1))))) else (none)) else (some false)) else (none)) else (some false)) else (none)) else (some false)) else (some false)))) else ((prop_MakeN.f y142 3).bind fun _ => (some false))) = some r := by first | (rw [hy142]; with_reducible exact H) | (have H2_ := (Option.bind_some _ _).symm.trans H; rw [hy142]; with_reducible exact H2_) | (have H2_ := (Option.bind_some _ _).symm.trans H; with_reducible exact H2_) | with_reducible exact H | (rw [hy142]; exact H) | exact H
 have Ny142 := zA.mk hy142; clear hy142; by_cases c1 : prop_Make.c y142 3 = true
 rotate_left
 ·rw [if_neg c1] at H
  have c1b0 : prop_Make.c y142 3 = false := by simpa using c1
  clear c1; replace H := Option.bind_eq_some_iff.mp H; obtain ⟨_, A240, H⟩ := H; replace H : (some false) = some r := H; have A24 := zA.mk A240; clear A240; exact absurd ((Option.some.inj H).trans hrt_.out) (by decide)
 rw [if_pos c1] at H; have c1b0 : prop_Make.c y142 3 = true := c1
 clear c1; replace H := Option.bind_eq_some_iff.mp H; obtain ⟨t147, A20, H⟩ := H; replace H : ((cells_Make.f k (([(⟨97, 0, 1⟩ : S50), (⟨769, 1, 2⟩ : S50), (⟨32, 3, 1⟩ : S50)] : List (S50))) (([0, 0, 1, 2] : List Int)) t147).bind fun bt154 => (if (bt154.1.length : Int) = 2 then (if (bt154.2.length : Int) = 3 then (if 1 < (bt154.2.length : Int) then (if (rd bt154.2 1) = 2 then (if 0 < (bt154.1.length : Int) then (if (((rd_T48 bt154.1 0).f0) == 0 && (((rd_T48 bt154.1 0).f1) == 3 && (((rd_T48 bt154.1 0).f2) == 1 && (((rd_T48 bt154.1 0).f3) == 0)))) = true then (if 1 < (bt154.1.length : Int) then (some (((rd_T48 bt154.1 1).f0) == 3 && (((rd_T48 bt154.1 1).f1) == 1 && (((rd_T48 bt154.1 1).f2) == 1 && (((rd_T48 bt154.1 1).f3) == 1))))) else (none)) else (some false)) else (none)) else (some false)) else (none)) else (some false)) else (some false))) = some r := H
 have A2 := zA.mk A20; clear A20; obtain ⟨y148, hy148⟩ : ∃ y_ : List (S50), y_ = (([(⟨97, 0, 1⟩ : S50), (⟨769, 1, 2⟩ : S50), (⟨32, 3, 1⟩ : S50)] : List (S50))) := ⟨_, rfl⟩; replace H : ((cells_Make.f k y148 (([0, 0, 1, 2] : List Int)) t147).bind fun bt154 => (if (bt154.1.length : Int) = 2 then (if (bt154.2.length : Int) = 3 then (if 1 < (bt154.2.length : Int) then (if (rd bt154.2 1) = 2 then (if 0 < (bt154.1.length : Int) then (if (((rd_T48 bt154.1 0).f0) == 0 && (((rd_T48 bt154.1 0).f1) == 3 && (((rd_T48 bt154.1 0).f2) == 1 && (((rd_T48 bt154.1 0).f3) == 0)))) = true then (if 1 < (bt154.1.length : Int) then (some (((rd_T48 bt154.1 1).f0) == 3 && (((rd_T48 bt154.1 1).f1) == 1 && (((rd_T48 bt154.1 1).f2) == 1 && (((rd_T48 bt154.1 1).f3) == 1))))) else (none)) else (some false)) else (none)) else (some false)) else (none)) else (some false)) else (some false))) = some r := by first | (rw [hy148]; with_reducible exact H) | (have H2_ := (Option.bind_some _ _).symm.trans H; rw [hy148]; with_reducible exact H2_) | (have H2_ := (Option.bind_some _ _).symm.trans H; with_reducible exact H2_) | with_reducible exact H | (rw [hy148]; exact H) | exact H
 have Ny148 := zA.mk hy148; clear hy148; obtain ⟨y151, hy151⟩ : ∃ y_ : List Int, y_ = (([0, 0, 1, 2] : List Int)) := ⟨_, rfl⟩; replace H : ((cells_Make.f k y148 y151 t147).bind fun bt154 => (if (bt154.1.length : Int) = 2 then (if (bt154.2.length : Int) = 3 then (if 1 < (bt154.2.length : Int) then (if (rd bt154.2 1) = 2 then (if 0 < (bt154.1.length : Int) then (if (((rd_T48 bt154.1 0).f0) == 0 && (((rd_T48 bt154.1 0).f1) == 3 && (((rd_T48 bt154.1 0).f2) == 1 && (((rd_T48 bt154.1 0).f3) == 0)))) = true then (if 1 < (bt154.1.length : Int) then (some (((rd_T48 bt154.1 1).f0) == 3 && (((rd_T48 bt154.1 1).f1) == 1 && (((rd_T48 bt154.1 1).f2) == 1 && (((rd_T48 bt154.1 1).f3) == 1))))) else (none)) else (some false)) else (none)) else (some false)) else (none)) else (some false)) else (some false))) = some r := by first | (rw [hy151]; with_reducible exact H) | (have H2_ := (Option.bind_some _ _).symm.trans H; rw [hy151]; with_reducible exact H2_) | (have H2_ := (Option.bind_some _ _).symm.trans H; with_reducible exact H2_) | with_reducible exact H | (rw [hy151]; exact H) | exact H
 have Ny151 := zA.mk hy151; clear hy151; replace H := Option.bind_eq_some_iff.mp H; obtain ⟨⟨t154, t155⟩, A30, H⟩ := H; replace H : (if (t154.length : Int) = 2 then (if (t155.length : Int) = 3 then (if 1 < (t155.length : Int) then (if (rd t155 1) = 2 then (if 0 < (t154.length : Int) then (if (((rd_T48 t154 0).f0) == 0 && (((rd_T48 t154 0).f1) == 3 && (((rd_T48 t154 0).f2) == 1 && (((rd_T48 t154 0).f3) == 0)))) = true then (if 1 < (t154.length : Int) then (some (((rd_T48 t154 1).f0) == 3 && (((rd_T48 t154 1).f1) == 1 && (((rd_T48 t154 1).f2) == 1 && (((rd_T48 t154 1).f3) == 1))))) else (none)) else (some false)) else (none)) else (some false)) else (none)) else (some false)) else (some false)) = some r := H; have A3 := zA.mk A30; clear A30; by_cases c4 : (t154.length : Int) = 2
 rotate_left
 ·rw [if_neg c4] at H
  have c4b0 : ((t154.length : Int) == 2) = false := beq_eq_false_iff_ne.mpr c4
  have c4b1 : ((t154.length : Int) != 2) = true := bne_iff_ne.mpr c4
  exact absurd ((Option.some.inj H).trans hrt_.out) (by decide)
 rw [if_pos c4] at H; have c4b0 : ((t154.length : Int) == 2) = true := beq_iff_eq.mpr c4
 have c4b1 : ((t154.length : Int) != 2) = false := bne_eq_false_iff_eq.mpr c4
 clear c4; by_cases c5 : (t155.length : Int) = 3
 rotate_left
 ·rw [if_neg c5] at H
  have c5b0 : ((t155.length : Int) == 3) = false := beq_eq_false_iff_ne.mpr c5
  have c5b1 : ((t155.length : Int) != 3) = true := bne_iff_ne.mpr c5
  exact absurd ((Option.some.inj H).trans hrt_.out) (by decide)
 rw [if_pos c5] at H; have c5b0 : ((t155.length : Int) == 3) = true := beq_iff_eq.mpr c5
 have c5b1 : ((t155.length : Int) != 3) = false := bne_eq_false_iff_eq.mpr c5
 clear c5; by_cases c6 : 1 < (t155.length : Int)
 rotate_left
 ·rw [if_neg c6] at H
  exact absurd H (by simp)
 rw [if_pos c6] at H; have c6b0 : decide (1 < (t155.length : Int)) = true := decide_eq_true c6
 have c6b1 : decide (1 < t155.length) = true := decide_eq_true (by omega)
 clear c6; by_cases c7 : (rd t155 1) = 2
 rotate_left
 ·rw [if_neg c7] at H
  have c7b0 : ((rd t155 1) == 2) = false := beq_eq_false_iff_ne.mpr c7
  have c7b1 : ((rd t155 1) != 2) = true := bne_iff_ne.mpr c7
  exact absurd ((Option.some.inj H).trans hrt_.out) (by decide)
 rw [if_pos c7] at H; have c7b0 : ((rd t155 1) == 2) = true := beq_iff_eq.mpr c7
 have c7b1 : ((rd t155 1) != 2) = false := bne_eq_false_iff_eq.mpr c7
 clear c7; by_cases c8 : 0 < (t154.length : Int)
 rotate_left
 ·rw [if_neg c8] at H
  exact absurd H (by simp)
 rw [if_pos c8] at H; have c8b0 : decide (0 < (t154.length : Int)) = true := decide_eq_true c8
 have c8b1 : decide (0 < t154.length) = true := decide_eq_true (by omega)
 clear c8; by_cases c9 : (((rd_T48 t154 0).f0) == 0 && (((rd_T48 t154 0).f1) == 3 && (((rd_T48 t154 0).f2) == 1 && (((rd_T48 t154 0).f3) == 0)))) = true
 rotate_left
 ·rw [if_neg c9] at H
  have c9b0 : (((rd_T48 t154 0).f0) == 0 && (((rd_T48 t154 0).f1) == 3 && (((rd_T48 t154 0).f2) == 1 && (((rd_T48 t154 0).f3) == 0)))) = false := by simpa using c9
  (try (have c9b1 : decide (((rd_T48 t154 0).f0) = 0 && (((rd_T48 t154 0).f1) == 3 && (((rd_T48 t154 0).f2) == 1 && (((rd_T48 t154 0).f3) == 0)))) = false := by simpa using c9))
  (try (have c9b2 : (((rd_T48 t154 0).f0) == 0 && (((rd_T48 t154 0).f1) == 3 && (((rd_T48 t154 0).f2) == 1 && (((rd_T48 t154 0).f3) == 0)))) = false := by simpa using c9))
  (try (have c9b3 : ¬ (((rd_T48 t154 0).f0) = 0 && (((rd_T48 t154 0).f1) == 3 && (((rd_T48 t154 0).f2) == 1 && (((rd_T48 t154 0).f3) == 0)))) := by simpa using c9))
  clear c9; exact absurd ((Option.some.inj H).trans hrt_.out) (by decide)
 rw [if_pos c9] at H; have c9b0 : (((rd_T48 t154 0).f0) == 0 && (((rd_T48 t154 0).f1) == 3 && (((rd_T48 t154 0).f2) == 1 && (((rd_T48 t154 0).f3) == 0)))) = true := c9
 (try (have c9b1 : decide (((rd_T48 t154 0).f0) = 0 && (((rd_T48 t154 0).f1) == 3 && (((rd_T48 t154 0).f2) == 1 && (((rd_T48 t154 0).f3) == 0)))) = true := by simpa using c9))
 (try (have c9b2 : (((rd_T48 t154 0).f0) == 0 && (((rd_T48 t154 0).f1) == 3 && (((rd_T48 t154 0).f2) == 1 && (((rd_T48 t154 0).f3) == 0)))) = true := by simpa using c9))
 clear c9; by_cases c10 : 1 < (t154.length : Int)
 rotate_left
 ·rw [if_neg c10] at H
  exact absurd H (by simp)
 rw [if_pos c10] at H; have c10b0 : decide (1 < (t154.length : Int)) = true := decide_eq_true c10
 have c10b1 : decide (1 < t154.length) = true := decide_eq_true (by omega)
 clear c10; obtain rfl := Option.some.inj H
 go_enter Try.func12, Try.ntmps12
 go_wp2_with (first | ((with_reducible refine gate_dst (N := 7) rfl ?_); (try (refine gate_guard (by rfl) ?_; dsimp only)); refine Kd.R_lit k45 _ 45 ?hg (N := 7) ?hd (xs := ([(⟨32, 126, 1⟩ : S45)] : List (S45))) (inner := [.int .i32 32, .int .i32 126, .int .i64 1]) (ok := fun _ => True) (okp := fun _ => True) ?hr ?hp (fun _ hk => hk) trivial (Below.refl _ _) (Nat.le_refl _) (by simp) ?_; (case hd => rfl); (case hg => rfl); (case hr => first | (go_simp; done) | (go_simp; rfl)); (case hp => exact (Reps.c3 (show Kd.M k45 _ _ _ (⟨32, 126, 1⟩ : S45) [.int .i32 32, .int .i32 126, .int .i64 1] from (k45_mkM _ _ _ (⟨32, 126, 1⟩ : S45) )) (Reps.none _ _))); intro v143 w11 ho12 hb hg_ hnew_; clear hg_ hnew_; (first | rw [← Ny142.out] at ho12 | (simp only [Int.reduceToNat] at ho12; rw [← Ny142.out] at ho12)); have HO144 := zA.mk (Kd.zM ho12 (below_size (aL HB))); replace HB := zA.mk (below_step (aL HB) hb); clear hb ho12; obtain ⟨Ao13, co13, eo13⟩ := Kd.zL HO144.out; subst eo13) | ((with_reducible refine gate_callee (f := 14) rfl ?_); refine goesL_ (some 8) rfl rfl Try.func14 (by kernel_rfl) rfl #[.slice Ao13 y142.length co13, .int .i64 3] rfl aT ?_; (with_reducible refine (prop_MakeY.calls _ _ y142 3 t147 _ ?side1 ?side2 A2.out).mono ?_); (case side1 => exact aF HO144); (case side2 => exact (Kd.zI HO144.out).2.1); rintro e w14 ⟨gb146, ob146, gb147, ob147, rfl, hx1, hx2, hg1, hg2, hne, htb, hb⟩; refine ⟨_, rfl, ?_⟩; replace HO144 := zA.mk (Kd.zJ (Kd.R_elderB (Kd.R_elderB (aR HO144) gb146 hg1) gb147 hg2) hb); have BK146 := zA.mk (hx1); have GW146 := zA.mk ((Nat.le_trans (below_size (aL HB)) hg1 : w.heap.size ≤ gb146)); have GE146 := zA.mk ((Nat.le_trans (below_size (aL HB)) hg1 : w.heap.size ≤ gb146)); have NB146_147 := zA.mk (hne); have BK147 := zA.mk (hx2); have GW147 := zA.mk ((Nat.le_trans (below_size (aL HB)) hg2 : w.heap.size ≤ gb147)); have GE147 := zA.mk ((Nat.le_trans (below_size (aL HB)) hg2 : w.heap.size ≤ gb147)); replace HB := zA.mk (below_step (aL HB) hb); have NB147_146 := zA.mk (Ne.symm hne); have HTt147 := zA.mk (htb); clear hb hx1 hx2 hg1 hg2 hne htb) | ((with_reducible refine gate_dst (N := 17) rfl ?_); (try (refine gate_guard (by rfl) ?_; dsimp only)); refine Kd.R_lit k50 _ 50 ?hg (N := 17) ?hd (xs := ([(⟨97, 0, 1⟩ : S50), (⟨769, 1, 2⟩ : S50), (⟨32, 3, 1⟩ : S50)] : List (S50))) (inner := [.int .i32 97, .int .i64 0, .int .i64 1, .int .i32 769, .int .i64 1, .int .i64 2, .int .i32 32, .int .i64 3, .int .i64 1]) (ok := fun _ => True) (okp := fun _ => True) ?hr ?hp (fun _ hk => hk) trivial (Below.refl _ _) (Nat.le_refl _) (by simp) ?_; (case hd => rfl); (case hg => rfl); (case hr => first | (go_simp; done) | (go_simp; rfl)); (case hp => exact (Reps.c3 (show Kd.M k50 _ _ _ (⟨97, 0, 1⟩ : S50) [.int .i32 97, .int .i64 0, .int .i64 1] from (k50_mkM _ _ _ (⟨97, 0, 1⟩ : S50) )) (Reps.c3 (show Kd.M k50 _ _ _ (⟨769, 1, 2⟩ : S50) [.int .i32 769, .int .i64 1, .int .i64 2] from (k50_mkM _ _ _ (⟨769, 1, 2⟩ : S50) )) (Reps.c3 (show Kd.M k50 _ _ _ (⟨32, 3, 1⟩ : S50) [.int .i32 32, .int .i64 3, .int .i64 1] from (k50_mkM _ _ _ (⟨32, 3, 1⟩ : S50) )) (Reps.none _ _))))); intro v149 w15 ho16 hb hg_ hnew_; clear hg_ hnew_; (first | rw [← Ny148.out] at ho16 | (simp only [Int.reduceToNat] at ho16; rw [← Ny148.out] at ho16)); replace HO144 := zA.mk (Kd.zJ (aR HO144) hb); have HO150 := zA.mk (Kd.zM (Kd.R_newB (Kd.R_newB ho16 (g := gb146) (o := ob146) (aB BK146)) (g := gb147) (o := ob147) (aB BK147)) (below_size (aL HB))); replace BK146 := zA.mk (blk_below (aB BK146) hb); replace BK147 := zA.mk (blk_below (aB BK147) hb); replace HB := zA.mk (below_step (aL HB) hb); clear hb ho16) | ((with_reducible refine gate_dst (N := 18) rfl ?_); (try (refine gate_guard (by rfl) ?_; dsimp only)); refine Kd.R_lit (Kd.int .u8) _ 53 ?hg (N := 18) ?hd (xs := ([0, 0, 1, 2] : List Int)) (inner := [.int .u8 0, .int .u8 0, .int .u8 1, .int .u8 2]) (ok := fun _ => True) (okp := fun _ => True) ?hr ?hp (fun _ hk => hk) trivial (Below.refl _ _) (Nat.le_refl _) (by simp) ?_; (case hd => rfl); (case hg => rfl); (case hr => first | (go_simp; done) | (go_simp; rfl)); (case hp => exact (Reps.one (show Kd.M (Kd.int .u8) _ _ _ 0 [.int .u8 0] from rfl) (Reps.one (show Kd.M (Kd.int .u8) _ _ _ 0 [.int .u8 0] from rfl) (Reps.one (show Kd.M (Kd.int .u8) _ _ _ 1 [.int .u8 1] from rfl) (Reps.one (show Kd.M (Kd.int .u8) _ _ _ 2 [.int .u8 2] from rfl) (Reps.none _ _)))))); intro v152 w17 ho18 hb hg_ hnew_; clear hg_ hnew_; (first | rw [← Ny151.out] at ho18 | (simp only [Int.reduceToNat] at ho18; rw [← Ny151.out] at ho18)); replace HO144 := zA.mk (Kd.zJ (aR HO144) hb); replace HO150 := zA.mk (Kd.zJ (aR HO150) hb); have HO153 := zA.mk (Kd.zM (Kd.R_newB (Kd.R_newB ho18 (g := gb146) (o := ob146) (aB BK146)) (g := gb147) (o := ob147) (aB BK147)) (below_size (aL HB))); replace BK146 := zA.mk (blk_below (aB BK146) hb); replace BK147 := zA.mk (blk_below (aB BK147) hb); replace HB := zA.mk (below_step (aL HB) hb); clear hb ho18; obtain ⟨Ao19, co19, eo19⟩ := Kd.zL HO150.out; subst eo19; obtain ⟨Ao20, co20, eo20⟩ := Kd.zL HO153.out; subst eo20) | ((with_reducible refine gate_callee (f := 17) rfl ?_); refine goesL_ (some 20) rfl rfl Try.func17 (by kernel_rfl) rfl #[.slice Ao19 y148.length co19, .slice Ao20 y151.length co20, .pointer (some ⟨gb146, 0, none⟩)] rfl aT ?_; (with_reducible refine (cells_Make.calls k _ _ y148 _ _ y151 (.pointer (some ⟨gb146, 0, none⟩)) t147 t154 t155 _ ?side1 ?side2 ?side3 ?side4 ?side5 A3.out).mono ?_); (case side1 => exact aF HO150); (case side2 => exact (Kd.zI HO150.out).2.1); (case side3 => exact aF HO153); (case side4 => exact (Kd.zI HO153.out).2.1); (case side5 => exact TabO.at HTt147.out (aB BK146) (aB BK147)); rintro e w21 ⟨v156, v158, rfl, ho0, ho1, hb⟩; refine ⟨_, rfl, ?_⟩; replace HO144 := zA.mk (Kd.zJ (aR HO144) hb); replace HO150 := zA.mk (Kd.zJ (aR HO150) hb); replace HO153 := zA.mk (Kd.zJ (aR HO153) hb); have HO157 := zA.mk (Kd.zM (Kd.R_newB (Kd.R_newB ho0 (g := gb146) (o := ob146) (aB BK146)) (g := gb147) (o := ob147) (aB BK147)) (below_size (aL HB))); have HO159 := zA.mk (Kd.zM (Kd.R_newB (Kd.R_newB ho1 (g := gb146) (o := ob146) (aB BK146)) (g := gb147) (o := ob147) (aB BK147)) (below_size (aL HB))); replace BK146 := zA.mk (blk_below (aB BK146) hb); replace BK147 := zA.mk (blk_below (aB BK147) hb); replace HB := zA.mk (below_step (aL HB) hb); (try clear hb); (try clear hb2); (try clear hk); (try clear hi); (try clear ho0); (try clear ho1); obtain ⟨Ao22, co22, eo22⟩ := Kd.zL HO157.out; subst eo22; obtain ⟨Ao23, co23, eo23⟩ := Kd.zL HO159.out; subst eo23; have p160 : 0 ≤ (1 : Int) := (by omega); have q160 : 1 < (t155.length : Int) := aD; obtain ⟨ad160, e160, hx160_0⟩ := Kd.at_int (Kd.zI HO159.out).2.2 1 p160 q160; cases e160; (try simp only [show (1 : Int).toNat = 1 from rfl, Nat.reduceMul, Nat.reduceEqDiff, Go.Addr.add, ↓reduceIte] at hx160_0); have qi160 : (1 < t155.length) = True := eq_true (by omega); (try rw [show ((1 : Int)).toNat = 1 from rfl] at hx160_0); replace p160 := eq_true p160; replace q160 := eq_true q160; have p161 : 0 ≤ (0 : Int) := (by omega); have q161 : 0 < (t154.length : Int) := aD; obtain ⟨ad161, e161, hx161_0, hx161_1, hx161_2, hx161_3⟩ := at_T48 (Kd.zI HO157.out).2.2 0 p161 q161; cases e161; have qi161 : (0 < t154.length) = True := eq_true (by omega); (try rw [show ((0 : Int)).toNat = 0 from rfl] at hx161_0); (try rw [show 0 * 4 = 0 from rfl] at hx161_0); (try rw [Addr.add_zero'] at hx161_0); (try rw [show ((0 : Int)).toNat = 0 from rfl] at hx161_1); (try rw [show 0 * 4 = 0 from rfl] at hx161_1); (try rw [Addr.add_zero'] at hx161_1); (try rw [show ((0 : Int)).toNat = 0 from rfl] at hx161_2); (try rw [show 0 * 4 = 0 from rfl] at hx161_2); (try rw [Addr.add_zero'] at hx161_2); (try rw [show ((0 : Int)).toNat = 0 from rfl] at hx161_3); (try rw [show 0 * 4 = 0 from rfl] at hx161_3); (try rw [Addr.add_zero'] at hx161_3); replace p161 := eq_true p161; replace q161 := eq_true q161; have p162 : 0 ≤ (1 : Int) := (by omega); have q162 : 1 < (t154.length : Int) := aD; obtain ⟨ad162, e162, hx162_0, hx162_1, hx162_2, hx162_3⟩ := at_T48 (Kd.zI HO157.out).2.2 1 p162 q162; obtain rfl : ad161 = ad162 := (by injection e162); (try simp only [show (1 : Int).toNat = 1 from rfl, Nat.reduceMul, Nat.reduceEqDiff, Go.Addr.add, ↓reduceIte] at hx162_0); (try simp only [show (1 : Int).toNat = 1 from rfl, Nat.reduceMul, Nat.reduceEqDiff, Go.Addr.add, ↓reduceIte] at hx162_1); (try simp only [show (1 : Int).toNat = 1 from rfl, Nat.reduceMul, Nat.reduceEqDiff, Go.Addr.add, ↓reduceIte] at hx162_2); (try simp only [show (1 : Int).toNat = 1 from rfl, Nat.reduceMul, Nat.reduceEqDiff, Go.Addr.add, ↓reduceIte] at hx162_3); have qi162 : (1 < t154.length) = True := eq_true (by omega); (try rw [show ((1 : Int)).toNat = 1 from rfl] at hx162_0); (try rw [show 1 * 4 = 4 from rfl] at hx162_0); (try rw [show ((1 : Int)).toNat = 1 from rfl] at hx162_1); (try rw [show 1 * 4 = 4 from rfl] at hx162_1); (try rw [show ((1 : Int)).toNat = 1 from rfl] at hx162_2); (try rw [show 1 * 4 = 4 from rfl] at hx162_2); (try rw [show ((1 : Int)).toNat = 1 from rfl] at hx162_3); (try rw [show 1 * 4 = 4 from rfl] at hx162_3); replace p162 := eq_true p162; replace q162 := eq_true q162))
 go_ret
 exact ⟨aX, aL HB⟩
mutual
def stanzalaw02_Right.l0 : Nat → List (S45) → Int → List (S45) → Int → Int → Option ((List (S45)))
 | 0, _, _, _, _, _ => none
 | k + 1, x0, x1, x5, x6, x7 => if x7 < (x0.length : Int) then (stanzalaw02_Right.j1 k x0 x1 x5 x6 x7 (decide (x7 < 200))) else (stanzalaw02_Right.j1 k x0 x1 x5 x6 x7 false)
def stanzalaw02_Right.j1 : Nat → List (S45) → Int → List (S45) → Int → Int → Bool → Option ((List (S45)))
 | 0, _, _, _, _, _, _ => none
 | k + 1, x0, x1, x5, x6, x7, x17 => if x17 = true then (if 0 ≤ x7 then (if x7 < (x0.length : Int) then (if (wrap64 ((wrap64 ((wrap64 (x6 + 1)) + ((((rd_T45 x0 x7).f0) % 4294967296) % 3000))) + ((((rd_T45 x0 x7).f1) % 4294967296) % 600))) > 1114111 then (some x5) else (if (IntKind.u64.wrap (x1)) = 0 then (none) else (if x5.length < 8796093022208 then (stanzalaw02_Right.l0 k x0 x1 (x5 ++ [(⟨wrap32 (wrap64 ((wrap64 (x6 + 1)) + ((((rd_T45 x0 x7).f0) % 4294967296) % 3000))), wrap32 (wrap64 ((wrap64 ((wrap64 (x6 + 1)) + ((((rd_T45 x0 x7).f0) % 4294967296) % 3000))) + ((((rd_T45 x0 x7).f1) % 4294967296) % 600))), wrap64 (Int.tmod (IntKind.u64.wrap ((rd_T45 x0 x7).f2)) (IntKind.u64.wrap (x1)))⟩ : S45)]) (wrap64 ((wrap64 ((wrap64 (x6 + 1)) + ((((rd_T45 x0 x7).f0) % 4294967296) % 3000))) + ((((rd_T45 x0 x7).f1) % 4294967296) % 600))) (wrap64 (x7 + 1))) else (none)))) else (none)) else (none)) else (some x5)
end
def stanzalaw02_Right.f (k : Nat) (l0 : List (S45)) (a1 : Int) : Option ((List (S45))) := stanzalaw02_Right.l0 k l0 a1 ([] : List (S45)) (-1) 0
theorem stanzalaw02_Right.mono_l : ∀ k, (∀ y0 y1 y2 y3 y4, LeO (stanzalaw02_Right.l0 k y0 y1 y2 y3 y4) (stanzalaw02_Right.l0 (k + 1) y0 y1 y2 y3 y4)) ∧ (∀ y0 y1 y2 y3 y4 y5, LeO (stanzalaw02_Right.j1 k y0 y1 y2 y3 y4 y5) (stanzalaw02_Right.j1 (k + 1) y0 y1 y2 y3 y4 y5))
 | 0 => ⟨fun _ _ _ _ _ r h => by simp [stanzalaw02_Right.l0] at h, fun _ _ _ _ _ _ r h => by simp [stanzalaw02_Right.j1] at h⟩
 | k + 1 => by
  obtain ⟨ih0, ih1⟩ := stanzalaw02_Right.mono_l k; refine ⟨?_, ?_⟩
  ·intro y0 y1 y2 y3 y4
   unfold stanzalaw02_Right.l0
   repeat' (with_reducible first | exact ih0 _ _ _ _ _ | exact ih1 _ _ _ _ _ _ | exact LeO.refl _ | exact LeO.none _ | refine LeO.ite ?_ ?_ | refine LeO.bind ?_ (fun _ => ?_))
  ·intro y0 y1 y2 y3 y4 y5
   unfold stanzalaw02_Right.j1
   repeat' (with_reducible first | exact ih0 _ _ _ _ _ | exact ih1 _ _ _ _ _ _ | exact LeO.refl _ | exact LeO.none _ | refine LeO.ite ?_ ?_ | refine LeO.bind ?_ (fun _ => ?_))
theorem stanzalaw02_Right.mono : ∀ a0 a1 k, LeO (stanzalaw02_Right.f k a0 a1) (stanzalaw02_Right.f (k + 1) a0 a1) := by
 intro a0 a1 k
 obtain ⟨ih0, ih1⟩ := stanzalaw02_Right.mono_l k; unfold stanzalaw02_Right.f
 repeat' (with_reducible first | exact ih0 _ _ _ _ _ | exact ih1 _ _ _ _ _ _ | exact LeO.refl _ | exact LeO.none _ | refine LeO.ite ?_ ?_ | refine LeO.bind ?_ (fun _ => ?_))
set_option maxHeartbeats 8000000 in
set_option maxRecDepth 100000 in
theorem stanzalaw02_Right.calls (k : Nat) (A0 : Option Addr) (c0 : Nat) (l0 : List (S45)) (a1 : Int) (r : List (S45)) (w : World) (hr0 : Kd.C k45 w A0 l0.length l0) (hc0 : l0.length ≤ c0) (h : stanzalaw02_Right.f k l0 a1 = some r) :
  Calls Try.prog 13 #[.slice A0 l0.length c0, .int .i64 a1] w fun e w' => ∃ v0_ : Value, e = .returned (v0_) ∧ Kd.R k45 45 w' w.heap.size (fun _ => True) v0_ r ∧ Below w.heap.size w w' := by
 have hu45 := Try.underlying45; have HR0 := zA.mk hr0; have HC0 := zA.mk hc0; clear hr0 hc0; have HB := zA.mk (Below.refl w.heap.size w); have H : (stanzalaw02_Right.l0 k l0 a1 ([] : List (S45)) (-1) 0) = some r := h
 clear h; have H' := zA.mk H
 clear H; go_enter Try.func13, Try.ntmps13
 go_wp2
 go_loopg [5, 6, 7] k (fun kq v5 v6 v7 w' => ∃ (x5_1 : List (S45)) (x6_1 : Int) (x7_1 : Int), v6 = .int .i64 x6_1 ∧ v7 = .int .i64 x7_1 ∧ zA (stanzalaw02_Right.l0 kq l0 a1 x5_1 x6_1 x7_1 = some r) ∧ zA (kq ≤ k) ∧ zA (Kd.R k45 45 w' w.heap.size (fun _ => True) v5 x5_1) ∧ zA (Below w.heap.size w w'))
 case atStart => exact ⟨(([] : List (S45))), ((-1)), (0), aZ, aZ, H', ⟨Nat.le_refl _⟩, ⟨by first | exact Kd.R_nil _ _ _ _ _ | exact Kd.N_nil _ _ _ _ _ | exact Kd.V_nil _ _ _ _ _ | exact Kd.Q_nil _ _ _ _ _ | exact Kd.S_nil _ _ _ _ _⟩, ⟨aL HB⟩⟩
 clear H'; obtain ⟨x5_1, x6_1, x7_1, rfl, rfl, HA, HK1, HO_5, HB⟩ := hrel; cases gk with
 | zero => exact absurd HA.out (by simp [stanzalaw02_Right.l0])
 | succ k1 =>
  have H := HA.out; clear HA; simp only [stanzalaw02_Right.l0] at H; have HC3 := zA.mk H; clear H; go_upto_region 4 with (fail)
  go_cut [17] (fun v17 wc => ∃ (kq : Nat) (x17_2 : Bool), v17 = .bool x17_2 ∧ zA (stanzalaw02_Right.j1 kq l0 a1 x5_1 x6_1 x7_1 x17_2 = some r) ∧ zA (kq ≤ k1) ∧ zA (Kd.R k45 45 wc w.heap.size (fun _ => True) u5 x5_1) ∧ zA (Below w.heap.size w wc))
  case first =>
   have H := HC3.out; clear HC3; by_cases c4 : x7_1 < (l0.length : Int)
   ·rw [if_pos c4] at H
    have c4b0 : decide (x7_1 < (l0.length : Int)) = true := decide_eq_true c4
    clear c4; (first | rw [c4b0] | (simp only [i64_w, i32_w]; rw [c4b0]) | skip)
    have H' := zA.mk H
    clear H; go_wp2
    go_meet
    case rel => exact ⟨_, (decide (x7_1 < 200)), aZ, H', ⟨by have := HK1.out; first | omega | exact Nat.le_refl _⟩, ⟨aR HO_5⟩, ⟨aL HB⟩⟩
   rw [if_neg c4] at H; have c4b0 : decide (x7_1 < (l0.length : Int)) = false := decide_eq_false c4
   clear c4; (first | rw [c4b0] | (simp only [i64_w, i32_w]; rw [c4b0]) | skip)
   have H' := zA.mk H
   clear H; go_wp2
   go_meet
   case rel => exact ⟨_, (false), aZ, H', ⟨by have := HK1.out; first | omega | exact Nat.le_refl _⟩, ⟨aR HO_5⟩, ⟨aL HB⟩⟩
  clear HC3; obtain ⟨kq, x17_2, rfl, HA, HJ2, HO_5, HB⟩ := hcut; cases kq with
  | zero => exact absurd HA.out (by simp [stanzalaw02_Right.j1])
  | succ kj2 =>
   have H := HA.out; clear HA; simp only [stanzalaw02_Right.j1] at H; by_cases c5 : x17_2 = true
   rotate_left
   ·replace c5 := Bool.eq_false_iff.mpr c5
    subst c5; have H1 : (some x5_1) = some r := by rw [if_neg (show ¬ (false = true) by decide)] at H; exact H
    clear H; have H := H1; clear H1; obtain rfl := Option.some.inj H
    go_wp2
    go_ret
    exact ⟨_, aX, aR HO_5, aL HB⟩
   subst c5; have H1 : (if 0 ≤ x7_1 then (if x7_1 < (l0.length : Int) then (if (wrap64 ((wrap64 ((wrap64 (x6_1 + 1)) + ((((rd_T45 l0 x7_1).f0) % 4294967296) % 3000))) + ((((rd_T45 l0 x7_1).f1) % 4294967296) % 600))) > 1114111 then (some x5_1) else (if (IntKind.u64.wrap (a1)) = 0 then (none) else (if x5_1.length < 8796093022208 then (stanzalaw02_Right.l0 kj2 l0 a1 (x5_1 ++ [(⟨wrap32 (wrap64 ((wrap64 (x6_1 + 1)) + ((((rd_T45 l0 x7_1).f0) % 4294967296) % 3000))), wrap32 (wrap64 ((wrap64 ((wrap64 (x6_1 + 1)) + ((((rd_T45 l0 x7_1).f0) % 4294967296) % 3000))) + ((((rd_T45 l0 x7_1).f1) % 4294967296) % 600))), wrap64 (Int.tmod (IntKind.u64.wrap ((rd_T45 l0 x7_1).f2)) (IntKind.u64.wrap (a1)))⟩ : S45)]) (wrap64 ((wrap64 ((wrap64 (x6_1 + 1)) + ((((rd_T45 l0 x7_1).f0) % 4294967296) % 3000))) + ((((rd_T45 l0 x7_1).f1) % 4294967296) % 600))) (wrap64 (x7_1 + 1))) else (none)))) else (none)) else (none)) = some r := by rw [if_pos rfl] at H; exact H
   clear H; have H := H1; clear H1; by_cases c6 : 0 ≤ x7_1
   rotate_left
   ·rw [if_neg c6] at H
    exact absurd H (by simp)
   rw [if_pos c6] at H; have c6b0 : decide (0 ≤ x7_1) = true := decide_eq_true c6
   clear c6; by_cases c7 : x7_1 < (l0.length : Int)
   rotate_left
   ·rw [if_neg c7] at H
    exact absurd H (by simp)
   rw [if_pos c7] at H; have c7b0 : decide (x7_1 < (l0.length : Int)) = true := decide_eq_true c7
   clear c7; by_cases c8 : (wrap64 ((wrap64 ((wrap64 (x6_1 + 1)) + ((((rd_T45 l0 x7_1).f0) % 4294967296) % 3000))) + ((((rd_T45 l0 x7_1).f1) % 4294967296) % 600))) > 1114111
   ·rw [if_pos c8] at H
    have c8b0 : decide (1114111 < (wrap64 ((wrap64 ((wrap64 (x6_1 + 1)) + ((((rd_T45 l0 x7_1).f0) % 4294967296) % 3000))) + ((((rd_T45 l0 x7_1).f1) % 4294967296) % 600)))) = true := decide_eq_true c8
    clear c8; obtain rfl := Option.some.inj H
    have p163 : 0 ≤ (x7_1 : Int) := aD
    have q163 : x7_1 < (l0.length : Int) := aD
    obtain ⟨ad163, e163, hx163_0, hx163_1, hx163_2⟩ := at_T45 HR0.out x7_1 p163 q163; cases e163
    replace hx163_0 := (HB.out.cell (World.block_lt_of_cell? w _ hx163_0)).trans hx163_0; replace hx163_1 := (HB.out.cell (World.block_lt_of_cell? w _ hx163_1)).trans hx163_1; replace hx163_2 := (HB.out.cell (World.block_lt_of_cell? w _ hx163_2)).trans hx163_2; replace p163 := eq_true p163; replace q163 := eq_true q163; have p164 : 0 ≤ (x7_1 : Int) := aD
    have q164 : x7_1 < (l0.length : Int) := aD
    obtain ⟨ad164, e164, hx164_0, hx164_1, hx164_2⟩ := at_T45 HR0.out x7_1 p164 q164; obtain rfl : ad163 = ad164 := (by injection e164)
    replace hx164_0 := (HB.out.cell (World.block_lt_of_cell? w _ hx164_0)).trans hx164_0; replace hx164_1 := (HB.out.cell (World.block_lt_of_cell? w _ hx164_1)).trans hx164_1; replace hx164_2 := (HB.out.cell (World.block_lt_of_cell? w _ hx164_2)).trans hx164_2; replace p164 := eq_true p164; replace q164 := eq_true q164; go_wp2
    go_ret
    exact ⟨_, aX, aR HO_5, aL HB⟩
   rw [if_neg c8] at H; have c8b0 : decide (1114111 < (wrap64 ((wrap64 ((wrap64 (x6_1 + 1)) + ((((rd_T45 l0 x7_1).f0) % 4294967296) % 3000))) + ((((rd_T45 l0 x7_1).f1) % 4294967296) % 600)))) = false := decide_eq_false c8
   clear c8; by_cases c9 : (IntKind.u64.wrap (a1)) = 0
   ·rw [if_pos c9] at H
    exact absurd H (by simp)
   rw [if_neg c9] at H; have c9b0 : ((IntKind.u64.wrap (a1)) == 0) = false := beq_eq_false_iff_ne.mpr c9
   have c9b1 : ((IntKind.u64.wrap (a1)) != 0) = true := bne_iff_ne.mpr c9
   by_cases c10 : x5_1.length < 8796093022208
   rotate_left
   ·rw [if_neg c10] at H
    exact absurd H (by simp)
   rw [if_pos c10] at H; have LMc10 := zA.mk c10; clear c10; obtain ⟨y166, hy166⟩ : ∃ y_ : List (S45), y_ = (x5_1 ++ [(⟨wrap32 (wrap64 ((wrap64 (x6_1 + 1)) + ((((rd_T45 l0 x7_1).f0) % 4294967296) % 3000))), wrap32 (wrap64 ((wrap64 ((wrap64 (x6_1 + 1)) + ((((rd_T45 l0 x7_1).f0) % 4294967296) % 3000))) + ((((rd_T45 l0 x7_1).f1) % 4294967296) % 600))), wrap64 (Int.tmod (IntKind.u64.wrap ((rd_T45 l0 x7_1).f2)) (IntKind.u64.wrap (a1)))⟩ : S45)]) := ⟨_, rfl⟩; replace H : (stanzalaw02_Right.l0 kj2 l0 a1 y166 (wrap64 ((wrap64 ((wrap64 (x6_1 + 1)) + ((((rd_T45 l0 x7_1).f0) % 4294967296) % 3000))) + ((((rd_T45 l0 x7_1).f1) % 4294967296) % 600))) (wrap64 (x7_1 + 1))) = some r := by first | (rw [hy166]; with_reducible exact H) | (have H2_ := (Option.bind_some _ _).symm.trans H; rw [hy166]; with_reducible exact H2_) | (have H2_ := (Option.bind_some _ _).symm.trans H; with_reducible exact H2_) | with_reducible exact H | (rw [hy166]; exact H) | exact H
   have Ny166 := zA.mk hy166; clear hy166; have H' := zA.mk H
   clear H; have p163 : 0 ≤ (x7_1 : Int) := aD
   have q163 : x7_1 < (l0.length : Int) := aD
   obtain ⟨ad163, e163, hx163_0, hx163_1, hx163_2⟩ := at_T45 HR0.out x7_1 p163 q163; cases e163
   replace hx163_0 := (HB.out.cell (World.block_lt_of_cell? w _ hx163_0)).trans hx163_0; replace hx163_1 := (HB.out.cell (World.block_lt_of_cell? w _ hx163_1)).trans hx163_1; replace hx163_2 := (HB.out.cell (World.block_lt_of_cell? w _ hx163_2)).trans hx163_2; replace p163 := eq_true p163; replace q163 := eq_true q163; have p164 : 0 ≤ (x7_1 : Int) := aD
   have q164 : x7_1 < (l0.length : Int) := aD
   obtain ⟨ad164, e164, hx164_0, hx164_1, hx164_2⟩ := at_T45 HR0.out x7_1 p164 q164; obtain rfl : ad163 = ad164 := (by injection e164)
   replace hx164_0 := (HB.out.cell (World.block_lt_of_cell? w _ hx164_0)).trans hx164_0; replace hx164_1 := (HB.out.cell (World.block_lt_of_cell? w _ hx164_1)).trans hx164_1; replace hx164_2 := (HB.out.cell (World.block_lt_of_cell? w _ hx164_2)).trans hx164_2; replace p164 := eq_true p164; replace q164 := eq_true q164; have p165 : 0 ≤ (x7_1 : Int) := aD
   have q165 : x7_1 < (l0.length : Int) := aD
   obtain ⟨ad165, e165, hx165_0, hx165_1, hx165_2⟩ := at_T45 HR0.out x7_1 p165 q165; obtain rfl : ad163 = ad165 := (by injection e165)
   replace hx165_0 := (HB.out.cell (World.block_lt_of_cell? w _ hx165_0)).trans hx165_0; replace hx165_1 := (HB.out.cell (World.block_lt_of_cell? w _ hx165_1)).trans hx165_1; replace hx165_2 := (HB.out.cell (World.block_lt_of_cell? w _ hx165_2)).trans hx165_2; replace p165 := eq_true p165; replace q165 := eq_true q165; go_wp2_with (first | ((with_reducible refine gate_builtin (b := .append) (xs := #[.tmp 43, .tmp 59]) rfl ?_); at_builtin; refine Kd.R_append k45 (w0 := w) w.heap.size rfl (.tmp 43) (.tmp 59) 23 45 (.agg #[(.int .i32 0), (.int .i32 0), (.int .i64 0)]) 16 rfl Try.underlying23 info45 rfl (by decide) (by omega) u5 x5_1 (⟨wrap32 (wrap64 ((wrap64 (x6_1 + 1)) + ((((rd_T45 l0 x7_1).f0) % 4294967296) % 3000))), wrap32 (wrap64 ((wrap64 ((wrap64 (x6_1 + 1)) + ((((rd_T45 l0 x7_1).f0) % 4294967296) % 3000))) + ((((rd_T45 l0 x7_1).f1) % 4294967296) % 600))), wrap64 (Int.tmod (IntKind.u64.wrap ((rd_T45 l0 x7_1).f2)) (IntKind.u64.wrap (a1)))⟩ : S45) [.int .i32 (wrap32 (wrap64 ((wrap64 (x6_1 + 1)) + ((((rd_T45 l0 x7_1).f0) % 4294967296) % 3000)))), .int .i32 (wrap32 (wrap64 ((wrap64 ((wrap64 (x6_1 + 1)) + ((((rd_T45 l0 x7_1).f0) % 4294967296) % 3000))) + ((((rd_T45 l0 x7_1).f1) % 4294967296) % 600)))), .int .i64 (wrap64 (Int.tmod (IntKind.u64.wrap ((rd_T45 l0 x7_1).f2)) (IntKind.u64.wrap (a1))))] (fun _ => True) (fun _ => False) rfl rfl ?aP (fun _ hk => hk.elim) ?aF ?aO ?aB ?aS ?aL ?_; (case aP => exact k45_mkM _ _ _ (⟨wrap32 (wrap64 ((wrap64 (x6_1 + 1)) + ((((rd_T45 l0 x7_1).f0) % 4294967296) % 3000))), wrap32 (wrap64 ((wrap64 ((wrap64 (x6_1 + 1)) + ((((rd_T45 l0 x7_1).f0) % 4294967296) % 3000))) + ((((rd_T45 l0 x7_1).f1) % 4294967296) % 600))), wrap64 (Int.tmod (IntKind.u64.wrap ((rd_T45 l0 x7_1).f2)) (IntKind.u64.wrap (a1)))⟩ : S45)); (case aB => exact (aL HB)); (case aF => exact (fun _ _ => trivial)); (case aO => exact (aR HO_5)); (case aS => exact (below_size (aL HB))); (case aL => have := LMc10.out; omega); intro v167 w11 ho hb hg hat; rw [← Ny166.out] at ho; replace HB := zA.mk (hb); have HO168 := zA.mk (ho); clear HO_5; clear ho hb hg hat))
   go_roundg kj2
   case measure => have := HK1.out; have := HJ2.out; omega
   case rel => exact ⟨(y166), (wrap64 ((wrap64 ((wrap64 (x6_1 + 1)) + ((((rd_T45 l0 x7_1).f0) % 4294967296) % 3000))) + ((((rd_T45 l0 x7_1).f1) % 4294967296) % 600))), (wrap64 (x7_1 + 1)), aZ, aZ, H', ⟨by have := HK1.out; have := HJ2.out; omega⟩, ⟨aR HO168⟩, ⟨aL HB⟩⟩
end Go.Proofs.Ytigajcipjklknaa.F
end
