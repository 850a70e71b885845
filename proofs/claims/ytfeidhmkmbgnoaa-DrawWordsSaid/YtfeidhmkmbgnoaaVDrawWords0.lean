/- Printed by a program: Lean functions that answer as the Go functions do, and the proofs of it. -/
import Derived.Test.YtfeidhmkmbgnoaaProg
import Derived.Below
import Derived.Deep.Draws
import Derived.Deep.AppendLies
import Derived.Maps.AppendAt
import Derived.OwnWalk
import Derived.Laws.BytesArg
import Derived.Laws.MakeOwn
import Derived.Laws.OwnMore
import Derived.Deep.OwnRows
import Derived.Tactics
import Derived.Lib.ConvBytes
import Derived.Laws.Slices
import Derived.WalkKit
import Derived.KernelRfl
import Derived.RowKit3
import Derived.Deep.LoopGhost
import Derived.Deep.QuietTactic
import Derived.BigQuiet
import Derived.WideLaws
import Derived.Deep.DeepCutAuto
import Derived.Deep.CutBlock
import Derived.Deep.RegionHeld3
import Derived.Laws.Rows
import Derived.Lib.AppendStr
import Derived.ArgAppend
import Derived.Laws.IdiomCopy
import Derived.OrdersHeld
import Derived.Laws.BitsLemmas
import Derived.RowKit
import Derived.Laws.FloatArith
import Derived.Laws.CopyOwn
import Derived.Deep.RegionLaw
import Derived.Laws.MathBits
import Derived.Test.YtfeidhmkmbgnoaaXDrawWords0
section
namespace Go.Proofs.Ytfeidhmkmbgnoaa.F
open Go.RowKit Go.Proofs.YtfeidhmkmbgnoaaW.PrintWords Go.Proofs.YtfeidhmkmbgnoaaW.PrintLast Go.Proofs.YtfeidhmkmbgnoaaW.PrintMore
attribute [local go_sem] max2_int min2_int max_two min_two max_three min_three max_four min_four   -- for this text's walks alone
set_option linter.unusedVariables false
set_option linter.unusedSimpArgs false
def errW : Option Int → Value
 | none => .nilIface
 | some c => .iface 0 (.int .i64 c)
theorem errW_none : errW none = .nilIface := rfl
theorem errW_some (c : Int) : errW (some c) = .iface 0 (.int .i64 c) := rfl
theorem info3 : (Try.prog.info? 3).map (fun i => (i.zero, i.size, i.bytes)) = some (some (.int .i64 0), 1, 8) := by kernel_rfl
theorem info5 : (Try.prog.info? 5).map (fun i => (i.zero, i.size, i.bytes)) = some (some (.int .u8 0), 1, 1) := by kernel_rfl
theorem info43 : (Try.prog.info? 43).map (fun i => (i.zero, i.size, i.bytes)) = some (some (.int .u8 0), 1, 1) := by kernel_rfl
theorem info45 : (Try.prog.info? 45).map (fun i => (i.zero, i.size, i.bytes)) = some (some (.agg #[(.int .i64 0), (.int .i64 0), (.int .i64 0), (.int .u8 0)]), 4, 32) := by kernel_rfl
theorem info49 : (Try.prog.info? 49).map (fun i => (i.zero, i.size, i.bytes)) = some (some (.agg #[(.int .u8 0), (.int .u8 0), (.int .u8 0), (.int .u8 0)]), 4, 4) := by kernel_rfl
theorem info51 : (Try.prog.info? 51).map (fun i => (i.zero, i.size, i.bytes)) = some (some (.slice none 0 0), 1, 24) := by kernel_rfl
theorem info61 : (Try.prog.info? 61).map (fun i => (i.zero, i.size, i.bytes)) = some (some (.agg #[(.int .i64 0), (.int .i64 0), (.int .i64 0), (.int .u8 0)]), 4, 32) := by kernel_rfl
structure S49 where
 f0 : Int
 f1 : Int
 f2 : Int
 f3 : Int
def z49 : S49 := ⟨(0 : Int), (0 : Int), (0 : Int), (0 : Int)⟩
def k49 : Kd S49 := Kd.iso (Kd.pair (Kd.int .u8) (Kd.pair (Kd.int .u8) (Kd.pair (Kd.int .u8) (Kd.int .u8)))) (fun x : S49 => (x.f0, x.f1, x.f2, x.f3))
theorem k49_open {w : World} {x : S49} {cs : List Value} (h : k49.K w x cs) : cs = [.int .u8 x.f0, .int .u8 x.f1, .int .u8 x.f2, .int .u8 x.f3] := by
 obtain ⟨_, _, rfl, rfl, ⟨_, _, rfl, rfl, ⟨_, _, rfl, rfl, rfl⟩⟩⟩ := h; exact rfl
theorem k49_openM {w : World} {base : Nat} {ok : Nat → Prop} {x : S49} {cs : List Value} (h : k49.M w base ok x cs) : cs = [.int .u8 x.f0, .int .u8 x.f1, .int .u8 x.f2, .int .u8 x.f3] := by
 obtain ⟨_, _, rfl, rfl, ⟨_, _, rfl, rfl, ⟨_, _, rfl, rfl, rfl⟩⟩⟩ := h; exact rfl
theorem k49_mk (w : World) (x : S49)  : k49.K w x [.int .u8 x.f0, .int .u8 x.f1, .int .u8 x.f2, .int .u8 x.f3] := ⟨[.int .u8 x.f0], [.int .u8 x.f1, .int .u8 x.f2, .int .u8 x.f3], rfl, rfl, ⟨[.int .u8 x.f1], [.int .u8 x.f2, .int .u8 x.f3], rfl, rfl, ⟨[.int .u8 x.f2], [.int .u8 x.f3], rfl, rfl, rfl⟩⟩⟩
theorem k49_mkM (w : World) (base : Nat) (ok : Nat → Prop) (x : S49)  : k49.M w base ok x [.int .u8 x.f0, .int .u8 x.f1, .int .u8 x.f2, .int .u8 x.f3] := ⟨[.int .u8 x.f0], [.int .u8 x.f1, .int .u8 x.f2, .int .u8 x.f3], rfl, rfl, ⟨[.int .u8 x.f1], [.int .u8 x.f2, .int .u8 x.f3], rfl, rfl, ⟨[.int .u8 x.f2], [.int .u8 x.f3], rfl, rfl, rfl⟩⟩⟩
def rd_T49 (xs : List S49) (i : Int) : S49 := xs.getD i.toNat z49
theorem at_T49 {w : World} {A : Option Addr} {n : Nat} {xs : List S49} (h : Kd.C k49 w A n xs) (i : Int) (h0 : 0 ≤ i) (h1 : i < n) : ∃ ad , A = some ad ∧ w.cell? (ad.add (i.toNat * 4)) = some (.int .u8 (rd_T49 xs i).f0) ∧ w.cell? ⟨(ad.add (i.toNat * 4)).block, (ad.add (i.toNat * 4)).off + 1, none⟩ = some (.int .u8 (rd_T49 xs i).f1) ∧ w.cell? ⟨(ad.add (i.toNat * 4)).block, (ad.add (i.toNat * 4)).off + 2, none⟩ = some (.int .u8 (rd_T49 xs i).f2) ∧ w.cell? ⟨(ad.add (i.toNat * 4)).block, (ad.add (i.toNat * 4)).off + 3, none⟩ = some (.int .u8 (rd_T49 xs i).f3) := by
 obtain ⟨ad, c, e, _, hK, hc0⟩ := Kd.C_get h z49 i h0 h1; have hc : ∀ j u, c[j]? = some u → w.cell? (ad.add (i.toNat * 4 + j)) = some u := hc0
 obtain rfl := k49_open hK
 exact ⟨ad, e, hc 0 _ rfl, by rw [← add_field _ _ 1 (by omega)]; exact hc 1 _ rfl, by rw [← add_field _ _ 2 (by omega)]; exact hc 2 _ rfl, by rw [← add_field _ _ 3 (by omega)]; exact hc 3 _ rfl⟩
structure S61 where
 f0 : Int
 f1 : Int
 f2 : Int
 f3 : Int
def z61 : S61 := ⟨(0 : Int), (0 : Int), (0 : Int), (0 : Int)⟩
def k61 : Kd S61 := Kd.iso (Kd.pair (Kd.int .i64) (Kd.pair (Kd.int .i64) (Kd.pair (Kd.int .i64) (Kd.int .u8)))) (fun x : S61 => (x.f0, x.f1, x.f2, x.f3))
theorem k61_open {w : World} {x : S61} {cs : List Value} (h : k61.K w x cs) : cs = [.int .i64 x.f0, .int .i64 x.f1, .int .i64 x.f2, .int .u8 x.f3] := by
 obtain ⟨_, _, rfl, rfl, ⟨_, _, rfl, rfl, ⟨_, _, rfl, rfl, rfl⟩⟩⟩ := h; exact rfl
theorem k61_openM {w : World} {base : Nat} {ok : Nat → Prop} {x : S61} {cs : List Value} (h : k61.M w base ok x cs) : cs = [.int .i64 x.f0, .int .i64 x.f1, .int .i64 x.f2, .int .u8 x.f3] := by
 obtain ⟨_, _, rfl, rfl, ⟨_, _, rfl, rfl, ⟨_, _, rfl, rfl, rfl⟩⟩⟩ := h; exact rfl
theorem k61_mk (w : World) (x : S61)  : k61.K w x [.int .i64 x.f0, .int .i64 x.f1, .int .i64 x.f2, .int .u8 x.f3] := ⟨[.int .i64 x.f0], [.int .i64 x.f1, .int .i64 x.f2, .int .u8 x.f3], rfl, rfl, ⟨[.int .i64 x.f1], [.int .i64 x.f2, .int .u8 x.f3], rfl, rfl, ⟨[.int .i64 x.f2], [.int .u8 x.f3], rfl, rfl, rfl⟩⟩⟩
theorem k61_mkM (w : World) (base : Nat) (ok : Nat → Prop) (x : S61)  : k61.M w base ok x [.int .i64 x.f0, .int .i64 x.f1, .int .i64 x.f2, .int .u8 x.f3] := ⟨[.int .i64 x.f0], [.int .i64 x.f1, .int .i64 x.f2, .int .u8 x.f3], rfl, rfl, ⟨[.int .i64 x.f1], [.int .i64 x.f2, .int .u8 x.f3], rfl, rfl, ⟨[.int .i64 x.f2], [.int .u8 x.f3], rfl, rfl, rfl⟩⟩⟩
def rd_T61 (xs : List S61) (i : Int) : S61 := xs.getD i.toNat z61
theorem at_T61 {w : World} {A : Option Addr} {n : Nat} {xs : List S61} (h : Kd.C k61 w A n xs) (i : Int) (h0 : 0 ≤ i) (h1 : i < n) : ∃ ad , A = some ad ∧ w.cell? (ad.add (i.toNat * 4)) = some (.int .i64 (rd_T61 xs i).f0) ∧ w.cell? ⟨(ad.add (i.toNat * 4)).block, (ad.add (i.toNat * 4)).off + 1, none⟩ = some (.int .i64 (rd_T61 xs i).f1) ∧ w.cell? ⟨(ad.add (i.toNat * 4)).block, (ad.add (i.toNat * 4)).off + 2, none⟩ = some (.int .i64 (rd_T61 xs i).f2) ∧ w.cell? ⟨(ad.add (i.toNat * 4)).block, (ad.add (i.toNat * 4)).off + 3, none⟩ = some (.int .u8 (rd_T61 xs i).f3) := by
 obtain ⟨ad, c, e, _, hK, hc0⟩ := Kd.C_get h z61 i h0 h1; have hc : ∀ j u, c[j]? = some u → w.cell? (ad.add (i.toNat * 4 + j)) = some u := hc0
 obtain rfl := k61_open hK
 exact ⟨ad, e, hc 0 _ rfl, by rw [← add_field _ _ 1 (by omega)]; exact hc 1 _ rfl, by rw [← add_field _ _ 2 (by omega)]; exact hc 2 _ rfl, by rw [← add_field _ _ 3 (by omega)]; exact hc 3 _ rfl⟩
structure S45 where
 f0 : Int
 f1 : Int
 f2 : Int
 f3 : Int
def z45 : S45 := ⟨(0 : Int), (0 : Int), (0 : Int), (0 : Int)⟩
def k45 : Kd S45 := Kd.iso (Kd.pair (Kd.int .i64) (Kd.pair (Kd.int .i64) (Kd.pair (Kd.int .i64) (Kd.int .u8)))) (fun x : S45 => (x.f0, x.f1, x.f2, x.f3))
theorem k45_open {w : World} {x : S45} {cs : List Value} (h : k45.K w x cs) : cs = [.int .i64 x.f0, .int .i64 x.f1, .int .i64 x.f2, .int .u8 x.f3] := by
 obtain ⟨_, _, rfl, rfl, ⟨_, _, rfl, rfl, ⟨_, _, rfl, rfl, rfl⟩⟩⟩ := h; exact rfl
theorem k45_openM {w : World} {base : Nat} {ok : Nat → Prop} {x : S45} {cs : List Value} (h : k45.M w base ok x cs) : cs = [.int .i64 x.f0, .int .i64 x.f1, .int .i64 x.f2, .int .u8 x.f3] := by
 obtain ⟨_, _, rfl, rfl, ⟨_, _, rfl, rfl, ⟨_, _, rfl, rfl, rfl⟩⟩⟩ := h; exact rfl
theorem k45_mk (w : World) (x : S45)  : k45.K w x [.int .i64 x.f0, .int .i64 x.f1, .int .i64 x.f2, .int .u8 x.f3] := ⟨[.int .i64 x.f0], [.int .i64 x.f1, .int .i64 x.f2, .int .u8 x.f3], rfl, rfl, ⟨[.int .i64 x.f1], [.int .i64 x.f2, .int .u8 x.f3], rfl, rfl, ⟨[.int .i64 x.f2], [.int .u8 x.f3], rfl, rfl, rfl⟩⟩⟩
theorem k45_mkM (w : World) (base : Nat) (ok : Nat → Prop) (x : S45)  : k45.M w base ok x [.int .i64 x.f0, .int .i64 x.f1, .int .i64 x.f2, .int .u8 x.f3] := ⟨[.int .i64 x.f0], [.int .i64 x.f1, .int .i64 x.f2, .int .u8 x.f3], rfl, rfl, ⟨[.int .i64 x.f1], [.int .i64 x.f2, .int .u8 x.f3], rfl, rfl, ⟨[.int .i64 x.f2], [.int .u8 x.f3], rfl, rfl, rfl⟩⟩⟩
def rd_T45 (xs : List S45) (i : Int) : S45 := xs.getD i.toNat z45
theorem at_T45 {w : World} {A : Option Addr} {n : Nat} {xs : List S45} (h : Kd.C k45 w A n xs) (i : Int) (h0 : 0 ≤ i) (h1 : i < n) : ∃ ad , A = some ad ∧ w.cell? (ad.add (i.toNat * 4)) = some (.int .i64 (rd_T45 xs i).f0) ∧ w.cell? ⟨(ad.add (i.toNat * 4)).block, (ad.add (i.toNat * 4)).off + 1, none⟩ = some (.int .i64 (rd_T45 xs i).f1) ∧ w.cell? ⟨(ad.add (i.toNat * 4)).block, (ad.add (i.toNat * 4)).off + 2, none⟩ = some (.int .i64 (rd_T45 xs i).f2) ∧ w.cell? ⟨(ad.add (i.toNat * 4)).block, (ad.add (i.toNat * 4)).off + 3, none⟩ = some (.int .u8 (rd_T45 xs i).f3) := by
 obtain ⟨ad, c, e, _, hK, hc0⟩ := Kd.C_get h z45 i h0 h1; have hc : ∀ j u, c[j]? = some u → w.cell? (ad.add (i.toNat * 4 + j)) = some u := hc0
 obtain rfl := k45_open hK
 exact ⟨ad, e, hc 0 _ rfl, by rw [← add_field _ _ 1 (by omega)]; exact hc 1 _ rfl, by rw [← add_field _ _ 2 (by omega)]; exact hc 2 _ rfl, by rw [← add_field _ _ 3 (by omega)]; exact hc 3 _ rfl⟩
def rd_L5 (xs : List (List Int)) (i : Int) : (List Int) := xs.getD i.toNat ([] : List Int)
theorem at_L5 {w : World} {A : Option Addr} {n : Nat} {xs : List (List Int)} (h : Kd.C (Kd.slice 5 (Kd.int .u8)) w A n xs) (i : Int) (h0 : 0 ≤ i) (h1 : i < n) : ∃ ad A0 c0, A = some ad ∧ w.cell? (ad.add i.toNat) = some (.slice A0 (rd_L5 xs i).length c0) ∧ (rd_L5 xs i).length ≤ c0 ∧ (Kd.int .u8).C w A0 (rd_L5 xs i).length (rd_L5 xs i) := by
 obtain ⟨ad, c, e, _, hK, hc0⟩ := Kd.C_get h ([] : List Int) i h0 h1; have hc : ∀ j u, c[j]? = some u → w.cell? (ad.add (i.toNat * 1 + j)) = some u := hc0
 obtain ⟨A0, c0, rfl, l0, g0⟩ := hK; exact ⟨ad, A0, c0, e, by have hq := hc 0 _ rfl; rwa [Nat.mul_one, Nat.add_zero] at hq, l0, g0⟩
def rd_L6 (xs : List (List S49)) (i : Int) : (List S49) := xs.getD i.toNat ([] : List S49)
theorem at_L6 {w : World} {A : Option Addr} {n : Nat} {xs : List (List S49)} (h : Kd.C (Kd.slice 49 k49) w A n xs) (i : Int) (h0 : 0 ≤ i) (h1 : i < n) : ∃ ad A0 c0, A = some ad ∧ w.cell? (ad.add i.toNat) = some (.slice A0 (rd_L6 xs i).length c0) ∧ (rd_L6 xs i).length ≤ c0 ∧ k49.C w A0 (rd_L6 xs i).length (rd_L6 xs i) := by
 obtain ⟨ad, c, e, _, hK, hc0⟩ := Kd.C_get h ([] : List S49) i h0 h1; have hc : ∀ j u, c[j]? = some u → w.cell? (ad.add (i.toNat * 1 + j)) = some u := hc0
 obtain ⟨A0, c0, rfl, l0, g0⟩ := hK; exact ⟨ad, A0, c0, e, by have hq := hc 0 _ rfl; rwa [Nat.mul_one, Nat.add_zero] at hq, l0, g0⟩
structure S26 where
 f0 : Int
 f1 : Int
 f2 : Int
 f3 : Int
 f4 : Int
 f5 : Nat
def z26 : S26 := ⟨(0 : Int), (0 : Int), (0 : Int), (0 : Int), (0 : Int), (0 : Nat)⟩
def k26 : Kd S26 := Kd.iso (Kd.pair (Kd.int .u8) (Kd.pair (Kd.int .u8) (Kd.pair (Kd.int .u8) (Kd.pair (Kd.int .u16) (Kd.pair (Kd.int .u16) Kd.f64))))) (fun x : S26 => (x.f0, x.f1, x.f2, x.f3, x.f4, x.f5))
theorem k26_open {w : World} {x : S26} {cs : List Value} (h : k26.K w x cs) : cs = [.int .u8 x.f0, .int .u8 x.f1, .int .u8 x.f2, .int .u16 x.f3, .int .u16 x.f4, .float .f64 x.f5] := by
 obtain ⟨_, _, rfl, rfl, ⟨_, _, rfl, rfl, ⟨_, _, rfl, rfl, ⟨_, _, rfl, rfl, ⟨_, _, rfl, rfl, rfl⟩⟩⟩⟩⟩ := h; exact rfl
theorem k26_openM {w : World} {base : Nat} {ok : Nat → Prop} {x : S26} {cs : List Value} (h : k26.M w base ok x cs) : cs = [.int .u8 x.f0, .int .u8 x.f1, .int .u8 x.f2, .int .u16 x.f3, .int .u16 x.f4, .float .f64 x.f5] := by
 obtain ⟨_, _, rfl, rfl, ⟨_, _, rfl, rfl, ⟨_, _, rfl, rfl, ⟨_, _, rfl, rfl, ⟨_, _, rfl, rfl, rfl⟩⟩⟩⟩⟩ := h; exact rfl
theorem k26_mk (w : World) (x : S26)  : k26.K w x [.int .u8 x.f0, .int .u8 x.f1, .int .u8 x.f2, .int .u16 x.f3, .int .u16 x.f4, .float .f64 x.f5] := ⟨[.int .u8 x.f0], [.int .u8 x.f1, .int .u8 x.f2, .int .u16 x.f3, .int .u16 x.f4, .float .f64 x.f5], rfl, rfl, ⟨[.int .u8 x.f1], [.int .u8 x.f2, .int .u16 x.f3, .int .u16 x.f4, .float .f64 x.f5], rfl, rfl, ⟨[.int .u8 x.f2], [.int .u16 x.f3, .int .u16 x.f4, .float .f64 x.f5], rfl, rfl, ⟨[.int .u16 x.f3], [.int .u16 x.f4, .float .f64 x.f5], rfl, rfl, ⟨[.int .u16 x.f4], [.float .f64 x.f5], rfl, rfl, rfl⟩⟩⟩⟩⟩
theorem k26_mkM (w : World) (base : Nat) (ok : Nat → Prop) (x : S26)  : k26.M w base ok x [.int .u8 x.f0, .int .u8 x.f1, .int .u8 x.f2, .int .u16 x.f3, .int .u16 x.f4, .float .f64 x.f5] := ⟨[.int .u8 x.f0], [.int .u8 x.f1, .int .u8 x.f2, .int .u16 x.f3, .int .u16 x.f4, .float .f64 x.f5], rfl, rfl, ⟨[.int .u8 x.f1], [.int .u8 x.f2, .int .u16 x.f3, .int .u16 x.f4, .float .f64 x.f5], rfl, rfl, ⟨[.int .u8 x.f2], [.int .u16 x.f3, .int .u16 x.f4, .float .f64 x.f5], rfl, rfl, ⟨[.int .u16 x.f3], [.int .u16 x.f4, .float .f64 x.f5], rfl, rfl, ⟨[.int .u16 x.f4], [.float .f64 x.f5], rfl, rfl, rfl⟩⟩⟩⟩⟩
def rd_T26 (xs : List S26) (i : Int) : S26 := xs.getD i.toNat z26
theorem at_T26 {w : World} {A : Option Addr} {n : Nat} {xs : List S26} (h : Kd.C k26 w A n xs) (i : Int) (h0 : 0 ≤ i) (h1 : i < n) : ∃ ad , A = some ad ∧ w.cell? (ad.add (i.toNat * 6)) = some (.int .u8 (rd_T26 xs i).f0) ∧ w.cell? ⟨(ad.add (i.toNat * 6)).block, (ad.add (i.toNat * 6)).off + 1, none⟩ = some (.int .u8 (rd_T26 xs i).f1) ∧ w.cell? ⟨(ad.add (i.toNat * 6)).block, (ad.add (i.toNat * 6)).off + 2, none⟩ = some (.int .u8 (rd_T26 xs i).f2) ∧ w.cell? ⟨(ad.add (i.toNat * 6)).block, (ad.add (i.toNat * 6)).off + 3, none⟩ = some (.int .u16 (rd_T26 xs i).f3) ∧ w.cell? ⟨(ad.add (i.toNat * 6)).block, (ad.add (i.toNat * 6)).off + 4, none⟩ = some (.int .u16 (rd_T26 xs i).f4) ∧ w.cell? ⟨(ad.add (i.toNat * 6)).block, (ad.add (i.toNat * 6)).off + 5, none⟩ = some (.float .f64 (rd_T26 xs i).f5) := by
 obtain ⟨ad, c, e, _, hK, hc0⟩ := Kd.C_get h z26 i h0 h1; have hc : ∀ j u, c[j]? = some u → w.cell? (ad.add (i.toNat * 6 + j)) = some u := hc0
 obtain rfl := k26_open hK
 exact ⟨ad, e, hc 0 _ rfl, by rw [← add_field _ _ 1 (by omega)]; exact hc 1 _ rfl, by rw [← add_field _ _ 2 (by omega)]; exact hc 2 _ rfl, by rw [← add_field _ _ 3 (by omega)]; exact hc 3 _ rfl, by rw [← add_field _ _ 4 (by omega)]; exact hc 4 _ rfl, by rw [← add_field _ _ 5 (by omega)]; exact hc 5 _ rfl⟩
mutual
def h3_Para.j1 : Nat → List (S49) → List (S61) → Option ((List (S61)) × List Int)
 | 0, _, _ => none
 | k + 1, x0, x103000 => h3_Para.l1 k x0 0 x103000 ([] : List Int)
def h3_Para.l1 : Nat → List (S49) → Int → List (S61) → List Int → Option ((List (S61)) × List Int)
 | 0, _, _, _, _ => none
 | k + 1, x0, x8, x103000, x103001 => if x8 < (x103000.length : Int) then (if x8 > 0 then (if 0 ≤ (wrap64 (x8 - 1)) then (if (wrap64 (x8 - 1)) < (x0.length : Int) then (if x103001.length < 140737488355328 then (h3_Para.l1 k x0 (wrap64 (x8 + 1)) x103000 (x103001 ++ [Int.tmod ((rd_T49 x0 (wrap64 (x8 - 1))).f3) 4])) else (none)) else (none)) else (none)) else (if x103001.length < 140737488355328 then (h3_Para.l1 k x0 (wrap64 (x8 + 1)) x103000 (x103001 ++ [0])) else (none))) else (if x103001.length < 140737488355328 then (some (x103000, (x103001 ++ [2]))) else (none))
def h3_Para.l0 : Nat → List (S49) → Int → Int → List (S61) → Option ((List (S61)) × List Int)
 | 0, _, _, _, _ => none
 | k + 1, x0, x4, x5, x103000 => if x5 < (x0.length : Int) then (if x4 < 4000 then (if 0 ≤ x5 then (if x103000.length < 4398046511104 then (h3_Para.l0 k x0 (wrap64 (x4 + (wrap64 (1 + (wrap64 (Int.tmod ((rd_T49 x0 x5).f2) 4)))))) (wrap64 (x5 + 1)) (x103000 ++ [(⟨x4, wrap64 (1 + (wrap64 (Int.tmod ((rd_T49 x0 x5).f2) 4))), wrap64 (Int.tmod ((rd_T49 x0 x5).f0) 3), Int.tmod ((rd_T49 x0 x5).f1) 3⟩ : S61)])) else (none)) else (none)) else (h3_Para.j1 k x0 x103000)) else (h3_Para.j1 k x0 x103000)
end
def h3_Para.f (k : Nat) (l0 : List (S49)) : Option ((List (S61)) × List Int) := h3_Para.l0 k l0 0 0 ([] : List (S61))
theorem h3_Para.mono_l : ∀ k, (∀ y0 y1, LeO (h3_Para.j1 k y0 y1) (h3_Para.j1 (k + 1) y0 y1)) ∧ (∀ y0 y1 y2 y3, LeO (h3_Para.l1 k y0 y1 y2 y3) (h3_Para.l1 (k + 1) y0 y1 y2 y3)) ∧ (∀ y0 y1 y2 y3, LeO (h3_Para.l0 k y0 y1 y2 y3) (h3_Para.l0 (k + 1) y0 y1 y2 y3))
 | 0 => ⟨fun _ _ r h => by simp [h3_Para.j1] at h, fun _ _ _ _ r h => by simp [h3_Para.l1] at h, fun _ _ _ _ r h => by simp [h3_Para.l0] at h⟩
 | k + 1 => by
  obtain ⟨ih0, ih1, ih2⟩ := h3_Para.mono_l k; refine ⟨?_, ?_, ?_⟩
  ·intro y0 y1
   unfold h3_Para.j1
   repeat' (with_reducible first | exact ih0 _ _ | exact ih1 _ _ _ _ | exact ih2 _ _ _ _ | exact LeO.refl _ | exact LeO.none _ | refine LeO.ite ?_ ?_ | refine LeO.bind ?_ (fun _ => ?_))
  ·intro y0 y1 y2 y3
   unfold h3_Para.l1
   repeat' (with_reducible first | exact ih0 _ _ | exact ih1 _ _ _ _ | exact ih2 _ _ _ _ | exact LeO.refl _ | exact LeO.none _ | refine LeO.ite ?_ ?_ | refine LeO.bind ?_ (fun _ => ?_))
  ·intro y0 y1 y2 y3
   unfold h3_Para.l0
   repeat' (with_reducible first | exact ih0 _ _ | exact ih1 _ _ _ _ | exact ih2 _ _ _ _ | exact LeO.refl _ | exact LeO.none _ | refine LeO.ite ?_ ?_ | refine LeO.bind ?_ (fun _ => ?_))
theorem h3_Para.mono : ∀ a0 k, LeO (h3_Para.f k a0) (h3_Para.f (k + 1) a0) := by
 intro a0 k
 obtain ⟨ih0, ih1, ih2⟩ := h3_Para.mono_l k; unfold h3_Para.f
 repeat' (with_reducible first | exact ih0 _ _ | exact ih1 _ _ _ _ | exact ih2 _ _ _ _ | exact LeO.refl _ | exact LeO.none _ | refine LeO.ite ?_ ?_ | refine LeO.bind ?_ (fun _ => ?_))
set_option maxHeartbeats 8000000 in
set_option maxRecDepth 100000 in
theorem h3_Para.calls (k : Nat) (A0 : Option Addr) (c0 : Nat) (l0 : List (S49)) (r1 : List (S61)) (r2 : List Int) (w : World) (hr0 : Kd.C k49 w A0 l0.length l0) (hc0 : l0.length ≤ c0) (h : h3_Para.f k l0 = some (r1, r2)) :
  Calls Try.prog 13 #[.slice A0 l0.length c0] w fun e w' => ∃ v0_ v1_ : Value, e = .returned (.agg #[v0_, v1_]) ∧ Kd.R k61 61 w' w.heap.size (fun _ => True) v0_ r1 ∧ Kd.R (Kd.int .u8) 43 w' w.heap.size (fun _ => True) v1_ r2 ∧ Below w.heap.size w w' := by
 have hu31 := Try.underlying31; have hu49 := Try.underlying49; have hu61 := Try.underlying61; have HR0 := zA.mk hr0; have HC0 := zA.mk hc0; clear hr0 hc0; have HB := zA.mk (Below.refl w.heap.size w); have H : (h3_Para.l0 k l0 0 0 ([] : List (S61))) = some (r1, r2) := h
 clear h; have HC2 := zA.mk H; clear H; go_enter Try.func13, Try.ntmps13
 go_upto_block 0 with (first | ((with_reducible refine gate_dst (N := 2) rfl ?_); refine box_event ?hg (N := 2) ?hd (cs := #[.slice none 0 0, .slice none 0 0]) (t := 31) ?hr ?_; (case hd => rfl); (case hg => rfl); (case hr => first | (go_simp; done) | (go_simp; rfl)); intro gb101 hg w3 hbox hb; have BK101 := zA.mk (hbox); have GW101 := zA.mk ((by rw [hg]; exact (zE (aL HB)) : w.heap.size ≤ gb101)); replace HB := zA.mk (zH (aL HB) hb); have GE101 := GW101; clear hb hbox hg) | ((with_reducible refine gate_dst (N := 3) rfl ?_); refine box_event ?hg (N := 3) ?hd (cs := #[.slice none 0 0, .slice none 0 0]) (t := 31) ?hr ?_; (case hd => rfl); (case hg => rfl); (case hr => first | (go_simp; done) | (go_simp; rfl)); intro gb102 hg w4 hbox hb; have BK102 := zA.mk (hbox); have GW102 := zA.mk ((by rw [hg]; exact (zE (aL HB)) : w.heap.size ≤ gb102)); replace HB := zA.mk (zH (aL HB) hb); have GE102 := GW102; have NB101_102 := zA.mk ((by rw [hg]; exact Nat.ne_of_lt (blk_lt (aB BK101)) : gb101 ≠ gb102)); have NB102_101 := zA.mk ((by rw [hg]; exact Nat.ne_of_gt (blk_lt (g := gb101) (o := .cells #[.slice none 0 0, .slice none 0 0] 31 (0, 0)) (aB BK101)) : gb102 ≠ gb101)); replace BK101 := zA.mk (zB (aB BK101) hb); clear hb hbox hg; have hnb5 := NB102_101.out; have hnc5 := NB101_102.out; obtain ⟨hcz6_0, hcz6_1, hfz6_0, hfz6_1⟩ := aC2 BK102) | ((with_reducible refine gate_store (t := 31) (p := 3) rfl ?_); refine store_event (t := 31) (p := 3) (v := ?vo_w7) (w1 := ((w4.setCell ⟨gb102, 0, none⟩ (.slice none 0 0)).setCell ⟨gb102, 1, none⟩ (.slice none 0 0))) ?hg ?ho ?hn ?hr ?_; (case ho => rfl); (case hg => rfl); (case hn => rfl); (case hr => first | (go_simp; done) | (go_simp; rfl)); intro w7 hw; have n0_ : zA (w7.heap[gb101]? = some (.cells #[.slice none 0 0, .slice none 0 0] 31 (0, 0))) := ⟨(by rw [hw]; exact (aB BK101))⟩; have n1_ : zA (w7.heap[gb102]? = some (.cells #[.slice none 0 0, .slice none 0 0] 31 (0, 0))) := ⟨(by rw [hw]; exact (by (with_reducible repeat (first | refine zF ?_ _ | refine zD ?_ | refine zG ?_ _)); refine blk_put (cs := #[.slice none 0 0, .slice none 0 0]) ?_ 1 _ rfl; (with_reducible repeat (first | refine zF ?_ _ | refine zD ?_ | refine zG ?_ _)); refine blk_put (cs := #[.slice none 0 0, .slice none 0 0]) ?_ 0 _ rfl; (with_reducible repeat (first | refine zF ?_ _ | refine zD ?_ | refine zG ?_ _)); exact BK102.out))⟩; have n2_ : zA (Below w.heap.size w w7) := ⟨(by rw [hw]; exact (aL HB))⟩; clear hw; clear BK101; clear BK102; clear HB; have BK101 := n0_; have BK102 := n1_; have HB := n2_; clear n0_ n1_ n2_))
 (try simp only [Act.put, sA_, sB_, sC_])
 go_cut [] (fun wc => ∃ (kq : Nat) (x103000_1 : List (S61)) (u103000 : Value), zA (h3_Para.j1 kq l0 x103000_1 = some (r1, r2)) ∧ zA (kq ≤ k) ∧ zA (Kd.R k61 61 wc w.heap.size (fun _ => True) u103000 x103000_1) ∧ zA (wc.heap[gb101]? = some (.cells #[(.slice none 0 0), (.slice none 0 0)] 31 (0, 0))) ∧ zA (wc.heap[gb102]? = some (.cells #[u103000, (.slice none 0 0)] 31 (0, 0))) ∧ zA (Below w.heap.size w wc))
 case first =>
  have H := HC2.out; clear HC2; have H' := zA.mk H
  clear H; go_wp2
  go_loopg [4, 5] k (fun kq v4 v5 w' => ∃ (x4_1 : Int) (x5_1 : Int) (x103000_1 : List (S61)) (u103000 : Value), v4 = .int .i64 x4_1 ∧ v5 = .int .i64 x5_1 ∧ zA (h3_Para.l0 kq l0 x4_1 x5_1 x103000_1 = some (r1, r2)) ∧ zA (kq ≤ k) ∧ zA (Kd.R k61 61 w' w.heap.size (fun _ => True) u103000 x103000_1) ∧ zA (w'.heap[gb101]? = some (.cells #[(.slice none 0 0), (.slice none 0 0)] 31 (0, 0))) ∧ zA (w'.heap[gb102]? = some (.cells #[u103000, (.slice none 0 0)] 31 (0, 0))) ∧ zA (Below w.heap.size w w'))
  case atStart => exact ⟨(0), (0), (([] : List (S61))), (.slice none 0 0), aZ, aZ, H', ⟨Nat.le_refl _⟩, ⟨by first | exact Kd.R_nil _ _ _ _ _ | exact Kd.N_nil _ _ _ _ _ | exact Kd.V_nil _ _ _ _ _ | exact Kd.Q_nil _ _ _ _ _ | exact Kd.S_nil _ _ _ _ _⟩, ⟨aB BK101⟩, ⟨aB BK102⟩, ⟨aL HB⟩⟩
  clear H'; obtain ⟨x4_1, x5_1, x103000_1, u103000, rfl, rfl, HA, HK1, HO_103000, BK101, BK102, HB⟩ := hrel; cases gk with
  | zero => exact absurd HA.out (by simp [h3_Para.l0])
  | succ k1 =>
   have H := HA.out; clear HA; simp only [h3_Para.l0] at H; by_cases c8 : x5_1 < (l0.length : Int)
   rotate_left
   ·rw [if_neg c8] at H
    have c8b0 : decide (x5_1 < (l0.length : Int)) = false := decide_eq_false c8
    clear c8; (first | rw [c8b0] | (simp only [i64_w, i32_w]; rw [c8b0]) | skip)
    have H' := zA.mk H
    clear H; go_wp2
    go_meet
    case rel => exact ⟨_, (x103000_1), (u103000), H', ⟨by have := HK1.out; first | omega | exact Nat.le_refl _⟩, ⟨aR HO_103000⟩, ⟨aB BK101⟩, ⟨aB BK102⟩, ⟨aL HB⟩⟩
   rw [if_pos c8] at H; have c8b0 : decide (x5_1 < (l0.length : Int)) = true := decide_eq_true c8
   clear c8; (first | rw [c8b0] | (simp only [i64_w, i32_w]; rw [c8b0]) | skip)
   by_cases c9 : x4_1 < 4000
   rotate_left
   ·rw [if_neg c9] at H
    have c9b0 : decide (x4_1 < 4000) = false := decide_eq_false c9
    clear c9; have H' := zA.mk H
    clear H; go_wp2
    go_meet
    case rel => exact ⟨_, (x103000_1), (u103000), H', ⟨by have := HK1.out; first | omega | exact Nat.le_refl _⟩, ⟨aR HO_103000⟩, ⟨aB BK101⟩, ⟨aB BK102⟩, ⟨aL HB⟩⟩
   rw [if_pos c9] at H; have c9b0 : decide (x4_1 < 4000) = true := decide_eq_true c9
   clear c9; by_cases c10 : 0 ≤ x5_1
   rotate_left
   ·rw [if_neg c10] at H
    exact absurd H (by simp)
   rw [if_pos c10] at H; have c10b0 : decide (0 ≤ x5_1) = true := decide_eq_true c10
   clear c10; by_cases c11 : x103000_1.length < 4398046511104
   rotate_left
   ·rw [if_neg c11] at H
    exact absurd H (by simp)
   rw [if_pos c11] at H; have LMc11 := zA.mk c11; clear c11; obtain ⟨y106, hy106⟩ : ∃ y_ : List (S61), y_ = (x103000_1 ++ [(⟨x4_1, wrap64 (1 + (wrap64 (Int.tmod ((rd_T49 l0 x5_1).f2) 4))), wrap64 (Int.tmod ((rd_T49 l0 x5_1).f0) 3), Int.tmod ((rd_T49 l0 x5_1).f1) 3⟩ : S61)]) := ⟨_, rfl⟩; replace H : (h3_Para.l0 k1 l0 (wrap64 (x4_1 + (wrap64 (1 + (wrap64 (Int.tmod ((rd_T49 l0 x5_1).f2) 4)))))) (wrap64 (x5_1 + 1)) y106) = some (r1, r2) := by first | (rw [hy106]; with_reducible exact H) | (have H2_ := (Option.bind_some _ _).symm.trans H; rw [hy106]; with_reducible exact H2_) | (have H2_ := (Option.bind_some _ _).symm.trans H; with_reducible exact H2_) | with_reducible exact H | (rw [hy106]; exact H) | exact H
   have Ny106 := zA.mk hy106; clear hy106; have H' := zA.mk H
   clear H; have p103 : 0 ≤ (x5_1 : Int) := aD
   have q103 : x5_1 < (l0.length : Int) := aD
   obtain ⟨ad103, e103, hx103_0, hx103_1, hx103_2, hx103_3⟩ := at_T49 HR0.out x5_1 p103 q103; cases e103
   replace hx103_0 := (HB.out.cell (World.block_lt_of_cell? w _ hx103_0)).trans hx103_0; replace hx103_1 := (HB.out.cell (World.block_lt_of_cell? w _ hx103_1)).trans hx103_1; replace hx103_2 := (HB.out.cell (World.block_lt_of_cell? w _ hx103_2)).trans hx103_2; replace hx103_3 := (HB.out.cell (World.block_lt_of_cell? w _ hx103_3)).trans hx103_3; replace p103 := eq_true p103; replace q103 := eq_true q103; go_wp2_with (first | ((with_reducible refine gate_dst (N := 6) rfl ?_); refine box_event ?hg (N := 6) ?hd (cs := #[.int .u8 0, .int .u8 0, .int .u8 0, .int .u8 0]) (t := 49) ?hr ?_; (case hd => rfl); (case hg => rfl); (case hr => first | (go_simp; done) | (go_simp; rfl)); intro gb104 hg w12 hbox hb; replace HO_103000 := zA.mk (Kd.zQ (aR HO_103000) hb); have BK104 := zA.mk (hbox); have GW104 := zA.mk ((by rw [hg]; exact (zE (aL HB)) : w.heap.size ≤ gb104)); replace HB := zA.mk (zH (aL HB) hb); have GE104 := GW104; have NB101_104 := zA.mk ((by rw [hg]; exact Nat.ne_of_lt (blk_lt (aB BK101)) : gb101 ≠ gb104)); have NB104_101 := zA.mk ((by rw [hg]; exact Nat.ne_of_gt (blk_lt (g := gb101) (o := .cells #[.slice none 0 0, .slice none 0 0] 31 (0, 0)) (aB BK101)) : gb104 ≠ gb101)); replace BK101 := zA.mk (zB (aB BK101) hb); have NB102_104 := zA.mk ((by rw [hg]; exact Nat.ne_of_lt (blk_lt (aB BK102)) : gb102 ≠ gb104)); have NB104_102 := zA.mk ((by rw [hg]; exact Nat.ne_of_gt (blk_lt (g := gb102) (o := .cells #[u103000, .slice none 0 0] 31 (0, 0)) (aB BK102)) : gb104 ≠ gb102)); replace BK102 := zA.mk (zB (aB BK102) hb); clear hb hbox hg; have hnb13 := NB104_101.out; have hnc13 := NB101_104.out; have hnb14 := NB104_102.out; have hnc14 := NB102_104.out; obtain ⟨hcz15_0, hcz15_1, hcz15_2, hcz15_3, hfz15_0, hfz15_1, hfz15_2, hfz15_3⟩ := aC4 BK104) | ((with_reducible refine gate_store (t := 49) (p := 6) rfl ?_); refine store_event (t := 49) (p := 6) (v := ?vo_w16) (w1 := ((((w12.setCell ⟨gb104, 0, none⟩ (.int .u8 ((rd_T49 l0 x5_1).f0))).setCell ⟨gb104, 1, none⟩ (.int .u8 ((rd_T49 l0 x5_1).f1))).setCell ⟨gb104, 2, none⟩ (.int .u8 ((rd_T49 l0 x5_1).f2))).setCell ⟨gb104, 3, none⟩ (.int .u8 ((rd_T49 l0 x5_1).f3)))) ?hg ?ho ?hn ?hr ?_; (case ho => rfl); (case hg => rfl); (case hn => rfl); (case hr => first | (go_simp; done) | (go_simp; rfl)); intro w16 hw; have n0_ : zA (Kd.R k61 61 w16 w.heap.size (fun _ => True) u103000 x103000_1) := ⟨(by rw [hw]; exact (by (with_reducible repeat (first | apply Kd.zI | apply Kd.zJ | apply Kd.zK)); exact Kd.zU (Kd.zR (p := ⟨gb104, 3, none⟩) (Kd.zR (p := ⟨gb104, 2, none⟩) (Kd.zR (p := ⟨gb104, 1, none⟩) (Kd.zR (p := ⟨gb104, 0, none⟩) (Kd.zV HO_103000.out BK104.out (by decide)) (fun _ hk => hk.2) (.int .u8 ((rd_T49 l0 x5_1).f0))) (fun _ hk => hk.2) (.int .u8 ((rd_T49 l0 x5_1).f1))) (fun _ hk => hk.2) (.int .u8 ((rd_T49 l0 x5_1).f2))) (fun _ hk => hk.2) (.int .u8 ((rd_T49 l0 x5_1).f3))) (fun _ hk => trivial)))⟩; have n1_ : zA (w16.heap[gb101]? = some (.cells #[.slice none 0 0, .slice none 0 0] 31 (0, 0))) := ⟨(by rw [hw]; exact (aB BK101))⟩; have n2_ : zA (w16.heap[gb102]? = some (.cells #[u103000, .slice none 0 0] 31 (0, 0))) := ⟨(by rw [hw]; exact (aB BK102))⟩; have n3_ : zA (w16.heap[gb104]? = some (.cells #[.int .u8 ((rd_T49 l0 x5_1).f0), .int .u8 ((rd_T49 l0 x5_1).f1), .int .u8 ((rd_T49 l0 x5_1).f2), .int .u8 ((rd_T49 l0 x5_1).f3)] 49 (0, 0))) := ⟨(by rw [hw]; exact (by (with_reducible repeat (first | refine zF ?_ _ | refine zD ?_ | refine zG ?_ _)); refine blk_put (cs := #[.int .u8 ((rd_T49 l0 x5_1).f0), .int .u8 ((rd_T49 l0 x5_1).f1), .int .u8 ((rd_T49 l0 x5_1).f2), .int .u8 0]) ?_ 3 _ rfl; (with_reducible repeat (first | refine zF ?_ _ | refine zD ?_ | refine zG ?_ _)); refine blk_put (cs := #[.int .u8 ((rd_T49 l0 x5_1).f0), .int .u8 ((rd_T49 l0 x5_1).f1), .int .u8 0, .int .u8 0]) ?_ 2 _ rfl; (with_reducible repeat (first | refine zF ?_ _ | refine zD ?_ | refine zG ?_ _)); refine blk_put (cs := #[.int .u8 ((rd_T49 l0 x5_1).f0), .int .u8 0, .int .u8 0, .int .u8 0]) ?_ 1 _ rfl; (with_reducible repeat (first | refine zF ?_ _ | refine zD ?_ | refine zG ?_ _)); refine blk_put (cs := #[.int .u8 0, .int .u8 0, .int .u8 0, .int .u8 0]) ?_ 0 _ rfl; (with_reducible repeat (first | refine zF ?_ _ | refine zD ?_ | refine zG ?_ _)); exact BK104.out))⟩; have n4_ : zA (Below w.heap.size w w16) := ⟨(by rw [hw]; exact (aL HB))⟩; clear hw; clear HO_103000; clear BK101; clear BK102; clear BK104; clear HB; have HO_103000 := n0_; have BK101 := n1_; have BK102 := n2_; have BK104 := n3_; have HB := n4_; clear n0_ n1_ n2_ n3_ n4_; obtain ⟨hcz17_0, hcz17_1, hcz17_2, hcz17_3, hfz17_0, hfz17_1, hfz17_2, hfz17_3⟩ := aC4 BK104) | ((with_reducible refine gate_dst (N := 7) rfl ?_); refine box_event ?hg (N := 7) ?hd (cs := #[.int .i64 0, .int .i64 0, .int .i64 0, .int .u8 0]) (t := 61) ?hr ?_; (case hd => rfl); (case hg => rfl); (case hr => first | (go_simp; done) | (go_simp; rfl)); intro gb105 hg w18 hbox hb; replace HO_103000 := zA.mk (Kd.zQ (Kd.R_elderB (aR HO_103000) gb105 (Nat.le_of_eq hg.symm)) hb); have BK105 := zA.mk (hbox); have GW105 := zA.mk ((by rw [hg]; exact (zE (aL HB)) : w.heap.size ≤ gb105)); replace HB := zA.mk (zH (aL HB) hb); have GE105 := GW105; have NB101_105 := zA.mk ((by rw [hg]; exact Nat.ne_of_lt (blk_lt (aB BK101)) : gb101 ≠ gb105)); have NB105_101 := zA.mk ((by rw [hg]; exact Nat.ne_of_gt (blk_lt (g := gb101) (o := .cells #[.slice none 0 0, .slice none 0 0] 31 (0, 0)) (aB BK101)) : gb105 ≠ gb101)); replace BK101 := zA.mk (zB (aB BK101) hb); have NB102_105 := zA.mk ((by rw [hg]; exact Nat.ne_of_lt (blk_lt (aB BK102)) : gb102 ≠ gb105)); have NB105_102 := zA.mk ((by rw [hg]; exact Nat.ne_of_gt (blk_lt (g := gb102) (o := .cells #[u103000, .slice none 0 0] 31 (0, 0)) (aB BK102)) : gb105 ≠ gb102)); replace BK102 := zA.mk (zB (aB BK102) hb); have NB104_105 := zA.mk ((by rw [hg]; exact Nat.ne_of_lt (blk_lt (aB BK104)) : gb104 ≠ gb105)); have NB105_104 := zA.mk ((by rw [hg]; exact Nat.ne_of_gt (blk_lt (g := gb104) (o := .cells #[.int .u8 ((rd_T49 l0 x5_1).f0), .int .u8 ((rd_T49 l0 x5_1).f1), .int .u8 ((rd_T49 l0 x5_1).f2), .int .u8 ((rd_T49 l0 x5_1).f3)] 49 (0, 0)) (aB BK104)) : gb105 ≠ gb104)); replace BK104 := zA.mk (zB (aB BK104) hb); clear hb hbox hg; have hnb19 := NB105_101.out; have hnc19 := NB101_105.out; have hnb20 := NB105_102.out; have hnc20 := NB102_105.out; have hnb21 := NB105_104.out; have hnc21 := NB104_105.out; obtain ⟨hcz22_0, hcz22_1, hcz22_2, hcz22_3, hfz22_0, hfz22_1, hfz22_2, hfz22_3⟩ := aC4 BK105) | ((with_reducible refine gate_store (t := 61) (p := 7) rfl ?_); refine store_event (t := 61) (p := 7) (v := ?vo_w23) (w1 := ((((w18.setCell ⟨gb105, 0, none⟩ (.int .i64 x4_1)).setCell ⟨gb105, 1, none⟩ (.int .i64 (wrap64 (1 + (wrap64 (Int.tmod ((rd_T49 l0 x5_1).f2) 4)))))).setCell ⟨gb105, 2, none⟩ (.int .i64 (wrap64 (Int.tmod ((rd_T49 l0 x5_1).f0) 3)))).setCell ⟨gb105, 3, none⟩ (.int .u8 (Int.tmod ((rd_T49 l0 x5_1).f1) 3)))) ?hg ?ho ?hn ?hr ?_; (case ho => rfl); (case hg => rfl); (case hn => rfl); (case hr => first | (go_simp; done) | (go_simp; rfl)); intro w23 hw; have n0_ : zA (Kd.R k61 61 w23 w.heap.size (fun k_ => k_ ≠ gb105) u103000 x103000_1) := ⟨(by rw [hw]; exact (by (with_reducible repeat (first | apply Kd.zI | apply Kd.zJ | apply Kd.zK)); exact Kd.zU (Kd.zR (p := ⟨gb105, 3, none⟩) (Kd.zR (p := ⟨gb105, 2, none⟩) (Kd.zR (p := ⟨gb105, 1, none⟩) (Kd.zR (p := ⟨gb105, 0, none⟩) (Kd.zU HO_103000.out (fun k_ hk => (⟨hk, hk.2⟩ : _ ∧ k_ ≠ gb105))) (fun _ hk => hk.2) (.int .i64 x4_1)) (fun _ hk => hk.2) (.int .i64 (wrap64 (1 + (wrap64 (Int.tmod ((rd_T49 l0 x5_1).f2) 4)))))) (fun _ hk => hk.2) (.int .i64 (wrap64 (Int.tmod ((rd_T49 l0 x5_1).f0) 3)))) (fun _ hk => hk.2) (.int .u8 (Int.tmod ((rd_T49 l0 x5_1).f1) 3))) (fun _ hk => hk.1.2)))⟩; have n1_ : zA (w23.heap[gb101]? = some (.cells #[.slice none 0 0, .slice none 0 0] 31 (0, 0))) := ⟨(by rw [hw]; exact (aB BK101))⟩; have n2_ : zA (w23.heap[gb102]? = some (.cells #[u103000, .slice none 0 0] 31 (0, 0))) := ⟨(by rw [hw]; exact (aB BK102))⟩; have n3_ : zA (w23.heap[gb104]? = some (.cells #[.int .u8 ((rd_T49 l0 x5_1).f0), .int .u8 ((rd_T49 l0 x5_1).f1), .int .u8 ((rd_T49 l0 x5_1).f2), .int .u8 ((rd_T49 l0 x5_1).f3)] 49 (0, 0))) := ⟨(by rw [hw]; exact (aB BK104))⟩; have n4_ : zA (w23.heap[gb105]? = some (.cells #[.int .i64 x4_1, .int .i64 (wrap64 (1 + (wrap64 (Int.tmod ((rd_T49 l0 x5_1).f2) 4)))), .int .i64 (wrap64 (Int.tmod ((rd_T49 l0 x5_1).f0) 3)), .int .u8 (Int.tmod ((rd_T49 l0 x5_1).f1) 3)] 61 (0, 0))) := ⟨(by rw [hw]; exact (by (with_reducible repeat (first | refine zF ?_ _ | refine zD ?_ | refine zG ?_ _)); refine blk_put (cs := #[.int .i64 x4_1, .int .i64 (wrap64 (1 + (wrap64 (Int.tmod ((rd_T49 l0 x5_1).f2) 4)))), .int .i64 (wrap64 (Int.tmod ((rd_T49 l0 x5_1).f0) 3)), .int .u8 0]) ?_ 3 _ rfl; (with_reducible repeat (first | refine zF ?_ _ | refine zD ?_ | refine zG ?_ _)); refine blk_put (cs := #[.int .i64 x4_1, .int .i64 (wrap64 (1 + (wrap64 (Int.tmod ((rd_T49 l0 x5_1).f2) 4)))), .int .i64 0, .int .u8 0]) ?_ 2 _ rfl; (with_reducible repeat (first | refine zF ?_ _ | refine zD ?_ | refine zG ?_ _)); refine blk_put (cs := #[.int .i64 x4_1, .int .i64 0, .int .i64 0, .int .u8 0]) ?_ 1 _ rfl; (with_reducible repeat (first | refine zF ?_ _ | refine zD ?_ | refine zG ?_ _)); refine blk_put (cs := #[.int .i64 0, .int .i64 0, .int .i64 0, .int .u8 0]) ?_ 0 _ rfl; (with_reducible repeat (first | refine zF ?_ _ | refine zD ?_ | refine zG ?_ _)); exact BK105.out))⟩; have n5_ : zA (Below w.heap.size w w23) := ⟨(by rw [hw]; exact (aL HB))⟩; clear hw; clear HO_103000; clear BK101; clear BK102; clear BK104; clear BK105; clear HB; have HO_103000 := n0_; have BK101 := n1_; have BK102 := n2_; have BK104 := n3_; have BK105 := n4_; have HB := n5_; clear n0_ n1_ n2_ n3_ n4_ n5_; obtain ⟨hcz24_0, hcz24_1, hcz24_2, hcz24_3, hfz24_0, hfz24_1, hfz24_2, hfz24_3⟩ := aC4 BK105; have hnb25 := NB102_101.out; have hnc25 := NB101_102.out; obtain ⟨hcz26_0, hcz26_1, hfz26_0, hfz26_1⟩ := aC2 BK102) | ((with_reducible refine gate_builtin (b := .append) (xs := #[.tmp 44, .tmp 46]) rfl ?_); at_builtin; refine Kd.R_append k61 (w0 := w) w.heap.size rfl (.tmp 44) (.tmp 46) 28 61 (.agg #[(.int .i64 0), (.int .i64 0), (.int .i64 0), (.int .u8 0)]) 32 rfl Try.underlying28 info61 rfl (by decide) (by omega) u103000 x103000_1 (⟨x4_1, wrap64 (1 + (wrap64 (Int.tmod ((rd_T49 l0 x5_1).f2) 4))), wrap64 (Int.tmod ((rd_T49 l0 x5_1).f0) 3), Int.tmod ((rd_T49 l0 x5_1).f1) 3⟩ : S61) [.int .i64 x4_1, .int .i64 (wrap64 (1 + (wrap64 (Int.tmod ((rd_T49 l0 x5_1).f2) 4)))), .int .i64 (wrap64 (Int.tmod ((rd_T49 l0 x5_1).f0) 3)), .int .u8 (Int.tmod ((rd_T49 l0 x5_1).f1) 3)] (fun k_ => k_ ≠ gb105) (fun _ => False) rfl rfl ?aP (fun _ hk => hk.elim) ?aF ?aO ?aB ?aS ?aL ?_; (case aP => exact k61_mkM _ _ _ (⟨x4_1, wrap64 (1 + (wrap64 (Int.tmod ((rd_T49 l0 x5_1).f2) 4))), wrap64 (Int.tmod ((rd_T49 l0 x5_1).f0) 3), Int.tmod ((rd_T49 l0 x5_1).f1) 3⟩ : S61)); (case aB => exact (aL HB)); (case aF => exact (fun k_ hk => Kd.freshB (g := gb105) (o := .cells #[.int .i64 x4_1, .int .i64 (wrap64 (1 + (wrap64 (Int.tmod ((rd_T49 l0 x5_1).f2) 4)))), .int .i64 (wrap64 (Int.tmod ((rd_T49 l0 x5_1).f0) 3)), .int .u8 (Int.tmod ((rd_T49 l0 x5_1).f1) 3)] 61 (0, 0)) (aB BK105) k_ hk)); (case aO => exact (aR HO_103000)); (case aS => exact (zE (aL HB))); (case aL => have := LMc11.out; omega); intro v107 w27 ho hb hg hat; rw [← Ny106.out] at ho; replace BK101 := zA.mk (blk_grown (g := gb101) (o := .cells #[.slice none 0 0, .slice none 0 0] 31 (0, 0)) (aB BK101) hg (Kd.R_ne HO_103000.out BK101.out (by decide))); replace BK102 := zA.mk (blk_grown (g := gb102) (o := .cells #[u103000, .slice none 0 0] 31 (0, 0)) (aB BK102) hg (Kd.R_ne HO_103000.out BK102.out (by decide))); replace BK104 := zA.mk (blk_grown (g := gb104) (o := .cells #[.int .u8 ((rd_T49 l0 x5_1).f0), .int .u8 ((rd_T49 l0 x5_1).f1), .int .u8 ((rd_T49 l0 x5_1).f2), .int .u8 ((rd_T49 l0 x5_1).f3)] 49 (0, 0)) (aB BK104) hg (Kd.R_ne HO_103000.out BK104.out (by decide))); replace BK105 := zA.mk (blk_grown (g := gb105) (o := .cells #[.int .i64 x4_1, .int .i64 (wrap64 (1 + (wrap64 (Int.tmod ((rd_T49 l0 x5_1).f2) 4)))), .int .i64 (wrap64 (Int.tmod ((rd_T49 l0 x5_1).f0) 3)), .int .u8 (Int.tmod ((rd_T49 l0 x5_1).f1) 3)] 61 (0, 0)) (aB BK105) hg (Kd.R_away HO_103000.out (fun _ hk => hk))); replace HB := zA.mk (hb); have HO108 := zA.mk (ho); clear HO_103000; clear ho hb hg hat; obtain ⟨Ao28, co28, eo28⟩ := Kd.zS HO108.out; subst eo28; obtain ⟨hcz29_0, hcz29_1, hfz29_0, hfz29_1⟩ := aC2 BK102))
   go_roundg k1
   case measure => have := HK1.out; omega
   case rel => exact ⟨(wrap64 (x4_1 + (wrap64 (1 + (wrap64 (Int.tmod ((rd_T49 l0 x5_1).f2) 4)))))), (wrap64 (x5_1 + 1)), (y106), (.slice Ao28 y106.length co28), aZ, aZ, H', ⟨by have := HK1.out; omega⟩, ⟨by (with_reducible repeat (first | apply Kd.zI | apply Kd.zJ | apply Kd.zK)); exact Kd.zU (Kd.zR (p := ⟨gb102, 0, none⟩) (Kd.zV HO108.out BK102.out (by decide)) (fun _ hk => hk.2) (.slice Ao28 y106.length co28)) (fun _ hk => trivial)⟩, ⟨by (with_reducible repeat (first | refine zF ?_ _ | refine zD ?_ | refine zG ?_ _)); refine blk_far ?_ NB101_102.out _; (with_reducible repeat (first | refine zF ?_ _ | refine zD ?_ | refine zG ?_ _)); exact BK101.out⟩, ⟨by (with_reducible repeat (first | refine zF ?_ _ | refine zD ?_ | refine zG ?_ _)); refine blk_put (cs := #[u103000, .slice none 0 0]) ?_ 0 _ rfl; (with_reducible repeat (first | refine zF ?_ _ | refine zD ?_ | refine zG ?_ _)); exact BK102.out⟩, ⟨aL HB⟩⟩
 clear HC2; obtain ⟨kq, x103000_1, u103000, HA, HJ1, HO_103000, BK101, BK102, HB⟩ := hcut; cases kq with
 | zero => exact absurd HA.out (by simp [h3_Para.j1])
 | succ kj1 =>
  have H := HA.out; clear HA; simp only [h3_Para.j1] at H; have H' := zA.mk H
  clear H; go_wp2
  go_loopg [8] kj1 (fun kq v8 w' => ∃ (x8_2 : Int) (x103001_2 : List Int) (u103001 : Value), v8 = .int .i64 x8_2 ∧ zA (h3_Para.l1 kq l0 x8_2 x103000_1 x103001_2 = some (r1, r2)) ∧ zA (kq ≤ kj1) ∧ zA (Kd.R k61 61 w' w.heap.size (fun _ => True) u103000 x103000_1) ∧ zA (Kd.R (Kd.int .u8) 43 w' w.heap.size (fun _ => True) u103001 x103001_2) ∧ zA (w'.heap[gb101]? = some (.cells #[(.slice none 0 0), (.slice none 0 0)] 31 (0, 0))) ∧ zA (w'.heap[gb102]? = some (.cells #[u103000, u103001] 31 (0, 0))) ∧ zA (Below w.heap.size w w'))
  case atStart => exact ⟨(0), (([] : List Int)), (.slice none 0 0), aZ, H', ⟨Nat.le_refl _⟩, ⟨aR HO_103000⟩, ⟨by first | exact Kd.R_nil _ _ _ _ _ | exact Kd.N_nil _ _ _ _ _ | exact Kd.V_nil _ _ _ _ _ | exact Kd.Q_nil _ _ _ _ _ | exact Kd.S_nil _ _ _ _ _⟩, ⟨aB BK101⟩, ⟨aB BK102⟩, ⟨aL HB⟩⟩
  clear H'; obtain ⟨x8_2, x103001_2, u103001, rfl, HA, HK2, HO_103000, HO_103001, BK101, BK102, HB⟩ := hrel; cases gk with
  | zero => exact absurd HA.out (by simp [h3_Para.l1])
  | succ k2 =>
   have H := HA.out; clear HA; simp only [h3_Para.l1] at H; by_cases c30 : x8_2 < (x103000_1.length : Int)
   rotate_left
   ·rw [if_neg c30] at H
    have c30b0 : decide (x8_2 < (x103000_1.length : Int)) = false := decide_eq_false c30
    clear c30; by_cases c49 : x103001_2.length < 140737488355328
    rotate_left
    ·rw [if_neg c49] at H
     exact absurd H (by simp)
    rw [if_pos c49] at H; have LMc49 := zA.mk c49; clear c49; obtain ⟨y116, hy116⟩ : ∃ y_ : List Int, y_ = (x103001_2 ++ [2]) := ⟨_, rfl⟩; replace H : (some (x103000_1, y116)) = some (r1, r2) := by first | (rw [hy116]; with_reducible exact H) | (have H2_ := (Option.bind_some _ _).symm.trans H; rw [hy116]; with_reducible exact H2_) | (have H2_ := (Option.bind_some _ _).symm.trans H; with_reducible exact H2_) | with_reducible exact H | (rw [hy116]; exact H) | exact H
    have Ny116 := zA.mk hy116; clear hy116; simp only [Option.some.injEq, Prod.mk.injEq] at H; obtain ⟨rfl, rfl⟩ := H; have hnb50 := NB102_101.out; have hnc50 := NB101_102.out; obtain ⟨hcz51_0, hcz51_1, hfz51_0, hfz51_1⟩ := aC2 BK102; obtain ⟨Ao52, co52, eo52⟩ := Kd.zS HO_103000.out; subst eo52; go_wp2_with (first | ((with_reducible refine gate_builtin (b := .append) (xs := #[.tmp 72, .tmp 73]) rfl ?_); at_builtin; refine Kd.R_append (Kd.int .u8) (w0 := w) w.heap.size rfl (.tmp 72) (.tmp 73) 29 43 (.int .u8 0) 1 rfl Try.underlying29 info43 rfl (by decide) (by omega) u103001 x103001_2 2 [.int .u8 2] (fun _ => True) (fun _ => False) rfl rfl ?aP (fun _ hk => hk.elim) ?aF ?aO ?aB ?aS ?aL ?_; (case aP => exact rfl); (case aB => exact (aL HB)); (case aF => exact (fun _ _ => trivial)); (case aO => exact (aR HO_103001)); (case aS => exact (zE (aL HB))); (case aL => have := LMc49.out; omega); intro v117 w53 ho hb hg hat; rw [← Ny116.out] at ho; replace HO_103000 := zA.mk (Kd.R_over' (aR HO_103000) (Kd.R_typed (aR HO_103001)) (by decide) hg); replace BK101 := zA.mk (blk_grown (g := gb101) (o := .cells #[.slice none 0 0, .slice none 0 0] 31 (0, 0)) (aB BK101) hg (Kd.R_ne HO_103001.out BK101.out (by decide))); replace BK102 := zA.mk (blk_grown (g := gb102) (o := .cells #[.slice Ao52 x103000_1.length co52, u103001] 31 (0, 0)) (aB BK102) hg (Kd.R_ne HO_103001.out BK102.out (by decide))); replace HB := zA.mk (hb); have HO118 := zA.mk (ho); clear HO_103001; clear ho hb hg hat; obtain ⟨Ao54, co54, eo54⟩ := Kd.zS HO118.out; subst eo54; obtain ⟨hcz55_0, hcz55_1, hfz55_0, hfz55_1⟩ := aC2 BK102; obtain ⟨hcz56_0, hcz56_1, hfz56_0, hfz56_1⟩ := aC2 BK101) | ((with_reducible refine gate_store (t := 31) (p := 2) rfl ?_); refine store_event (t := 31) (p := 2) (v := ?vo_w57) (w1 := (((w53.setCell ⟨gb102, 1, none⟩ (.slice Ao54 y116.length co54)).setCell ⟨gb101, 0, none⟩ (.slice Ao52 x103000_1.length co52)).setCell ⟨gb101, 1, none⟩ (.slice Ao54 y116.length co54))) ?hg ?ho ?hn ?hr ?_; (case ho => rfl); (case hg => rfl); (case hn => rfl); (case hr => first | (go_simp; done) | (go_simp; rfl)); intro w57 hw; have n0_ : zA (Kd.R k61 61 w57 w.heap.size (fun _ => True) (.slice Ao52 x103000_1.length co52) x103000_1) := ⟨(by rw [hw]; exact (by (with_reducible repeat (first | apply Kd.zI | apply Kd.zJ | apply Kd.zK)); exact Kd.zU (Kd.zR (p := ⟨gb101, 1, none⟩) (Kd.zR (p := ⟨gb101, 0, none⟩) (Kd.zR (p := ⟨gb102, 1, none⟩) (Kd.zV (Kd.zV HO_103000.out BK102.out (by decide)) BK101.out (by decide)) (fun _ hk => hk.1.2) (.slice Ao54 y116.length co54)) (fun _ hk => hk.2) (.slice Ao52 x103000_1.length co52)) (fun _ hk => hk.2) (.slice Ao54 y116.length co54)) (fun _ hk => trivial)))⟩; have n1_ : zA (Kd.R (Kd.int .u8) 43 w57 w.heap.size (fun _ => True) (.slice Ao54 y116.length co54) y116) := ⟨(by rw [hw]; exact (by (with_reducible repeat (first | apply Kd.zI | apply Kd.zJ | apply Kd.zK)); exact Kd.zU (Kd.zR (p := ⟨gb101, 1, none⟩) (Kd.zR (p := ⟨gb101, 0, none⟩) (Kd.zR (p := ⟨gb102, 1, none⟩) (Kd.zV (Kd.zV HO118.out BK102.out (by decide)) BK101.out (by decide)) (fun _ hk => hk.1.2) (.slice Ao54 y116.length co54)) (fun _ hk => hk.2) (.slice Ao52 x103000_1.length co52)) (fun _ hk => hk.2) (.slice Ao54 y116.length co54)) (fun _ hk => trivial)))⟩; have n2_ : zA (w57.heap[gb101]? = some (.cells #[.slice Ao52 x103000_1.length co52, .slice Ao54 y116.length co54] 31 (0, 0))) := ⟨(by rw [hw]; exact (by (with_reducible repeat (first | refine zF ?_ _ | refine zD ?_ | refine zG ?_ _)); refine blk_put (cs := #[.slice Ao52 x103000_1.length co52, .slice none 0 0]) ?_ 1 _ rfl; (with_reducible repeat (first | refine zF ?_ _ | refine zD ?_ | refine zG ?_ _)); refine blk_put (cs := #[.slice none 0 0, .slice none 0 0]) ?_ 0 _ rfl; (with_reducible repeat (first | refine zF ?_ _ | refine zD ?_ | refine zG ?_ _)); refine blk_far ?_ NB101_102.out _; (with_reducible repeat (first | refine zF ?_ _ | refine zD ?_ | refine zG ?_ _)); exact BK101.out))⟩; have n3_ : zA (w57.heap[gb102]? = some (.cells #[.slice Ao52 x103000_1.length co52, .slice Ao54 y116.length co54] 31 (0, 0))) := ⟨(by rw [hw]; exact (by (with_reducible repeat (first | refine zF ?_ _ | refine zD ?_ | refine zG ?_ _)); refine blk_far ?_ NB102_101.out _; (with_reducible repeat (first | refine zF ?_ _ | refine zD ?_ | refine zG ?_ _)); refine blk_far ?_ NB102_101.out _; (with_reducible repeat (first | refine zF ?_ _ | refine zD ?_ | refine zG ?_ _)); refine blk_put (cs := #[.slice Ao52 x103000_1.length co52, u103001]) ?_ 1 _ rfl; (with_reducible repeat (first | refine zF ?_ _ | refine zD ?_ | refine zG ?_ _)); exact BK102.out))⟩; have n4_ : zA (Below w.heap.size w w57) := ⟨(by rw [hw]; exact (aL HB))⟩; clear hw; clear HO_103000; clear HO118; clear BK101; clear BK102; clear HB; have HO_103000 := n0_; have HO118 := n1_; have BK101 := n2_; have BK102 := n3_; have HB := n4_; clear n0_ n1_ n2_ n3_ n4_))
    refine bodyPost_ret (results_cell_row rfl _ _ gb101 31 #[.slice Ao52 x103000_1.length co52, .slice Ao54 y116.length co54] (0, 0) _ rfl (aB BK101) Try.underlying31 rfl (by kernel_rfl)) rfl ?_
    exact ⟨_, _, aX, aR HO_103000, aR HO118, aL HB⟩
   rw [if_pos c30] at H; have c30b0 : decide (x8_2 < (x103000_1.length : Int)) = true := decide_eq_true c30
   clear c30; by_cases c31 : x8_2 > 0
   rotate_left
   ·rw [if_neg c31] at H
    have c31b0 : decide (0 < x8_2) = false := decide_eq_false c31
    clear c31; by_cases c42 : x103001_2.length < 140737488355328
    rotate_left
    ·rw [if_neg c42] at H
     exact absurd H (by simp)
    rw [if_pos c42] at H; have LMc42 := zA.mk c42; clear c42; obtain ⟨y113, hy113⟩ : ∃ y_ : List Int, y_ = (x103001_2 ++ [0]) := ⟨_, rfl⟩; replace H : (h3_Para.l1 k2 l0 (wrap64 (x8_2 + 1)) x103000_1 y113) = some (r1, r2) := by first | (rw [hy113]; with_reducible exact H) | (have H2_ := (Option.bind_some _ _).symm.trans H; rw [hy113]; with_reducible exact H2_) | (have H2_ := (Option.bind_some _ _).symm.trans H; with_reducible exact H2_) | with_reducible exact H | (rw [hy113]; exact H) | exact H
    have Ny113 := zA.mk hy113; clear hy113; have H' := zA.mk H
    clear H; have hnb43 := NB102_101.out; have hnc43 := NB101_102.out; obtain ⟨hcz44_0, hcz44_1, hfz44_0, hfz44_1⟩ := aC2 BK102; obtain ⟨Ao45, co45, eo45⟩ := Kd.zS HO_103000.out; subst eo45; go_wp2_with (first | ((with_reducible refine gate_builtin (b := .append) (xs := #[.tmp 66, .tmp 68]) rfl ?_); at_builtin; refine Kd.R_append (Kd.int .u8) (w0 := w) w.heap.size rfl (.tmp 66) (.tmp 68) 29 43 (.int .u8 0) 1 rfl Try.underlying29 info43 rfl (by decide) (by omega) u103001 x103001_2 0 [.int .u8 0] (fun _ => True) (fun _ => False) rfl rfl ?aP (fun _ hk => hk.elim) ?aF ?aO ?aB ?aS ?aL ?_; (case aP => exact rfl); (case aB => exact (aL HB)); (case aF => exact (fun _ _ => trivial)); (case aO => exact (aR HO_103001)); (case aS => exact (zE (aL HB))); (case aL => have := LMc42.out; omega); intro v114 w46 ho hb hg hat; rw [← Ny113.out] at ho; replace HO_103000 := zA.mk (Kd.R_over' (aR HO_103000) (Kd.R_typed (aR HO_103001)) (by decide) hg); replace BK101 := zA.mk (blk_grown (g := gb101) (o := .cells #[.slice none 0 0, .slice none 0 0] 31 (0, 0)) (aB BK101) hg (Kd.R_ne HO_103001.out BK101.out (by decide))); replace BK102 := zA.mk (blk_grown (g := gb102) (o := .cells #[.slice Ao45 x103000_1.length co45, u103001] 31 (0, 0)) (aB BK102) hg (Kd.R_ne HO_103001.out BK102.out (by decide))); replace HB := zA.mk (hb); have HO115 := zA.mk (ho); clear HO_103001; clear ho hb hg hat; obtain ⟨Ao47, co47, eo47⟩ := Kd.zS HO115.out; subst eo47; obtain ⟨hcz48_0, hcz48_1, hfz48_0, hfz48_1⟩ := aC2 BK102))
    go_roundg k2
    case measure => have := HJ1.out; have := HK2.out; omega
    case rel => exact ⟨(wrap64 (x8_2 + 1)), (y113), (.slice Ao47 y113.length co47), aZ, H', ⟨by have := HJ1.out; have := HK2.out; omega⟩, ⟨by (with_reducible repeat (first | apply Kd.zI | apply Kd.zJ | apply Kd.zK)); exact Kd.zU (Kd.zR (p := ⟨gb102, 1, none⟩) (Kd.zV HO_103000.out BK102.out (by decide)) (fun _ hk => hk.2) (.slice Ao47 y113.length co47)) (fun _ hk => trivial)⟩, ⟨by (with_reducible repeat (first | apply Kd.zI | apply Kd.zJ | apply Kd.zK)); exact Kd.zU (Kd.zR (p := ⟨gb102, 1, none⟩) (Kd.zV HO115.out BK102.out (by decide)) (fun _ hk => hk.2) (.slice Ao47 y113.length co47)) (fun _ hk => trivial)⟩, ⟨by (with_reducible repeat (first | refine zF ?_ _ | refine zD ?_ | refine zG ?_ _)); refine blk_far ?_ NB101_102.out _; (with_reducible repeat (first | refine zF ?_ _ | refine zD ?_ | refine zG ?_ _)); exact BK101.out⟩, ⟨by (with_reducible repeat (first | refine zF ?_ _ | refine zD ?_ | refine zG ?_ _)); refine blk_put (cs := #[.slice Ao45 x103000_1.length co45, u103001]) ?_ 1 _ rfl; (with_reducible repeat (first | refine zF ?_ _ | refine zD ?_ | refine zG ?_ _)); exact BK102.out⟩, ⟨aL HB⟩⟩
   rw [if_pos c31] at H; have c31b0 : decide (0 < x8_2) = true := decide_eq_true c31
   clear c31; obtain ⟨ji32, hji32⟩ : ∃ j_ : Int, (wrap64 (x8_2 - 1)) = j_ := ⟨_, rfl⟩; replace H : (if 0 ≤ (ji32) then (if (ji32) < (l0.length : Int) then (if x103001_2.length < 140737488355328 then (h3_Para.l1 k2 l0 (wrap64 (x8_2 + 1)) x103000_1 (x103001_2 ++ [Int.tmod ((rd_T49 l0 (ji32)).f3) 4])) else (none)) else (none)) else (none)) = some (r1, r2) := by first | (rw [hji32] at H; exact H) | (simp only [hji32] at H ⊢; exact H)
   have hji32w : (IntKind.i64.wrap (x8_2 - 1)) = ji32 := (i64_w _).trans hji32
   by_cases c33 : 0 ≤ (ji32)
   rotate_left
   ·rw [if_neg c33] at H
    exact absurd H (by simp)
   rw [if_pos c33] at H; have c33b0 : decide (0 ≤ (ji32)) = true := decide_eq_true c33
   clear c33; by_cases c34 : (ji32) < (l0.length : Int)
   rotate_left
   ·rw [if_neg c34] at H
    exact absurd H (by simp)
   rw [if_pos c34] at H; have c34b0 : decide ((ji32) < (l0.length : Int)) = true := decide_eq_true c34
   clear c34; by_cases c35 : x103001_2.length < 140737488355328
   rotate_left
   ·rw [if_neg c35] at H
    exact absurd H (by simp)
   rw [if_pos c35] at H; have LMc35 := zA.mk c35; clear c35; obtain ⟨y110, hy110⟩ : ∃ y_ : List Int, y_ = (x103001_2 ++ [Int.tmod ((rd_T49 l0 (ji32)).f3) 4]) := ⟨_, rfl⟩; replace H : (h3_Para.l1 k2 l0 (wrap64 (x8_2 + 1)) x103000_1 y110) = some (r1, r2) := by first | (rw [hy110]; with_reducible exact H) | (have H2_ := (Option.bind_some _ _).symm.trans H; rw [hy110]; with_reducible exact H2_) | (have H2_ := (Option.bind_some _ _).symm.trans H; with_reducible exact H2_) | with_reducible exact H | (rw [hy110]; exact H) | exact H
   have Ny110 := zA.mk hy110; clear hy110; have H' := zA.mk H
   clear H; have hnb36 := NB102_101.out; have hnc36 := NB101_102.out; obtain ⟨hcz37_0, hcz37_1, hfz37_0, hfz37_1⟩ := aC2 BK102; obtain ⟨Ao38, co38, eo38⟩ := Kd.zS HO_103000.out; subst eo38; have p109 : 0 ≤ ((ji32) : Int) := aD
   have q109 : (ji32) < (l0.length : Int) := aD
   obtain ⟨ad109, e109, hx109_0, hx109_1, hx109_2, hx109_3⟩ := at_T49 HR0.out (ji32) p109 q109; cases e109
   replace hx109_0 := (HB.out.cell (World.block_lt_of_cell? w _ hx109_0)).trans hx109_0; replace hx109_1 := (HB.out.cell (World.block_lt_of_cell? w _ hx109_1)).trans hx109_1; replace hx109_2 := (HB.out.cell (World.block_lt_of_cell? w _ hx109_2)).trans hx109_2; replace hx109_3 := (HB.out.cell (World.block_lt_of_cell? w _ hx109_3)).trans hx109_3; replace p109 := eq_true p109; replace q109 := eq_true q109; go_wp2_with (first | ((with_reducible refine gate_builtin (b := .append) (xs := #[.tmp 66, .tmp 68]) rfl ?_); at_builtin; refine Kd.R_append (Kd.int .u8) (w0 := w) w.heap.size rfl (.tmp 66) (.tmp 68) 29 43 (.int .u8 0) 1 rfl Try.underlying29 info43 rfl (by decide) (by omega) u103001 x103001_2 (Int.tmod ((rd_T49 l0 (ji32)).f3) 4) [.int .u8 (Int.tmod ((rd_T49 l0 (ji32)).f3) 4)] (fun _ => True) (fun _ => False) rfl rfl ?aP (fun _ hk => hk.elim) ?aF ?aO ?aB ?aS ?aL ?_; (case aP => exact rfl); (case aB => exact (aL HB)); (case aF => exact (fun _ _ => trivial)); (case aO => exact (aR HO_103001)); (case aS => exact (zE (aL HB))); (case aL => have := LMc35.out; omega); intro v111 w39 ho hb hg hat; rw [← Ny110.out] at ho; replace HO_103000 := zA.mk (Kd.R_over' (aR HO_103000) (Kd.R_typed (aR HO_103001)) (by decide) hg); replace BK101 := zA.mk (blk_grown (g := gb101) (o := .cells #[.slice none 0 0, .slice none 0 0] 31 (0, 0)) (aB BK101) hg (Kd.R_ne HO_103001.out BK101.out (by decide))); replace BK102 := zA.mk (blk_grown (g := gb102) (o := .cells #[.slice Ao38 x103000_1.length co38, u103001] 31 (0, 0)) (aB BK102) hg (Kd.R_ne HO_103001.out BK102.out (by decide))); replace HB := zA.mk (hb); have HO112 := zA.mk (ho); clear HO_103001; clear ho hb hg hat; obtain ⟨Ao40, co40, eo40⟩ := Kd.zS HO112.out; subst eo40; obtain ⟨hcz41_0, hcz41_1, hfz41_0, hfz41_1⟩ := aC2 BK102))
   go_roundg k2
   case measure => have := HJ1.out; have := HK2.out; omega
   case rel => exact ⟨(wrap64 (x8_2 + 1)), (y110), (.slice Ao40 y110.length co40), aZ, H', ⟨by have := HJ1.out; have := HK2.out; omega⟩, ⟨by (with_reducible repeat (first | apply Kd.zI | apply Kd.zJ | apply Kd.zK)); exact Kd.zU (Kd.zR (p := ⟨gb102, 1, none⟩) (Kd.zV HO_103000.out BK102.out (by decide)) (fun _ hk => hk.2) (.slice Ao40 y110.length co40)) (fun _ hk => trivial)⟩, ⟨by (with_reducible repeat (first | apply Kd.zI | apply Kd.zJ | apply Kd.zK)); exact Kd.zU (Kd.zR (p := ⟨gb102, 1, none⟩) (Kd.zV HO112.out BK102.out (by decide)) (fun _ hk => hk.2) (.slice Ao40 y110.length co40)) (fun _ hk => trivial)⟩, ⟨by (with_reducible repeat (first | refine zF ?_ _ | refine zD ?_ | refine zG ?_ _)); refine blk_far ?_ NB101_102.out _; (with_reducible repeat (first | refine zF ?_ _ | refine zD ?_ | refine zG ?_ _)); exact BK101.out⟩, ⟨by (with_reducible repeat (first | refine zF ?_ _ | refine zD ?_ | refine zG ?_ _)); refine blk_put (cs := #[.slice Ao38 x103000_1.length co38, u103001]) ?_ 1 _ rfl; (with_reducible repeat (first | refine zF ?_ _ | refine zD ?_ | refine zG ?_ _)); exact BK102.out⟩, ⟨aL HB⟩⟩
def span_empty.f (a0_0 : Int) (a0_1 : Int) (a0_2 : Int) (a0_3 : Int) : Option (Bool) := if a0_3 = 1 then (some true) else (if a0_3 = 0 then (some (a0_2 == 0)) else (some false))
set_option maxHeartbeats 8000000 in
set_option maxRecDepth 100000 in
theorem span_empty.calls (a0_0 : Int) (a0_1 : Int) (a0_2 : Int) (a0_3 : Int) (r : Bool) (w : World) (h : span_empty.f a0_0 a0_1 a0_2 a0_3 = some r) :
  Calls Try.prog 32 #[.agg #[.int .i64 a0_0, .int .i64 a0_1, .int .i64 a0_2, .int .u8 a0_3]] w fun e w' => e = .returned (.bool r) ∧ Below w.heap.size w w' := by
 have hu61 := Try.underlying61; have HB := zA.mk (Below.refl w.heap.size w); have H : (if a0_3 = 1 then (some true) else (if a0_3 = 0 then (some (a0_2 == 0)) else (some false))) = some r := h
 clear h; by_cases c2 : a0_3 = 1
 ·rw [if_pos c2] at H
  have c2b0 : (a0_3 == 1) = true := beq_iff_eq.mpr c2
  have c2b1 : (a0_3 != 1) = false := bne_eq_false_iff_eq.mpr c2
  clear c2; obtain rfl := Option.some.inj H
  go_enter Try.func32, Try.ntmps32
  go_wp2_with (first | ((with_reducible refine gate_dst (N := 1) rfl ?_); refine box_event ?hg (N := 1) ?hd (cs := #[.int .i64 a0_0, .int .i64 a0_1, .int .i64 a0_2, .int .u8 a0_3]) (t := 61) ?hr ?_; (case hd => rfl); (case hg => rfl); (case hr => first | (go_simp; done) | (go_simp; rfl)); intro gb119 hg w3 hbox hb; have BK119 := zA.mk (hbox); have GW119 := zA.mk ((by rw [hg]; exact (zE (aL HB)) : w.heap.size ≤ gb119)); replace HB := zA.mk (zH (aL HB) hb); have GE119 := GW119; clear hb hbox hg; obtain ⟨hcz4_0, hcz4_1, hcz4_2, hcz4_3, hfz4_0, hfz4_1, hfz4_2, hfz4_3⟩ := aC4 BK119))
  go_ret
  exact ⟨aX, aL HB⟩
 rw [if_neg c2] at H; have c2b0 : (a0_3 == 1) = false := beq_eq_false_iff_ne.mpr c2
 have c2b1 : (a0_3 != 1) = true := bne_iff_ne.mpr c2
 by_cases c5 : a0_3 = 0
 ·rw [if_pos c5] at H
  have c5b0 : (a0_3 == 0) = true := beq_iff_eq.mpr c5
  have c5b1 : (a0_3 != 0) = false := bne_eq_false_iff_eq.mpr c5
  clear c5; obtain rfl := Option.some.inj H
  go_enter Try.func32, Try.ntmps32
  go_wp2_with (first | ((with_reducible refine gate_dst (N := 1) rfl ?_); refine box_event ?hg (N := 1) ?hd (cs := #[.int .i64 a0_0, .int .i64 a0_1, .int .i64 a0_2, .int .u8 a0_3]) (t := 61) ?hr ?_; (case hd => rfl); (case hg => rfl); (case hr => first | (go_simp; done) | (go_simp; rfl)); intro gb119 hg w6 hbox hb; have BK119 := zA.mk (hbox); have GW119 := zA.mk ((by rw [hg]; exact (zE (aL HB)) : w.heap.size ≤ gb119)); replace HB := zA.mk (zH (aL HB) hb); have GE119 := GW119; clear hb hbox hg; obtain ⟨hcz7_0, hcz7_1, hcz7_2, hcz7_3, hfz7_0, hfz7_1, hfz7_2, hfz7_3⟩ := aC4 BK119))
  go_ret
  exact ⟨aX, aL HB⟩
 rw [if_neg c5] at H; have c5b0 : (a0_3 == 0) = false := beq_eq_false_iff_ne.mpr c5
 have c5b1 : (a0_3 != 0) = true := bne_iff_ne.mpr c5
 obtain rfl := Option.some.inj H
 go_enter Try.func32, Try.ntmps32
 go_wp2_with (first | ((with_reducible refine gate_dst (N := 1) rfl ?_); refine box_event ?hg (N := 1) ?hd (cs := #[.int .i64 a0_0, .int .i64 a0_1, .int .i64 a0_2, .int .u8 a0_3]) (t := 61) ?hr ?_; (case hd => rfl); (case hg => rfl); (case hr => first | (go_simp; done) | (go_simp; rfl)); intro gb119 hg w8 hbox hb; have BK119 := zA.mk (hbox); have GW119 := zA.mk ((by rw [hg]; exact (zE (aL HB)) : w.heap.size ≤ gb119)); replace HB := zA.mk (zH (aL HB) hb); have GE119 := GW119; clear hb hbox hg; obtain ⟨hcz9_0, hcz9_1, hcz9_2, hcz9_3, hfz9_0, hfz9_1, hfz9_2, hfz9_3⟩ := aC4 BK119))
 go_ret
 exact ⟨aX, aL HB⟩
def span_Trim.l0 : Nat → Int → Int → List (S61) → List Int → Option (Int)
 | 0, _, _, _, _ => none
 | k + 1, x1, x2, x121000, x121001 => if x2 > x1 then (if 0 ≤ (wrap64 (x2 - 1)) then (if (wrap64 (x2 - 1)) < (x121000.length : Int) then ((span_empty.f ((rd_T61 x121000 (wrap64 (x2 - 1))).f0) ((rd_T61 x121000 (wrap64 (x2 - 1))).f1) ((rd_T61 x121000 (wrap64 (x2 - 1))).f2) ((rd_T61 x121000 (wrap64 (x2 - 1))).f3)).bind fun t122 => (if t122 = true then (span_Trim.l0 k x1 (wrap64 (x2 - 1)) x121000 x121001) else (some x2))) else (none)) else (none)) else (some x2)
def span_Trim.f (k : Nat) (l0_0 : List (S61)) (l0_1 : List Int) (a1 : Int) (a2 : Int) : Option (Int) := span_Trim.l0 k a1 a2 l0_0 l0_1
theorem span_Trim.mono_l : ∀ k, (∀ y0 y1 y2 y3, LeO (span_Trim.l0 k y0 y1 y2 y3) (span_Trim.l0 (k + 1) y0 y1 y2 y3))
 | 0 => fun _ _ _ _ r h => by simp [span_Trim.l0] at h
 | k + 1 => by
  have ih0 := span_Trim.mono_l k
  ·intro y0 y1 y2 y3
   unfold span_Trim.l0
   repeat' (with_reducible first | exact ih0 _ _ _ _ | exact LeO.refl _ | exact LeO.none _ | refine LeO.ite ?_ ?_ | refine LeO.bind ?_ (fun _ => ?_))
theorem span_Trim.mono : ∀ a0 a1 a2 a3 k, LeO (span_Trim.f k a0 a1 a2 a3) (span_Trim.f (k + 1) a0 a1 a2 a3) := by
 intro a0 a1 a2 a3 k
 have ih0 := span_Trim.mono_l k; unfold span_Trim.f
 repeat' (with_reducible first | exact ih0 _ _ _ _ | exact LeO.refl _ | exact LeO.none _ | refine LeO.ite ?_ ?_ | refine LeO.bind ?_ (fun _ => ?_))
set_option maxHeartbeats 8000000 in
set_option maxRecDepth 100000 in
theorem span_Trim.calls (k : Nat) (A0_0 : Option Addr) (c0_0 : Nat) (l0_0 : List (S61)) (A0_1 : Option Addr) (c0_1 : Nat) (l0_1 : List Int) (a1 : Int) (a2 : Int) (r : Int) (w : World) (hr0_0 : Kd.C k61 w A0_0 l0_0.length l0_0) (hc0_0 : l0_0.length ≤ c0_0) (hr0_1 : Kd.C (Kd.int .u8) w A0_1 l0_1.length l0_1) (hc0_1 : l0_1.length ≤ c0_1) (h : span_Trim.f k l0_0 l0_1 a1 a2 = some r) :
  Calls Try.prog 19 #[.agg #[.slice A0_0 l0_0.length c0_0, .slice A0_1 l0_1.length c0_1], .int .i64 a1, .int .i64 a2] w fun e w' => e = .returned (.int .i64 r) ∧ Below w.heap.size w w' := by
 have hu31 := Try.underlying31; have hu61 := Try.underlying61; have HR0_0 := zA.mk hr0_0; have HC0_0 := zA.mk hc0_0; clear hr0_0 hc0_0; have HR0_1 := zA.mk hr0_1; have HC0_1 := zA.mk hc0_1; clear hr0_1 hc0_1; have HB := zA.mk (Below.refl w.heap.size w); have H : (span_Trim.l0 k a1 a2 l0_0 l0_1) = some r := h
 clear h; have H' := zA.mk H
 clear H; go_enter Try.func19, Try.ntmps19
 go_wp2_with (first | ((with_reducible refine gate_dst (N := 3) rfl ?_); refine box_event ?hg (N := 3) ?hd (cs := #[.slice A0_0 l0_0.length c0_0, .slice A0_1 l0_1.length c0_1]) (t := 31) ?hr ?_; (case hd => rfl); (case hg => rfl); (case hr => first | (go_simp; done) | (go_simp; rfl)); intro gb120 hg w4 hbox hb; have BK120 := zA.mk (hbox); have GW120 := zA.mk ((by rw [hg]; exact (zE (aL HB)) : w.heap.size ≤ gb120)); replace HB := zA.mk (zH (aL HB) hb); have GE120 := GW120; clear hb hbox hg))
 go_loopg [2] k (fun kq v2 w' => ∃ (x2_1 : Int), v2 = .int .i64 x2_1 ∧ zA (span_Trim.l0 kq a1 x2_1 l0_0 l0_1 = some r) ∧ zA (kq ≤ k) ∧ zA (w'.heap[gb120]? = some (.cells #[(.slice A0_0 l0_0.length c0_0), (.slice A0_1 l0_1.length c0_1)] 31 (0, 0))) ∧ zA (Below w.heap.size w w'))
 case atStart => exact ⟨(a2), aZ, H', ⟨Nat.le_refl _⟩, ⟨aB BK120⟩, ⟨aL HB⟩⟩
 clear H'; obtain ⟨x2_1, rfl, HA, HK1, BK120, HB⟩ := hrel; cases gk with
 | zero => exact absurd HA.out (by simp [span_Trim.l0])
 | succ k1 =>
  have H := HA.out; clear HA; simp only [span_Trim.l0] at H; by_cases c5 : x2_1 > a1
  rotate_left
  ·rw [if_neg c5] at H
   have c5b0 : decide (a1 < x2_1) = false := decide_eq_false c5
   clear c5; obtain rfl := Option.some.inj H
   go_wp2
   go_ret
   exact ⟨aX, aL HB⟩
  rw [if_pos c5] at H; have c5b0 : decide (a1 < x2_1) = true := decide_eq_true c5
  clear c5; obtain ⟨ji6, hji6⟩ : ∃ j_ : Int, (wrap64 (x2_1 - 1)) = j_ := ⟨_, rfl⟩; replace H : (if 0 ≤ (ji6) then (if (ji6) < (l0_0.length : Int) then ((span_empty.f ((rd_T61 l0_0 (ji6)).f0) ((rd_T61 l0_0 (ji6)).f1) ((rd_T61 l0_0 (ji6)).f2) ((rd_T61 l0_0 (ji6)).f3)).bind fun t122 => (if t122 = true then (span_Trim.l0 k1 a1 ji6 l0_0 l0_1) else (some x2_1))) else (none)) else (none)) = some r := by first | (rw [hji6] at H; exact H) | (simp only [hji6] at H ⊢; exact H)
  have hji6w : (IntKind.i64.wrap (x2_1 - 1)) = ji6 := (i64_w _).trans hji6
  by_cases c7 : 0 ≤ (ji6)
  rotate_left
  ·rw [if_neg c7] at H
   exact absurd H (by simp)
  rw [if_pos c7] at H; have c7b0 : decide (0 ≤ (ji6)) = true := decide_eq_true c7
  clear c7; by_cases c8 : (ji6) < (l0_0.length : Int)
  rotate_left
  ·rw [if_neg c8] at H
   exact absurd H (by simp)
  rw [if_pos c8] at H; have c8b0 : decide ((ji6) < (l0_0.length : Int)) = true := decide_eq_true c8
  clear c8; replace H := Option.bind_eq_some_iff.mp H; obtain ⟨t122, A90, H⟩ := H; replace H : (if t122 = true then (span_Trim.l0 k1 a1 ji6 l0_0 l0_1) else (some x2_1)) = some r := H; have A9 := zA.mk A90; clear A90; by_cases c10 : t122 = true
  rotate_left
  ·replace c10 := Bool.eq_false_iff.mpr c10
   subst c10; have H1 : (some x2_1) = some r := by rw [if_neg (show ¬ (false = true) by decide)] at H; exact H
   clear H; have H := H1; clear H1; obtain rfl := Option.some.inj H
   obtain ⟨hcz13_0, hcz13_1, hfz13_0, hfz13_1⟩ := aC2 BK120; have p121 : 0 ≤ ((ji6) : Int) := aD
   have q121 : (ji6) < (l0_0.length : Int) := aD
   obtain ⟨ad121, e121, hx121_0, hx121_1, hx121_2, hx121_3⟩ := at_T61 HR0_0.out (ji6) p121 q121; cases e121
   replace hx121_0 := (HB.out.cell (World.block_lt_of_cell? w _ hx121_0)).trans hx121_0; replace hx121_1 := (HB.out.cell (World.block_lt_of_cell? w _ hx121_1)).trans hx121_1; replace hx121_2 := (HB.out.cell (World.block_lt_of_cell? w _ hx121_2)).trans hx121_2; replace hx121_3 := (HB.out.cell (World.block_lt_of_cell? w _ hx121_3)).trans hx121_3; replace p121 := eq_true p121; replace q121 := eq_true q121; go_wp2_with (first | (go_at_call 32; (with_reducible refine (span_empty.calls ((rd_T61 l0_0 (ji6)).f0) ((rd_T61 l0_0 (ji6)).f1) ((rd_T61 l0_0 (ji6)).f2) ((rd_T61 l0_0 (ji6)).f3) false _ A9.out).mono ?_); rintro e w14 ⟨rfl, hb⟩; replace BK120 := zA.mk (zB (aB BK120) hb); replace HB := zA.mk (zH (aL HB) hb); (try clear hb); (try clear hb2); (try clear hk); (try clear hi)))
   go_ret
   exact ⟨by first | rfl | (simp [errW_none, errW_some] <;> rfl) | (simp only [← hji6]; first | rfl | (simp [errW_none, errW_some] <;> rfl)) | (simp [*, errW_none, errW_some] <;> rfl), aL HB⟩
  subst c10; have H1 : (span_Trim.l0 k1 a1 ji6 l0_0 l0_1) = some r := by rw [if_pos rfl] at H; exact H
  clear H; have H := H1; clear H1; have H' := zA.mk H
  clear H; obtain ⟨hcz11_0, hcz11_1, hfz11_0, hfz11_1⟩ := aC2 BK120; have p121 : 0 ≤ ((ji6) : Int) := aD
  have q121 : (ji6) < (l0_0.length : Int) := aD
  obtain ⟨ad121, e121, hx121_0, hx121_1, hx121_2, hx121_3⟩ := at_T61 HR0_0.out (ji6) p121 q121; cases e121
  replace hx121_0 := (HB.out.cell (World.block_lt_of_cell? w _ hx121_0)).trans hx121_0; replace hx121_1 := (HB.out.cell (World.block_lt_of_cell? w _ hx121_1)).trans hx121_1; replace hx121_2 := (HB.out.cell (World.block_lt_of_cell? w _ hx121_2)).trans hx121_2; replace hx121_3 := (HB.out.cell (World.block_lt_of_cell? w _ hx121_3)).trans hx121_3; replace p121 := eq_true p121; replace q121 := eq_true q121; go_wp2_with (first | (go_at_call 32; (with_reducible refine (span_empty.calls ((rd_T61 l0_0 (ji6)).f0) ((rd_T61 l0_0 (ji6)).f1) ((rd_T61 l0_0 (ji6)).f2) ((rd_T61 l0_0 (ji6)).f3) true _ A9.out).mono ?_); rintro e w12 ⟨rfl, hb⟩; replace BK120 := zA.mk (zB (aB BK120) hb); replace HB := zA.mk (zH (aL HB) hb); (try clear hb); (try clear hb2); (try clear hk); (try clear hi)))
  go_roundg k1
  case measure => have := HK1.out; omega
  case rel => exact ⟨(ji6), (by first | rfl | (simp; done) | (simp only [← hji6] <;> (first | rfl | simp)) | (simp [*]; done)), H', ⟨by have := HK1.out; omega⟩, ⟨aB BK120⟩, ⟨aL HB⟩⟩
def span_Next.f (a0_0 : Int) (a0_1 : Int) (a0_2 : Int) (a0_3 : Int) (a1 : Int) (a2 : Int) : Option (Int) := if a0_3 = 2 then (if a2 = 0 then (none) else (some (wrap64 ((wrap64 (a1 + a2)) - (Int.tmod a1 a2))))) else (some (wrap64 (a1 + a0_2)))
set_option maxHeartbeats 8000000 in
set_option maxRecDepth 100000 in
theorem span_Next.calls (a0_0 : Int) (a0_1 : Int) (a0_2 : Int) (a0_3 : Int) (a1 : Int) (a2 : Int) (r : Int) (w : World) (h : span_Next.f a0_0 a0_1 a0_2 a0_3 a1 a2 = some r) :
  Calls Try.prog 40 #[.agg #[.int .i64 a0_0, .int .i64 a0_1, .int .i64 a0_2, .int .u8 a0_3], .int .i64 a1, .int .i64 a2] w fun e w' => e = .returned (.int .i64 r) ∧ Below w.heap.size w w' := by
 have hu61 := Try.underlying61; have HB := zA.mk (Below.refl w.heap.size w); have H : (if a0_3 = 2 then (if a2 = 0 then (none) else (some (wrap64 ((wrap64 (a1 + a2)) - (Int.tmod a1 a2))))) else (some (wrap64 (a1 + a0_2)))) = some r := h
 clear h; by_cases c4 : a0_3 = 2
 rotate_left
 ·rw [if_neg c4] at H
  have c4b0 : (a0_3 == 2) = false := beq_eq_false_iff_ne.mpr c4
  have c4b1 : (a0_3 != 2) = true := bne_iff_ne.mpr c4
  obtain rfl := Option.some.inj H
  go_enter Try.func40, Try.ntmps40
  go_wp2_with (first | ((with_reducible refine gate_dst (N := 3) rfl ?_); refine box_event ?hg (N := 3) ?hd (cs := #[.int .i64 a0_0, .int .i64 a0_1, .int .i64 a0_2, .int .u8 a0_3]) (t := 61) ?hr ?_; (case hd => rfl); (case hg => rfl); (case hr => first | (go_simp; done) | (go_simp; rfl)); intro gb123 hg w8 hbox hb; have BK123 := zA.mk (hbox); have GW123 := zA.mk ((by rw [hg]; exact (zE (aL HB)) : w.heap.size ≤ gb123)); replace HB := zA.mk (zH (aL HB) hb); have GE123 := GW123; clear hb hbox hg; obtain ⟨hcz9_0, hcz9_1, hcz9_2, hcz9_3, hfz9_0, hfz9_1, hfz9_2, hfz9_3⟩ := aC4 BK123))
  go_ret
  exact ⟨aX, aL HB⟩
 rw [if_pos c4] at H; have c4b0 : (a0_3 == 2) = true := beq_iff_eq.mpr c4
 have c4b1 : (a0_3 != 2) = false := bne_eq_false_iff_eq.mpr c4
 clear c4; by_cases c5 : a2 = 0
 ·rw [if_pos c5] at H
  exact absurd H (by simp)
 rw [if_neg c5] at H; have c5b0 : (a2 == 0) = false := beq_eq_false_iff_ne.mpr c5
 have c5b1 : (a2 != 0) = true := bne_iff_ne.mpr c5
 obtain rfl := Option.some.inj H
 go_enter Try.func40, Try.ntmps40
 go_wp2_with (first | ((with_reducible refine gate_dst (N := 3) rfl ?_); refine box_event ?hg (N := 3) ?hd (cs := #[.int .i64 a0_0, .int .i64 a0_1, .int .i64 a0_2, .int .u8 a0_3]) (t := 61) ?hr ?_; (case hd => rfl); (case hg => rfl); (case hr => first | (go_simp; done) | (go_simp; rfl)); intro gb123 hg w6 hbox hb; have BK123 := zA.mk (hbox); have GW123 := zA.mk ((by rw [hg]; exact (zE (aL HB)) : w.heap.size ≤ gb123)); replace HB := zA.mk (zH (aL HB) hb); have GE123 := GW123; clear hb hbox hg; obtain ⟨hcz7_0, hcz7_1, hcz7_2, hcz7_3, hfz7_0, hfz7_1, hfz7_2, hfz7_3⟩ := aC4 BK123))
 go_ret
 exact ⟨aX, aL HB⟩
def span_Columns.l0 : Nat → Int → Int → List Int → Int → List (S61) → List Int → Option (List Int)
 | 0, _, _, _, _, _, _ => none
 | k + 1, x2, x3, x9, x10, x125000, x125001 => if x10 < x2 then (if 0 ≤ x10 then (if x10 < (x125000.length : Int) then (if 0 ≤ (wrap64 ((x9.length : Int) - 1)) then (if (wrap64 ((x9.length : Int) - 1)) < (x9.length : Int) then ((span_Next.f ((rd_T61 x125000 x10).f0) ((rd_T61 x125000 x10).f1) ((rd_T61 x125000 x10).f2) ((rd_T61 x125000 x10).f3) (rd x9 (wrap64 ((x9.length : Int) - 1))) x3).bind fun t130 => (if x9.length < 17592186044416 then (span_Columns.l0 k x2 x3 (x9 ++ [t130]) (wrap64 (x10 + 1)) x125000 x125001) else (none))) else (none)) else (none)) else (none)) else (none)) else (some x9)
def span_Columns.f (k : Nat) (l0_0 : List (S61)) (l0_1 : List Int) (a1 : Int) (a2 : Int) (a3 : Int) : Option (List Int) := span_Columns.l0 k a2 a3 (([0] : List Int)) a1 l0_0 l0_1
theorem span_Columns.mono_l : ∀ k, (∀ y0 y1 y2 y3 y4 y5, LeO (span_Columns.l0 k y0 y1 y2 y3 y4 y5) (span_Columns.l0 (k + 1) y0 y1 y2 y3 y4 y5))
 | 0 => fun _ _ _ _ _ _ r h => by simp [span_Columns.l0] at h
 | k + 1 => by
  have ih0 := span_Columns.mono_l k
  ·intro y0 y1 y2 y3 y4 y5
   unfold span_Columns.l0
   repeat' (with_reducible first | exact ih0 _ _ _ _ _ _ | exact LeO.refl _ | exact LeO.none _ | refine LeO.ite ?_ ?_ | refine LeO.bind ?_ (fun _ => ?_))
theorem span_Columns.mono : ∀ a0 a1 a2 a3 a4 k, LeO (span_Columns.f k a0 a1 a2 a3 a4) (span_Columns.f (k + 1) a0 a1 a2 a3 a4) := by
 intro a0 a1 a2 a3 a4 k
 have ih0 := span_Columns.mono_l k; unfold span_Columns.f
 repeat' (with_reducible first | exact ih0 _ _ _ _ _ _ | exact LeO.refl _ | exact LeO.none _ | refine LeO.ite ?_ ?_ | refine LeO.bind ?_ (fun _ => ?_))
def span_Columns.T5 : Bool × List (List Nat × List Nat) := (true, [([], []), ([], []), ([1], [1]), ([], []), ([2, 3], [2, 3]), ([4], [4]), ([], []), ([], []), ([7], [7]), ([8], [8]), ([6, 9], [6, 9]), ([10], [10]), ([], []), ([5, 11, 12], [5, 11, 12]), ([13], [13]), ([0, 14, 13], [0, 14]), ([15, 15, 0, 1, 2, 3, 4, 5, 6, 7, 8, 9, 10, 11, 12, 13, 14, 15], [0, 6, 7, 15])])
def span_Columns.B5 : List Nat := [0, 0, 2, 0, 14, 30, 0, 0, 128, 384, 960, 1984, 0, 8190, 16382, 32767, 65535]
theorem span_Columns.tab5 : rtab .any (opsOf Try.f33 5) = span_Columns.T5 := by kernel_rfl
theorem span_Columns.bits5 : waitsOk span_Columns.T5.2 span_Columns.B5 = true := by kernel_rfl
set_option maxHeartbeats 8000000 in
set_option maxRecDepth 100000 in
theorem span_Columns.calls (k : Nat) (A0_0 : Option Addr) (c0_0 : Nat) (l0_0 : List (S61)) (A0_1 : Option Addr) (c0_1 : Nat) (l0_1 : List Int) (a1 : Int) (a2 : Int) (a3 : Int) (r : List Int) (w : World) (hr0_0 : Kd.C k61 w A0_0 l0_0.length l0_0) (hc0_0 : l0_0.length ≤ c0_0) (hr0_1 : Kd.C (Kd.int .u8) w A0_1 l0_1.length l0_1) (hc0_1 : l0_1.length ≤ c0_1) (h : span_Columns.f k l0_0 l0_1 a1 a2 a3 = some r) :
  Calls Try.prog 33 #[.agg #[.slice A0_0 l0_0.length c0_0, .slice A0_1 l0_1.length c0_1], .int .i64 a1, .int .i64 a2, .int .i64 a3] w fun e w' => ∃ v0_ : Value, e = .returned (v0_) ∧ Kd.R (Kd.int .i64) 3 w' w.heap.size (fun _ => True) v0_ r ∧ Below w.heap.size w w' := by
 have hu31 := Try.underlying31; have hu61 := Try.underlying61; have HR0_0 := zA.mk hr0_0; have HC0_0 := zA.mk hc0_0; clear hr0_0 hc0_0; have HR0_1 := zA.mk hr0_1; have HC0_1 := zA.mk hc0_1; clear hr0_1 hc0_1; have HB := zA.mk (Below.refl w.heap.size w); have H : (span_Columns.l0 k a2 a3 (([0] : List Int)) a1 l0_0 l0_1) = some r := h
 clear h; obtain ⟨y125, hy125⟩ : ∃ y_ : List Int, y_ = (([0] : List Int)) := ⟨_, rfl⟩; replace H : (span_Columns.l0 k a2 a3 y125 a1 l0_0 l0_1) = some r := by first | (rw [hy125]; with_reducible exact H) | (have H2_ := (Option.bind_some _ _).symm.trans H; rw [hy125]; with_reducible exact H2_) | (have H2_ := (Option.bind_some _ _).symm.trans H; with_reducible exact H2_) | with_reducible exact H | (rw [hy125]; exact H) | exact H
 have Ny125 := zA.mk hy125; clear hy125; have H' := zA.mk H
 clear H; go_enter Try.func33, Try.ntmps33
 go_wp2_with (first | ((with_reducible refine gate_dst (N := 4) rfl ?_); refine box_event ?hg (N := 4) ?hd (cs := #[.slice A0_0 l0_0.length c0_0, .slice A0_1 l0_1.length c0_1]) (t := 31) ?hr ?_; (case hd => rfl); (case hg => rfl); (case hr => first | (go_simp; done) | (go_simp; rfl)); intro gb124 hg w5 hbox hb; have BK124 := zA.mk (hbox); have GW124 := zA.mk ((by rw [hg]; exact (zE (aL HB)) : w.heap.size ≤ gb124)); replace HB := zA.mk (zH (aL HB) hb); have GE124 := GW124; clear hb hbox hg) | ((with_reducible refine gate_dst (N := 11) rfl ?_); refine Kd.R_lit (Kd.int .i64) _ 3 ?hg (N := 11) ?hd (xs := ([0] : List Int)) (inner := [.int .i64 0]) (ok := fun _ => True) (okp := fun _ => True) ?hr ?hp (fun _ hk => hk) trivial (Below.refl _ _) (Nat.le_refl _) (by simp) ?_; (case hd => rfl); (case hg => rfl); (case hr => first | (go_simp; done) | (go_simp; rfl)); (case hp => exact (Reps.one (show Kd.M (Kd.int .i64) _ _ _ 0 [.int .i64 0] from rfl) (Reps.none _ _))); intro v126 w6 ho7 hb hg_ hnew_; clear hg_ hnew_; (first | rw [← Ny125.out] at ho7 | (simp only [Int.reduceToNat] at ho7; rw [← Ny125.out] at ho7)); have HO127 := zA.mk (Kd.zT ho7 (zE (aL HB))); replace BK124 := zA.mk (zB (aB BK124) hb); replace HB := zA.mk (zH (aL HB) hb); clear hb ho7))
 go_loopg [9, 10] k (fun kq v9 v10 w' => ∃ (x9_1 : List Int) (x10_1 : Int), v10 = .int .i64 x10_1 ∧ zA (span_Columns.l0 kq a2 a3 x9_1 x10_1 l0_0 l0_1 = some r) ∧ zA (kq ≤ k) ∧ zA (Kd.R (Kd.int .i64) 3 w' w.heap.size (fun _ => True) v9 x9_1) ∧ zA (w'.heap[gb124]? = some (.cells #[(.slice A0_0 l0_0.length c0_0), (.slice A0_1 l0_1.length c0_1)] 31 (0, 0))) ∧ zA (Below w.heap.size w w'))
 case atStart => exact ⟨(y125), (a1), aZ, H', ⟨Nat.le_refl _⟩, ⟨aR HO127⟩, ⟨aB BK124⟩, ⟨aL HB⟩⟩
 clear H'; obtain ⟨x9_1, x10_1, rfl, HA, HK1, HO_9, BK124, HB⟩ := hrel; cases gk with
 | zero => exact absurd HA.out (by simp [span_Columns.l0])
 | succ k1 =>
  have H := HA.out; clear HA; simp only [span_Columns.l0] at H; by_cases c8 : x10_1 < a2
  rotate_left
  ·rw [if_neg c8] at H
   have c8b0 : decide (x10_1 < a2) = false := decide_eq_false c8
   clear c8; obtain rfl := Option.some.inj H
   go_wp2
   go_ret
   exact ⟨_, aX, aR HO_9, aL HB⟩
  rw [if_pos c8] at H; have c8b0 : decide (x10_1 < a2) = true := decide_eq_true c8
  clear c8; by_cases c9 : 0 ≤ x10_1
  rotate_left
  ·rw [if_neg c9] at H
   exact absurd H (by simp)
  rw [if_pos c9] at H; have c9b0 : decide (0 ≤ x10_1) = true := decide_eq_true c9
  clear c9; by_cases c10 : x10_1 < (l0_0.length : Int)
  rotate_left
  ·rw [if_neg c10] at H
   exact absurd H (by simp)
  rw [if_pos c10] at H; have c10b0 : decide (x10_1 < (l0_0.length : Int)) = true := decide_eq_true c10
  clear c10; obtain ⟨ji11, hji11⟩ : ∃ j_ : Int, (wrap64 ((x9_1.length : Int) - 1)) = j_ := ⟨_, rfl⟩; replace H : (if 0 ≤ (ji11) then (if (ji11) < (x9_1.length : Int) then ((span_Next.f ((rd_T61 l0_0 x10_1).f0) ((rd_T61 l0_0 x10_1).f1) ((rd_T61 l0_0 x10_1).f2) ((rd_T61 l0_0 x10_1).f3) (rd x9_1 (ji11)) a3).bind fun t130 => (if x9_1.length < 17592186044416 then (span_Columns.l0 k1 a2 a3 (x9_1 ++ [t130]) (wrap64 (x10_1 + 1)) l0_0 l0_1) else (none))) else (none)) else (none)) = some r := by first | (rw [hji11] at H; exact H) | (simp only [hji11] at H ⊢; exact H)
  have hji11w : (IntKind.i64.wrap ((x9_1.length : Int) - 1)) = ji11 := (i64_w _).trans hji11
  by_cases c12 : 0 ≤ (ji11)
  rotate_left
  ·rw [if_neg c12] at H
   exact absurd H (by simp)
  rw [if_pos c12] at H; have c12b0 : decide (0 ≤ (ji11)) = true := decide_eq_true c12
  clear c12; by_cases c13 : (ji11) < (x9_1.length : Int)
  rotate_left
  ·rw [if_neg c13] at H
   exact absurd H (by simp)
  rw [if_pos c13] at H; have c13b0 : decide ((ji11) < (x9_1.length : Int)) = true := decide_eq_true c13
  clear c13; replace H := Option.bind_eq_some_iff.mp H; obtain ⟨t130, A140, H⟩ := H; replace H : (if x9_1.length < 17592186044416 then (span_Columns.l0 k1 a2 a3 (x9_1 ++ [t130]) (wrap64 (x10_1 + 1)) l0_0 l0_1) else (none)) = some r := H; have A14 := zA.mk A140; clear A140; by_cases c15 : x9_1.length < 17592186044416
  rotate_left
  ·rw [if_neg c15] at H
   exact absurd H (by simp)
  rw [if_pos c15] at H; have LMc15 := zA.mk c15; clear c15; obtain ⟨y131, hy131⟩ : ∃ y_ : List Int, y_ = (x9_1 ++ [t130]) := ⟨_, rfl⟩; replace H : (span_Columns.l0 k1 a2 a3 y131 (wrap64 (x10_1 + 1)) l0_0 l0_1) = some r := by first | (rw [hy131]; with_reducible exact H) | (have H2_ := (Option.bind_some _ _).symm.trans H; rw [hy131]; with_reducible exact H2_) | (have H2_ := (Option.bind_some _ _).symm.trans H; with_reducible exact H2_) | with_reducible exact H | (rw [hy131]; exact H) | exact H
  have Ny131 := zA.mk hy131; clear hy131; have H' := zA.mk H
  clear H; try go_wp2
  replace HO_9 := zA.mk (Kd.zK HO_9.out); replace BK124 := zA.mk (zD BK124.out); replace HB := zA.mk (below_drew1 HB.out); have p128 : 0 ≤ (x10_1 : Int) := aD
  have q128 : x10_1 < (l0_0.length : Int) := aD
  obtain ⟨ad128, e128, hx128_0, hx128_1, hx128_2, hx128_3⟩ := at_T61 HR0_0.out x10_1 p128 q128; have hw128_3 := hx128_3; have hw128_2 := hx128_2; have hw128_1 := hx128_1; have hw128_0 := hx128_0; cases e128
  replace hx128_0 := (HB.out.cell (World.block_lt_of_cell? w _ hx128_0)).trans hx128_0; replace hx128_1 := (HB.out.cell (World.block_lt_of_cell? w _ hx128_1)).trans hx128_1; replace hx128_2 := (HB.out.cell (World.block_lt_of_cell? w _ hx128_2)).trans hx128_2; replace hx128_3 := (HB.out.cell (World.block_lt_of_cell? w _ hx128_3)).trans hx128_3; replace p128 := eq_true p128; replace q128 := eq_true q128; obtain ⟨Ao17, co17, eo17⟩ := Kd.zS HO_9.out; (first | subst eo17 | (injection eo17 with f1_ f2_ f3_; have f4_ := f1_.symm; have f5_ := f3_.symm; clear f1_ f2_ f3_; subst f4_; subst f5_))
  have p129 : 0 ≤ ((ji11) : Int) := aD
  have q129 : (ji11) < (x9_1.length : Int) := aD
  obtain ⟨ad129, e129, hx129_0⟩ := Kd.at_int (Kd.zP HO_9.out).2.2 (ji11) p129 q129; cases e129
  replace p129 := eq_true p129; replace q129 := eq_true q129; refine start_ (n := 17) (S := fun w' => w'.cell? ⟨gb124, 0, none⟩ = some (.slice (some ad128) l0_0.length c0_0) ∧ w'.cell? ⟨gb124, 1, none⟩ = some (.slice A0_1 l0_1.length c0_1) ∧ w'.cell? (ad128.add ((x10_1).toNat * 4)) = some (.int .i64 ((rd_T61 l0_0 x10_1).f0)) ∧ w'.cell? ⟨(ad128.add ((x10_1).toNat * 4)).block, (ad128.add ((x10_1).toNat * 4)).off + 1, none⟩ = some (.int .i64 ((rd_T61 l0_0 x10_1).f1)) ∧ w'.cell? ⟨(ad128.add ((x10_1).toNat * 4)).block, (ad128.add ((x10_1).toNat * 4)).off + 2, none⟩ = some (.int .i64 ((rd_T61 l0_0 x10_1).f2)) ∧ w'.cell? ⟨(ad128.add ((x10_1).toNat * 4)).block, (ad128.add ((x10_1).toNat * 4)).off + 3, none⟩ = some (.int .u8 ((rd_T61 l0_0 x10_1).f3)) ∧ w'.cell? (ad129.add ((ji11)).toNat) = some (.int .i64 (rd x9_1 (ji11)))) (ds := [14, 15]) #[false, false, false, false, false, false, false, false, false, false, false, false, false, false, false, false, false] (by kernel_rfl) rfl rfl ⟨(zC BK124.out 0).trans rfl, (zC BK124.out 1).trans rfl, ((HB.out.cell (World.block_lt_of_cell? w _ hw128_0)).trans hw128_0), ((HB.out.cell (World.block_lt_of_cell? w _ hw128_1)).trans hw128_1), ((HB.out.cell (World.block_lt_of_cell? w _ hw128_2)).trans hw128_2), ((HB.out.cell (World.block_lt_of_cell? w _ hw128_3)).trans hw128_3), hx129_0⟩ (fun hHeld => ?_); refine with_tabW span_Columns.tab5 span_Columns.bits5 (fun HT_ HW_ => ?_)
  generalize wr.drew = w16 at HO_9 BK124 HB hx128_0 hx128_1 hx128_2 hx128_3 hx129_0 hHeld ⊢
  refine aP 0 (some 18) (tf_ 1 17) HT_ ?_
  refine aP 1 (some 19) (tf_ 2 17) HT_ ?_
  refine aP 3 (some 21) (tb_ 11 17) HT_ ?_
  refine aP 6 (some 24) (tb_ 75 17) HT_ ?_
  refine aP 7 (some 25) (tb_ 203 17) HT_ ?_
  refine aP 8 (some 26) (tb_ 459 17) HT_ ?_
  refine aP 9 (some 27) (tb_ 971 17) HT_ ?_
  refine aP 10 (some 28) (tb_ 1995 17) HT_ ?_
  refine aP 12 (some 30) (tb_ 6091 17) HT_ ?_
  refine take_ (i := 2) (N := some 20) (v := ?_) (a' := ?_) (tb_ 6095 17) rfl rfl (take_ofW HT_.out HW_.out (by kernel_rfl)) (fun _ _ _ h => h) (Or.inl ⟨by rfl, ?_⟩) hHeld ?_ ?_
  rotate_left
  ·rintro w' ⟨s0, s1, s2, s3, s4, s5, s6⟩
   go_simp
   with_reducible rfl
  rotate_left
  ·simp only [Act.put, sA_, sB_, sC_, i64_w, i32_w]
   rfl
  refine aP 4 (some 22) (tb_ 6111 17) HT_ ?_
  refine take_ (i := 5) (N := some 23) (v := ?_) (a' := ?_) (tb_ 6143 17) rfl rfl (take_ofW HT_.out HW_.out (by kernel_rfl)) (fun _ _ _ h => h) (Or.inl ⟨by rfl, ?_⟩) hHeld ?_ ?_
  rotate_left
  ·rintro w' ⟨s0, s1, s2, s3, s4, s5, s6⟩
   go_simp
   with_reducible rfl
  rotate_left
  ·simp only [Act.put, sA_, sB_, sC_, i64_w, i32_w]
   rfl
  refine take_ (i := 11) (N := some 29) (v := ?_) (a' := ?_) (tf_ 13 17) rfl rfl (take_ofW HT_.out HW_.out (by kernel_rfl)) (fun _ _ _ h => h) (Or.inl ⟨by rfl, ?_⟩) hHeld ?_ ?_
  rotate_left
  ·rintro w' ⟨s0, s1, s2, s3, s4, s5, s6⟩
   go_simp
   with_reducible rfl
  rotate_left
  ·simp only [Act.put, sA_, sB_, sC_, i64_w, i32_w]
   rfl
  refine one_ (i := 13) (N := some 31) (tb_ 16383 17) rfl rfl (one_of HT_.out (by kernel_rfl)) (by decide) (fun K hK => ?_)
  refine goes_ Try.func40 (by kernel_rfl) rfl #[.agg #[.int .i64 ((rd_T61 l0_0 x10_1).f0), .int .i64 ((rd_T61 l0_0 x10_1).f1), .int .i64 ((rd_T61 l0_0 x10_1).f2), .int .u8 ((rd_T61 l0_0 x10_1).f3)], .int .i64 (rd x9_1 (ji11)), .int .i64 a3] (by rfl) rfl rfl (by (try simp only [List.map_toArray, List.map_cons, List.map_nil]); first | done | (simp only [hji11]; rfl) | rfl | (simp only [List.length_drop, List.length_take]; rfl)) ?_
  with_reducible refine (span_Next.calls ((rd_T61 l0_0 x10_1).f0) ((rd_T61 l0_0 x10_1).f1) ((rd_T61 l0_0 x10_1).f2) ((rd_T61 l0_0 x10_1).f3) (rd x9_1 (ji11)) a3 t130 _ A14.out).mono ?_
  rintro e w18 ⟨rfl, hb⟩
  have HS6_ := (hb.cell (World.block_lt_of_cell? _ _ (hHeld.2.2.2.2.2.2))).trans (hHeld.2.2.2.2.2.2); refine ⟨_, rfl, ?_⟩
  replace HO_9 := zA.mk (Kd.zQ (aR HO_9) hb); replace BK124 := zA.mk (zB (aB BK124) hb); replace HB := zA.mk (zH (aL HB) hb); (try clear hb)
  (try clear hb2)
  (try clear hk)
  (try clear hi)
  refine hK.out _ _ ⟨(zC BK124.out 0).trans rfl, (zC BK124.out 1).trans rfl, ((HB.out.cell (World.block_lt_of_cell? w _ hw128_0)).trans hw128_0), ((HB.out.cell (World.block_lt_of_cell? w _ hw128_1)).trans hw128_1), ((HB.out.cell (World.block_lt_of_cell? w _ hw128_2)).trans hw128_2), ((HB.out.cell (World.block_lt_of_cell? w _ hw128_3)).trans hw128_3), HS6_⟩ (fun hHeld => ?_)
  clear hK K; refine norm_ (a' := ?_) ?_ ?_
  rotate_left
  ·show Act.put _ (some 31) _ = _
   simp only [Act.put, sA_, sB_, sC_, i64_w, i32_w]; rfl
  refine last_ (i := 14) (N := some 32) (tb_ 32767 17) rfl rfl (one_of HT_.out (by kernel_rfl)) (by decide) (fun K hK => ?_)
  refine value_ (w1 := ?_) (v := ?_) (by rfl) rfl ?_ ?_
  rotate_left 2
  ·go_simp
   constructor
   ·rfl
   rfl
  refine hK.out _ _ ?_
  clear hK K; refine norm_ (a' := ?_) ?_ ?_
  rotate_left
  ·show Act.put _ (some 32) _ = _
   simp only [Act.put, sA_, sB_, sC_, i64_w, i32_w]; rfl
  refine last_ (i := 15) (N := some 33) (tb_ 65535 17) rfl rfl (one_of HT_.out (by kernel_rfl)) (by decide) (fun K hK => ?_)
  refine Kd.R_append_step (Kd.int .i64) (w0 := w) w.heap.size (by rfl) (.tmp 18) (.tmp 32) 37 3 (.int .i64 0) 8 rfl Try.underlying37 info3 rfl (by decide) (by omega) (.slice (some ad129) x9_1.length co17) x9_1 t130 [.int .i64 t130] (fun _ => True) (fun _ => False) rfl rfl ?aP (fun _ hk => hk.elim) ?aF ?aO ?aB ?aS ?aL ?_
  (case aP => exact rfl)
  (case aB => exact (aL HB))
  (case aF => exact (fun _ _ => trivial))
  (case aO => exact (aR HO_9))
  (case aS => exact (zE (aL HB)))
  (case aL => have := LMc15.out; omega)
  intro v132 w19 ho hb hg hat
  rw [← Ny131.out] at ho; replace BK124 := zA.mk (blk_grown (g := gb124) (o := .cells #[.slice (some ad128) l0_0.length c0_0, .slice A0_1 l0_1.length c0_1] 31 (0, 0)) (aB BK124) hg (Kd.R_ne HO_9.out BK124.out (by decide)))
  replace HB := zA.mk (hb); have HO133 := zA.mk (ho); clear HO_9; clear ho hb hg hat; refine hK.out _ _ ?_
  clear hK K; refine norm_ (a' := ?_) ?_ ?_
  rotate_left
  ·show Act.put _ (some 33) _ = _
   simp only [Act.put, sA_, sB_, sC_, i64_w, i32_w]; rfl
  refine aP 16 (some 9) (tb_ 131071 17) HT_ ?_
  refine done_ (done_of HT_.out (by kernel_rfl)) ?_
  try go_wp2
  go_roundg k1
  case measure => have := HK1.out; omega
  case rel => exact ⟨(y131), (wrap64 (x10_1 + 1)), aZ, H', ⟨by have := HK1.out; omega⟩, ⟨aR HO133⟩, ⟨aB BK124⟩, ⟨aL HB⟩⟩
def span_Cells.f (k : Nat) (l0_0 : List (S61)) (l0_1 : List Int) (a1 : Int) (a2 : Int) (a3 : Int) (a4 : Int) : Option (Int) := (span_Trim.f k l0_0 l0_1 a1 a2).bind fun t135 => ((span_Columns.f k l0_0 l0_1 a1 t135 a4).bind fun t136 => (if 0 ≤ (wrap64 ((t136.length : Int) - 1)) then (if (wrap64 ((t136.length : Int) - 1)) < (t136.length : Int) then (if a3 = 3 then (some (wrap64 ((rd t136 (wrap64 ((t136.length : Int) - 1))) + 1))) else (some (rd t136 (wrap64 ((t136.length : Int) - 1))))) else (none)) else (none)))
theorem span_Cells.mono : ∀ a0 a1 a2 a3 a4 a5 k, LeO (span_Cells.f k a0 a1 a2 a3 a4 a5) (span_Cells.f (k + 1) a0 a1 a2 a3 a4 a5) := by
 intro a0 a1 a2 a3 a4 a5 k
 unfold span_Cells.f
 repeat' (with_reducible first | exact span_Columns.mono _ _ _ _ _ _ | exact span_Trim.mono _ _ _ _ _ | exact LeO.refl _ | exact LeO.none _ | refine LeO.ite ?_ ?_ | refine LeO.bind ?_ (fun _ => ?_))
def span_Cells.T1 : Bool × List (List Nat × List Nat) := (true, [([], []), ([], []), ([], []), ([], []), ([], []), ([2, 3, 4], [2, 3, 4]), ([], []), ([0, 1, 5, 6, 5], [0, 1, 5, 6]), ([7, 7, 0, 1, 2, 3, 4, 5, 6, 7], [7])])
def span_Cells.B1 : List Nat := [0, 0, 0, 0, 0, 28, 0, 127, 255]
theorem span_Cells.tab1 : rtab .any (opsOf Try.f20 1) = span_Cells.T1 := by kernel_rfl
theorem span_Cells.bits1 : waitsOk span_Cells.T1.2 span_Cells.B1 = true := by kernel_rfl
set_option maxHeartbeats 8000000 in
set_option maxRecDepth 100000 in
theorem span_Cells.calls (k : Nat) (A0_0 : Option Addr) (c0_0 : Nat) (l0_0 : List (S61)) (A0_1 : Option Addr) (c0_1 : Nat) (l0_1 : List Int) (a1 : Int) (a2 : Int) (a3 : Int) (a4 : Int) (r : Int) (w : World) (hr0_0 : Kd.C k61 w A0_0 l0_0.length l0_0) (hc0_0 : l0_0.length ≤ c0_0) (hr0_1 : Kd.C (Kd.int .u8) w A0_1 l0_1.length l0_1) (hc0_1 : l0_1.length ≤ c0_1) (h : span_Cells.f k l0_0 l0_1 a1 a2 a3 a4 = some r) :
  Calls Try.prog 20 #[.agg #[.slice A0_0 l0_0.length c0_0, .slice A0_1 l0_1.length c0_1], .int .i64 a1, .int .i64 a2, .int .u8 a3, .int .i64 a4] w fun e w' => e = .returned (.int .i64 r) ∧ Below w.heap.size w w' := by
 have hu31 := Try.underlying31; have HR0_0 := zA.mk hr0_0; have HC0_0 := zA.mk hc0_0; clear hr0_0 hc0_0; have HR0_1 := zA.mk hr0_1; have HC0_1 := zA.mk hc0_1; clear hr0_1 hc0_1; have HB := zA.mk (Below.refl w.heap.size w); have H : ((span_Trim.f k l0_0 l0_1 a1 a2).bind fun t135 => ((span_Columns.f k l0_0 l0_1 a1 t135 a4).bind fun t136 => (if 0 ≤ (wrap64 ((t136.length : Int) - 1)) then (if (wrap64 ((t136.length : Int) - 1)) < (t136.length : Int) then (if a3 = 3 then (some (wrap64 ((rd t136 (wrap64 ((t136.length : Int) - 1))) + 1))) else (some (rd t136 (wrap64 ((t136.length : Int) - 1))))) else (none)) else (none)))) = some r := h
 clear h; replace H := Option.bind_eq_some_iff.mp H; obtain ⟨t135, A60, H⟩ := H; replace H : ((span_Columns.f k l0_0 l0_1 a1 t135 a4).bind fun t136 => (if 0 ≤ (wrap64 ((t136.length : Int) - 1)) then (if (wrap64 ((t136.length : Int) - 1)) < (t136.length : Int) then (if a3 = 3 then (some (wrap64 ((rd t136 (wrap64 ((t136.length : Int) - 1))) + 1))) else (some (rd t136 (wrap64 ((t136.length : Int) - 1))))) else (none)) else (none))) = some r := H
 have A6 := zA.mk A60; clear A60; replace H := Option.bind_eq_some_iff.mp H; obtain ⟨t136, A70, H⟩ := H; replace H : (if 0 ≤ (wrap64 ((t136.length : Int) - 1)) then (if (wrap64 ((t136.length : Int) - 1)) < (t136.length : Int) then (if a3 = 3 then (some (wrap64 ((rd t136 (wrap64 ((t136.length : Int) - 1))) + 1))) else (some (rd t136 (wrap64 ((t136.length : Int) - 1))))) else (none)) else (none)) = some r := H; have A7 := zA.mk A70; clear A70; obtain ⟨ji8, hji8⟩ : ∃ j_ : Int, (wrap64 ((t136.length : Int) - 1)) = j_ := ⟨_, rfl⟩; replace H : (if 0 ≤ (ji8) then (if (ji8) < (t136.length : Int) then (if a3 = 3 then (some (wrap64 ((rd t136 (ji8)) + 1))) else (some (rd t136 (ji8)))) else (none)) else (none)) = some r := by first | (rw [hji8] at H; exact H) | (simp only [hji8] at H ⊢; exact H)
 (try rw [hji8] at A6)
 (try rw [hji8] at A7)
 have hji8w : (IntKind.i64.wrap ((t136.length : Int) - 1)) = ji8 := (i64_w _).trans hji8
 by_cases c9 : 0 ≤ (ji8)
 rotate_left
 ·rw [if_neg c9] at H
  exact absurd H (by simp)
 rw [if_pos c9] at H; have c9b0 : decide (0 ≤ (ji8)) = true := decide_eq_true c9
 clear c9; by_cases c10 : (ji8) < (t136.length : Int)
 rotate_left
 ·rw [if_neg c10] at H
  exact absurd H (by simp)
 rw [if_pos c10] at H; have c10b0 : decide ((ji8) < (t136.length : Int)) = true := decide_eq_true c10
 clear c10; by_cases c11 : a3 = 3
 ·rw [if_pos c11] at H
  have c11b0 : (a3 == 3) = true := beq_iff_eq.mpr c11
  have c11b1 : (a3 != 3) = false := bne_eq_false_iff_eq.mpr c11
  clear c11; obtain rfl := Option.some.inj H
  go_enter Try.func20, Try.ntmps20
  try go_wp2_with (first | ((with_reducible refine gate_dst (N := 5) rfl ?_); refine box_event ?hg (N := 5) ?hd (cs := #[.slice A0_0 l0_0.length c0_0, .slice A0_1 l0_1.length c0_1]) (t := 31) ?hr ?_; (case hd => rfl); (case hg => rfl); (case hr => first | (go_simp; done) | (go_simp; rfl)); intro gb134 hg w12 hbox hb; have BK134 := zA.mk (hbox); have GW134 := zA.mk ((by rw [hg]; exact (zE (aL HB)) : w.heap.size ≤ gb134)); replace HB := zA.mk (zH (aL HB) hb); have GE134 := GW134; clear hb hbox hg))
  replace BK134 := zA.mk (zD BK134.out); replace HB := zA.mk (below_drew1 HB.out); refine start_ (n := 9) (S := fun w' => w'.cell? ⟨gb134, 0, none⟩ = some (.slice A0_0 l0_0.length c0_0) ∧ w'.cell? ⟨gb134, 1, none⟩ = some (.slice A0_1 l0_1.length c0_1)) (ds := []) #[false, false, false, false, false, false, false, false, false] (by kernel_rfl) rfl rfl ⟨(zC BK134.out 0).trans rfl, (zC BK134.out 1).trans rfl⟩ (fun hHeld => ?_); refine with_tabW span_Cells.tab1 span_Cells.bits1 (fun HT_ HW_ => ?_)
  generalize w12.drew = w13 at BK134 HB hHeld ⊢
  refine aP 1 (some 14) (tb_ 2 9) HT_ ?_
  refine aP 3 (some 16) (tb_ 10 9) HT_ ?_
  refine aP 4 (some 17) (tb_ 26 9) HT_ ?_
  refine aP 6 (some 19) (tb_ 90 9) HT_ ?_
  refine take_ (i := 0) (N := some 13) (v := ?_) (a' := ?_) (tb_ 91 9) rfl rfl (take_ofW HT_.out HW_.out (by kernel_rfl)) (fun _ _ _ h => h) (Or.inl ⟨by rfl, ?_⟩) hHeld ?_ ?_
  rotate_left
  ·rintro w' ⟨s0, s1⟩
   go_simp
   with_reducible rfl
  rotate_left
  ·simp only [Act.put, sA_, sB_, sC_, i64_w, i32_w]
   rfl
  refine take_ (i := 2) (N := some 15) (v := ?_) (a' := ?_) (tb_ 95 9) rfl rfl (take_ofW HT_.out HW_.out (by kernel_rfl)) (fun _ _ _ h => h) (Or.inl ⟨by rfl, ?_⟩) hHeld ?_ ?_
  rotate_left
  ·rintro w' ⟨s0, s1⟩
   go_simp
   with_reducible rfl
  rotate_left
  ·simp only [Act.put, sA_, sB_, sC_, i64_w, i32_w]
   rfl
  refine one_ (i := 5) (N := some 18) (tb_ 127 9) rfl rfl (one_of HT_.out (by kernel_rfl)) (by decide) (fun K hK => ?_)
  refine goes_ Try.func19 (by kernel_rfl) rfl #[.agg #[.slice A0_0 l0_0.length c0_0, .slice A0_1 l0_1.length c0_1], .int .i64 a1, .int .i64 a2] (by rfl) rfl rfl aT ?_
  with_reducible refine (span_Trim.calls k _ _ l0_0 _ _ l0_1 a1 a2 t135 _ ?side1 ?side2 ?side3 ?side4 A6.out).mono ?_
  (case side1 => exact aA HR0_0 HB)
  (case side2 => exact HC0_0.out)
  (case side3 => exact aA HR0_1 HB)
  (case side4 => exact HC0_1.out)
  rintro e w14 ⟨rfl, hb⟩
  refine ⟨_, rfl, ?_⟩
  replace BK134 := zA.mk (zB (aB BK134) hb); replace HB := zA.mk (zH (aL HB) hb); (try clear hb)
  (try clear hb2)
  (try clear hk)
  (try clear hi)
  refine hK.out _ _ ⟨(zC BK134.out 0).trans rfl, (zC BK134.out 1).trans rfl⟩ (fun hHeld => ?_)
  clear hK K; refine norm_ (a' := ?_) ?_ ?_
  rotate_left
  ·show Act.put _ (some 18) _ = _
   simp only [Act.put, sA_, sB_, sC_, i64_w, i32_w]; rfl
  refine one_ (i := 7) (N := some 20) (tb_ 255 9) rfl rfl (one_of HT_.out (by kernel_rfl)) (by decide) (fun K hK => ?_)
  refine goes_ Try.func33 (by kernel_rfl) rfl #[.agg #[.slice A0_0 l0_0.length c0_0, .slice A0_1 l0_1.length c0_1], .int .i64 a1, .int .i64 t135, .int .i64 a4] (by rfl) rfl rfl aT ?_
  with_reducible refine (span_Columns.calls k _ _ l0_0 _ _ l0_1 a1 t135 a4 t136 _ ?side1 ?side2 ?side3 ?side4 A7.out).mono ?_
  (case side1 => exact aA HR0_0 HB)
  (case side2 => exact HC0_0.out)
  (case side3 => exact aA HR0_1 HB)
  (case side4 => exact HC0_1.out)
  rintro e w15 ⟨v137, rfl, ho0, hb⟩
  refine ⟨_, rfl, ?_⟩
  have HO138 := zA.mk (Kd.zT ho0 (zE (aL HB))); replace BK134 := zA.mk (zB (aB BK134) hb); replace HB := zA.mk (zH (aL HB) hb); (try clear hb)
  (try clear hb2)
  (try clear hk)
  (try clear hi)
  (try clear ho0)
  refine hK.out _ _ ⟨(zC BK134.out 0).trans rfl, (zC BK134.out 1).trans rfl⟩ (fun hHeld => ?_)
  clear hK K; refine norm_ (a' := ?_) ?_ ?_
  rotate_left
  ·show Act.put _ (some 20) _ = _
   simp only [Act.put, sA_, sB_, sC_, i64_w, i32_w]; rfl
  refine aP 8 (some 11) (tb_ 511 9) HT_ ?_
  refine done_ (done_of HT_.out (by kernel_rfl)) ?_
  obtain ⟨Ao16, co16, eo16⟩ := Kd.zS HO138.out; subst eo16; have p139 : 0 ≤ ((ji8) : Int) := aD
  have q139 : (ji8) < (t136.length : Int) := aD
  obtain ⟨ad139, e139, hx139_0⟩ := Kd.at_int (Kd.zP HO138.out).2.2 (ji8) p139 q139; cases e139
  replace p139 := eq_true p139; replace q139 := eq_true q139; try go_wp2
  go_ret
  exact ⟨by first | rfl | (simp [errW_none, errW_some] <;> rfl) | (simp only [← hji8]; first | rfl | (simp [errW_none, errW_some] <;> rfl)) | (simp [*, errW_none, errW_some] <;> rfl), aL HB⟩
 rw [if_neg c11] at H; have c11b0 : (a3 == 3) = false := beq_eq_false_iff_ne.mpr c11
 have c11b1 : (a3 != 3) = true := bne_iff_ne.mpr c11
 obtain rfl := Option.some.inj H
 go_enter Try.func20, Try.ntmps20
 try go_wp2_with (first | ((with_reducible refine gate_dst (N := 5) rfl ?_); refine box_event ?hg (N := 5) ?hd (cs := #[.slice A0_0 l0_0.length c0_0, .slice A0_1 l0_1.length c0_1]) (t := 31) ?hr ?_; (case hd => rfl); (case hg => rfl); (case hr => first | (go_simp; done) | (go_simp; rfl)); intro gb134 hg w17 hbox hb; have BK134 := zA.mk (hbox); have GW134 := zA.mk ((by rw [hg]; exact (zE (aL HB)) : w.heap.size ≤ gb134)); replace HB := zA.mk (zH (aL HB) hb); have GE134 := GW134; clear hb hbox hg))
 replace BK134 := zA.mk (zD BK134.out); replace HB := zA.mk (below_drew1 HB.out); refine start_ (n := 9) (S := fun w' => w'.cell? ⟨gb134, 0, none⟩ = some (.slice A0_0 l0_0.length c0_0) ∧ w'.cell? ⟨gb134, 1, none⟩ = some (.slice A0_1 l0_1.length c0_1)) (ds := []) #[false, false, false, false, false, false, false, false, false] (by kernel_rfl) rfl rfl ⟨(zC BK134.out 0).trans rfl, (zC BK134.out 1).trans rfl⟩ (fun hHeld => ?_); refine with_tabW span_Cells.tab1 span_Cells.bits1 (fun HT_ HW_ => ?_)
 generalize w17.drew = w18 at BK134 HB hHeld ⊢
 refine aP 1 (some 14) (tb_ 2 9) HT_ ?_
 refine aP 3 (some 16) (tb_ 10 9) HT_ ?_
 refine aP 4 (some 17) (tb_ 26 9) HT_ ?_
 refine aP 6 (some 19) (tb_ 90 9) HT_ ?_
 refine take_ (i := 0) (N := some 13) (v := ?_) (a' := ?_) (tb_ 91 9) rfl rfl (take_ofW HT_.out HW_.out (by kernel_rfl)) (fun _ _ _ h => h) (Or.inl ⟨by rfl, ?_⟩) hHeld ?_ ?_
 rotate_left
 ·rintro w' ⟨s0, s1⟩
  go_simp
  with_reducible rfl
 rotate_left
 ·simp only [Act.put, sA_, sB_, sC_, i64_w, i32_w]
  rfl
 refine take_ (i := 2) (N := some 15) (v := ?_) (a' := ?_) (tb_ 95 9) rfl rfl (take_ofW HT_.out HW_.out (by kernel_rfl)) (fun _ _ _ h => h) (Or.inl ⟨by rfl, ?_⟩) hHeld ?_ ?_
 rotate_left
 ·rintro w' ⟨s0, s1⟩
  go_simp
  with_reducible rfl
 rotate_left
 ·simp only [Act.put, sA_, sB_, sC_, i64_w, i32_w]
  rfl
 refine one_ (i := 5) (N := some 18) (tb_ 127 9) rfl rfl (one_of HT_.out (by kernel_rfl)) (by decide) (fun K hK => ?_)
 refine goes_ Try.func19 (by kernel_rfl) rfl #[.agg #[.slice A0_0 l0_0.length c0_0, .slice A0_1 l0_1.length c0_1], .int .i64 a1, .int .i64 a2] (by rfl) rfl rfl aT ?_
 with_reducible refine (span_Trim.calls k _ _ l0_0 _ _ l0_1 a1 a2 t135 _ ?side1 ?side2 ?side3 ?side4 A6.out).mono ?_
 (case side1 => exact aA HR0_0 HB)
 (case side2 => exact HC0_0.out)
 (case side3 => exact aA HR0_1 HB)
 (case side4 => exact HC0_1.out)
 rintro e w19 ⟨rfl, hb⟩
 refine ⟨_, rfl, ?_⟩
 replace BK134 := zA.mk (zB (aB BK134) hb); replace HB := zA.mk (zH (aL HB) hb); (try clear hb)
 (try clear hb2)
 (try clear hk)
 (try clear hi)
 refine hK.out _ _ ⟨(zC BK134.out 0).trans rfl, (zC BK134.out 1).trans rfl⟩ (fun hHeld => ?_)
 clear hK K; refine norm_ (a' := ?_) ?_ ?_
 rotate_left
 ·show Act.put _ (some 18) _ = _
  simp only [Act.put, sA_, sB_, sC_, i64_w, i32_w]; rfl
 refine one_ (i := 7) (N := some 20) (tb_ 255 9) rfl rfl (one_of HT_.out (by kernel_rfl)) (by decide) (fun K hK => ?_)
 refine goes_ Try.func33 (by kernel_rfl) rfl #[.agg #[.slice A0_0 l0_0.length c0_0, .slice A0_1 l0_1.length c0_1], .int .i64 a1, .int .i64 t135, .int .i64 a4] (by rfl) rfl rfl aT ?_
 with_reducible refine (span_Columns.calls k _ _ l0_0 _ _ l0_1 a1 t135 a4 t136 _ ?side1 ?side2 ?side3 ?side4 A7.out).mono ?_
 (case side1 => exact aA HR0_0 HB)
 (case side2 => exact HC0_0.out)
 (case side3 => exact aA HR0_1 HB)
 (case side4 => exact HC0_1.out)
 rintro e w20 ⟨v137, rfl, ho0, hb⟩
 refine ⟨_, rfl, ?_⟩
 have HO138 := zA.mk (Kd.zT ho0 (zE (aL HB))); replace BK134 := zA.mk (zB (aB BK134) hb); replace HB := zA.mk (zH (aL HB) hb); (try clear hb)
 (try clear hb2)
 (try clear hk)
 (try clear hi)
 (try clear ho0)
 refine hK.out _ _ ⟨(zC BK134.out 0).trans rfl, (zC BK134.out 1).trans rfl⟩ (fun hHeld => ?_)
 clear hK K; refine norm_ (a' := ?_) ?_ ?_
 rotate_left
 ·show Act.put _ (some 20) _ = _
  simp only [Act.put, sA_, sB_, sC_, i64_w, i32_w]; rfl
 refine aP 8 (some 11) (tb_ 511 9) HT_ ?_
 refine done_ (done_of HT_.out (by kernel_rfl)) ?_
 obtain ⟨Ao21, co21, eo21⟩ := Kd.zS HO138.out; subst eo21; have p139 : 0 ≤ ((ji8) : Int) := aD
 have q139 : (ji8) < (t136.length : Int) := aD
 obtain ⟨ad139, e139, hx139_0⟩ := Kd.at_int (Kd.zP HO138.out).2.2 (ji8) p139 q139; cases e139
 replace p139 := eq_true p139; replace q139 := eq_true q139; try go_wp2
 go_ret
 exact ⟨by first | rfl | (simp [errW_none, errW_some] <;> rfl) | (simp only [← hji8]; first | rfl | (simp [errW_none, errW_some] <;> rfl)) | (simp [*, errW_none, errW_some] <;> rfl), aL HB⟩
mutual
def just_Spread.j0 : Nat → Int → Int → Bool → Option (List Int)
 | 0, _, _, _ => none
 | k + 1, x0, x1, x20 => if x20 = true then (some ([] : List Int)) else (if 0 ≤ x1 then (if (x1 : Int).toNat ≤ 35184372088832 then ((some (List.replicate (x1 : Int).toNat 0 : List Int)).bind fun y140 => (just_Spread.l0 k x0 x1 y140 (y140.length : Int) 0)) else (none)) else (none))
def just_Spread.l0 : Nat → Int → Int → List Int → Int → Int → Option (List Int)
 | 0, _, _, _, _, _ => none
 | k + 1, x0, x1, x5, x24, x25 => if x25 < x24 then (if x1 = 0 then (none) else (if 0 ≤ x25 then (if x25 < (x5.length : Int) then (just_Spread.l0 k x0 x1 (x5.set (x25 : Int).toNat (wrap64 ((wrap64 (Int.tdiv (wrap64 (x0 * (wrap64 (x25 + 1)))) x1)) - (wrap64 (Int.tdiv (wrap64 (x0 * x25)) x1))))) x24 (wrap64 (x25 + 1))) else (none)) else (none))) else (some x5)
end
def just_Spread.f (k : Nat) (a0 : Int) (a1 : Int) : Option (List Int) := if a0 < 0 then (just_Spread.j0 k a0 a1 true) else (if a0 > 1048576 then (just_Spread.j0 k a0 a1 true) else (if a1 < 1 then (just_Spread.j0 k a0 a1 true) else (just_Spread.j0 k a0 a1 (decide (a1 > 4096)))))
theorem just_Spread.mono_l : ∀ k, (∀ y0 y1 y2, LeO (just_Spread.j0 k y0 y1 y2) (just_Spread.j0 (k + 1) y0 y1 y2)) ∧ (∀ y0 y1 y2 y3 y4, LeO (just_Spread.l0 k y0 y1 y2 y3 y4) (just_Spread.l0 (k + 1) y0 y1 y2 y3 y4))
 | 0 => ⟨fun _ _ _ r h => by simp [just_Spread.j0] at h, fun _ _ _ _ _ r h => by simp [just_Spread.l0] at h⟩
 | k + 1 => by
  obtain ⟨ih0, ih1⟩ := just_Spread.mono_l k; refine ⟨?_, ?_⟩
  ·intro y0 y1 y2
   unfold just_Spread.j0
   repeat' (with_reducible first | exact ih0 _ _ _ | exact ih1 _ _ _ _ _ | exact LeO.refl _ | exact LeO.none _ | refine LeO.ite ?_ ?_ | refine LeO.bind ?_ (fun _ => ?_))
  ·intro y0 y1 y2 y3 y4
   unfold just_Spread.l0
   repeat' (with_reducible first | exact ih0 _ _ _ | exact ih1 _ _ _ _ _ | exact LeO.refl _ | exact LeO.none _ | refine LeO.ite ?_ ?_ | refine LeO.bind ?_ (fun _ => ?_))
theorem just_Spread.mono : ∀ a0 a1 k, LeO (just_Spread.f k a0 a1) (just_Spread.f (k + 1) a0 a1) := by
 intro a0 a1 k
 obtain ⟨ih0, ih1⟩ := just_Spread.mono_l k; unfold just_Spread.f
 repeat' (with_reducible first | exact ih0 _ _ _ | exact ih1 _ _ _ _ _ | exact LeO.refl _ | exact LeO.none _ | refine LeO.ite ?_ ?_ | refine LeO.bind ?_ (fun _ => ?_))
def just_Spread.T7 : Bool × List (List Nat × List Nat) := (true, [([], []), ([], []), ([], []), ([], []), ([3], [3]), ([2, 4], [2, 4]), ([], []), ([5, 6], [5, 6]), ([], []), ([], []), ([8, 9], [8, 9]), ([], []), ([10, 11], [10, 11]), ([7, 12], [7, 12]), ([0, 1, 0, 1, 2, 3, 4, 5, 6, 7, 8, 9, 10, 11, 12, 13], [0, 1]), ([14, 13, 0, 1, 2, 3, 4, 5, 6, 7, 8, 9, 10, 11, 12, 13], [13, 14])])
def just_Spread.B7 : List Nat := [0, 0, 0, 0, 8, 28, 0, 124, 0, 0, 768, 0, 3840, 8188, 16383, 32767]
theorem just_Spread.tab7 : rtab .any (opsOf Try.f46 7) = just_Spread.T7 := by kernel_rfl
theorem just_Spread.bits7 : waitsOk just_Spread.T7.2 just_Spread.B7 = true := by kernel_rfl
set_option maxHeartbeats 8000000 in
set_option maxRecDepth 100000 in
theorem just_Spread.calls (k : Nat) (a0 : Int) (a1 : Int) (r : List Int) (w : World) (h : just_Spread.f k a0 a1 = some r) :
  Calls Try.prog 46 #[.int .i64 a0, .int .i64 a1] w fun e w' => ∃ v0_ : Value, e = .returned (v0_) ∧ Kd.R (Kd.int .i64) 3 w' w.heap.size (fun _ => True) v0_ r ∧ Below w.heap.size w w' := by
 have HB := zA.mk (Below.refl w.heap.size w); have H : (if a0 < 0 then (just_Spread.j0 k a0 a1 true) else (if a0 > 1048576 then (just_Spread.j0 k a0 a1 true) else (if a1 < 1 then (just_Spread.j0 k a0 a1 true) else (just_Spread.j0 k a0 a1 (decide (a1 > 4096)))))) = some r := h
 clear h; have HC3 := zA.mk H; clear H; go_enter Try.func46, Try.ntmps46
 go_upto_region 1 with (fail)
 go_cut [20] (fun v20 wc => ∃ (kq : Nat) (x20_2 : Bool), v20 = .bool x20_2 ∧ zA (just_Spread.j0 kq a0 a1 x20_2 = some r) ∧ zA (kq ≤ k) ∧ zA (Below w.heap.size w wc))
 case first =>
  have H := HC3.out; clear HC3; by_cases c4 : a0 < 0
  ·rw [if_pos c4] at H
   have c4b0 : decide (a0 < 0) = true := decide_eq_true c4
   clear c4; (first | rw [c4b0] | (simp only [i64_w, i32_w]; rw [c4b0]) | skip)
   have H' := zA.mk H
   clear H; go_wp2
   go_meet
   case rel => exact ⟨_, (true), aZ, H', ⟨by first | omega | exact Nat.le_refl _⟩, ⟨aL HB⟩⟩
  rw [if_neg c4] at H; have c4b0 : decide (a0 < 0) = false := decide_eq_false c4
  clear c4; (first | rw [c4b0] | (simp only [i64_w, i32_w]; rw [c4b0]) | skip)
  by_cases c5 : a0 > 1048576
  ·rw [if_pos c5] at H
   have c5b0 : decide (1048576 < a0) = true := decide_eq_true c5
   clear c5; have H' := zA.mk H
   clear H; go_wp2
   go_meet
   case rel => exact ⟨_, (true), aZ, H', ⟨by first | omega | exact Nat.le_refl _⟩, ⟨aL HB⟩⟩
  rw [if_neg c5] at H; have c5b0 : decide (1048576 < a0) = false := decide_eq_false c5
  clear c5; by_cases c6 : a1 < 1
  ·rw [if_pos c6] at H
   have c6b0 : decide (a1 < 1) = true := decide_eq_true c6
   clear c6; have H' := zA.mk H
   clear H; go_wp2
   go_meet
   case rel => exact ⟨_, (true), aZ, H', ⟨by first | omega | exact Nat.le_refl _⟩, ⟨aL HB⟩⟩
  rw [if_neg c6] at H; have c6b0 : decide (a1 < 1) = false := decide_eq_false c6
  clear c6; have H' := zA.mk H
  clear H; go_wp2
  go_meet
  case rel => exact ⟨_, (decide (a1 > 4096)), aZ, H', ⟨by first | omega | exact Nat.le_refl _⟩, ⟨aL HB⟩⟩
 clear HC3; obtain ⟨kq, x20_2, rfl, HA, HJ2, HB⟩ := hcut; cases kq with
 | zero => exact absurd HA.out (by simp [just_Spread.j0])
 | succ kj2 =>
  have H := HA.out; clear HA; simp only [just_Spread.j0] at H; by_cases c7 : x20_2 = true
  ·subst c7
   have H1 : (some ([] : List Int)) = some r := by rw [if_pos rfl] at H; exact H
   clear H; have H := H1; clear H1; obtain rfl := Option.some.inj H
   go_wp2
   go_ret
   exact ⟨_, aX, by first | exact Kd.R_nil _ _ _ _ _ | exact Kd.N_nil _ _ _ _ _ | exact Kd.V_nil _ _ _ _ _ | exact Kd.Q_nil _ _ _ _ _ | exact Kd.S_nil _ _ _ _ _, aL HB⟩
  replace c7 := Bool.eq_false_iff.mpr c7; subst c7; have H1 : (if 0 ≤ a1 then (if (a1 : Int).toNat ≤ 35184372088832 then ((some (List.replicate (a1 : Int).toNat 0 : List Int)).bind fun y140 => (just_Spread.l0 kj2 a0 a1 y140 (y140.length : Int) 0)) else (none)) else (none)) = some r := by rw [if_neg (show ¬ (false = true) by decide)] at H; exact H
  clear H; have H := H1; clear H1; by_cases c8 : 0 ≤ a1
  rotate_left
  ·rw [if_neg c8] at H
   exact absurd H (by simp)
  rw [if_pos c8] at H; have c8b0 := eq_true c8; have c8b1 : decide (0 ≤ a1) = true := decide_eq_true c8
  clear c8; by_cases c9 : (a1 : Int).toNat ≤ 35184372088832
  rotate_left
  ·rw [if_neg c9] at H
   exact absurd H (by simp)
  rw [if_pos c9] at H; have c9b0 := eq_true c9; have c9b1 : decide ((a1 : Int).toNat ≤ 35184372088832) = true := decide_eq_true c9
  clear c9; obtain ⟨y140, hy140⟩ : ∃ y_ : List Int, y_ = (List.replicate (a1 : Int).toNat 0) := ⟨_, rfl⟩; replace H : (just_Spread.l0 kj2 a0 a1 y140 (y140.length : Int) 0) = some r := by first | (rw [hy140]; with_reducible exact H) | (have H2_ := (Option.bind_some _ _).symm.trans H; rw [hy140]; with_reducible exact H2_) | (have H2_ := (Option.bind_some _ _).symm.trans H; with_reducible exact H2_) | with_reducible exact H | (rw [hy140]; exact H) | exact H
  have Ny140 := zA.mk hy140; clear hy140; have H' := zA.mk H
  clear H; go_wp2_with (first | ((with_reducible refine gate_dst (N := 22) rfl ?_); refine Kd.R_make (Kd.int .i64) _ 3 rfl (N := 22) rfl 37 _ _ rfl a1 rfl rfl Try.underlying37 (.int .i64 0) 8 info3 rfl (by decide) (by omega) 0 (ok := fun _ => True) (okp := fun _ => True) rfl (fun _ hk => hk) trivial (aD) (Nat.le_trans (Nat.mul_le_mul_right _ (aD : a1.toNat ≤ 35184372088832)) (by omega)) (Below.refl _ _) (Nat.le_refl _) ?_; intro v141 w10 ho11 hb hg_ hnew_; clear hg_ hnew_; (first | rw [← Ny140.out] at ho11 | (simp only [Int.reduceToNat] at ho11; rw [← Ny140.out] at ho11)); have HO142 := zA.mk (Kd.zT ho11 (zE (aL HB))); replace HB := zA.mk (zH (aL HB) hb); clear hb ho11; obtain ⟨Ao12, co12, eo12⟩ := Kd.zS HO142.out; subst eo12))
  go_loopg [25] kj2 (fun kq v25 w' => ∃ (x5_2 : List Int) (x25_2 : Int), v25 = .int .i64 x25_2 ∧ zA (just_Spread.l0 kq a0 a1 x5_2 (y140.length : Int) x25_2 = some r) ∧ zA (kq ≤ kj2) ∧ zA (Kd.R (Kd.int .i64) 3 w' w.heap.size (fun _ => True) (.slice Ao12 y140.length co12) x5_2) ∧ zA (Below w.heap.size w w'))
  case atStart => exact ⟨(y140), (0), aZ, H', ⟨Nat.le_refl _⟩, ⟨aR HO142⟩, ⟨aL HB⟩⟩
  clear H'; obtain ⟨x5_2, x25_2, rfl, HA, HK2, HO_5, HB⟩ := hrel; have hl5_2 := (Kd.zP HO_5.out).1; rw [hl5_2] at HO_5; (try simp only [hl5_2])
  cases gk with
  | zero => exact absurd HA.out (by simp [just_Spread.l0])
  | succ k2 =>
   have H := HA.out; clear HA; simp only [just_Spread.l0] at H; by_cases c13 : x25_2 < (y140.length : Int)
   rotate_left
   ·rw [if_neg c13] at H
    have c13b0 : decide (x25_2 < (y140.length : Int)) = false := decide_eq_false c13
    (try simp only [hl5_2] at c13b0)
    clear c13; obtain rfl := Option.some.inj H
    go_wp2
    go_ret
    exact ⟨_, aX, aR HO_5, aL HB⟩
   rw [if_pos c13] at H; have c13b0 : decide (x25_2 < (y140.length : Int)) = true := decide_eq_true c13
   (try simp only [hl5_2] at c13b0)
   clear c13; by_cases c14 : a1 = 0
   ·rw [if_pos c14] at H
    exact absurd H (by simp)
   rw [if_neg c14] at H; have c14b0 : (a1 == 0) = false := beq_eq_false_iff_ne.mpr c14
   have c14b1 : (a1 != 0) = true := bne_iff_ne.mpr c14
   by_cases c15 : 0 ≤ x25_2
   rotate_left
   ·rw [if_neg c15] at H
    exact absurd H (by simp)
   rw [if_pos c15] at H; have c15b0 : decide (0 ≤ x25_2) = true := decide_eq_true c15
   clear c15; by_cases c16 : x25_2 < (x5_2.length : Int)
   rotate_left
   ·rw [if_neg c16] at H
    exact absurd H (by simp)
   rw [if_pos c16] at H; have c16b0 : decide (x25_2 < (x5_2.length : Int)) = true := decide_eq_true c16
   (try simp only [hl5_2] at c16b0)
   clear c16; obtain ⟨y143, hy143⟩ : ∃ y_ : List Int, y_ = (x5_2.set (x25_2 : Int).toNat (wrap64 ((wrap64 (Int.tdiv (wrap64 (a0 * (wrap64 (x25_2 + 1)))) a1)) - (wrap64 (Int.tdiv (wrap64 (a0 * x25_2)) a1))))) := ⟨_, rfl⟩; replace H : (just_Spread.l0 k2 a0 a1 y143 (y140.length : Int) (wrap64 (x25_2 + 1))) = some r := by first | (rw [hy143]; with_reducible exact H) | (have H2_ := (Option.bind_some _ _).symm.trans H; rw [hy143]; with_reducible exact H2_) | (have H2_ := (Option.bind_some _ _).symm.trans H; with_reducible exact H2_) | with_reducible exact H | (rw [hy143]; exact H) | exact H
   have Ny143 := zA.mk hy143; clear hy143; have H' := zA.mk H
   clear H; try go_wp2
   replace HO_5 := zA.mk (Kd.zK HO_5.out); replace HB := zA.mk (below_drew1 HB.out); have p17 : 0 ≤ (x25_2 : Int) := aD
   have q17 : (x25_2 : Int) < ((x5_2.length : Int) : Int) := aD
   obtain ⟨go17, co17, eo17, gb17, gl17, cl17, HG17⟩ := Kd.R_form HO_5.out (by omega)
   (first | cases eo17 | (injection eo17 with ea_ en_ ec_; (first | subst ea_ | (injection ea_ with ea_; subst ea_)); subst ec_; clear en_))
   have GB17 := zA.mk gb17; have GG17 := zA.mk HG17; clear gb17 gl17 HG17; obtain ⟨hx17_0, hf17_0⟩ := Kd.R_celln 0 HO_5.out (x25_2 : Int) p17 q17; replace p17 := eq_true p17; replace q17 := eq_true q17; have HP19 := Kd.R_putn HO_5.out (x25_2 : Int) (wrap64 ((wrap64 (Int.tdiv (wrap64 (a0 * (wrap64 (x25_2 + 1)))) a1)) - (wrap64 (Int.tdiv (wrap64 (a0 * x25_2)) a1)))); rw [← Ny143.out] at HP19; have HQ19 := zA.mk HP19; clear HP19; refine start_ (n := 16) (S := fun w' => True) (ds := [15]) #[false, false, false, false, false, false, false, false, false, false, false, false, false, false, false, false] (by kernel_rfl) rfl rfl trivial (fun hHeld => ?_); refine with_tabW just_Spread.tab7 just_Spread.bits7 (fun HT_ HW_ => ?_)
   generalize wr.drew = w18 at HO_5 HB GG17 HQ19 hf17_0 hx17_0 hHeld ⊢
   refine aP 0 (some 28) (tf_ 1 16) HT_ ?_
   refine aP 1 (some 29) (tf_ 2 16) HT_ ?_
   refine aP 2 (some 30) (tf_ 3 16) HT_ ?_
   refine aP 3 (some 31) (tf_ 4 16) HT_ ?_
   refine aP 4 (some 32) (tf_ 5 16) HT_ ?_
   refine aP 5 (some 33) (tf_ 6 16) HT_ ?_
   refine aP 6 (some 34) (tf_ 7 16) HT_ ?_
   refine aP 7 (some 35) (tf_ 8 16) HT_ ?_
   refine aP 8 (some 36) (tf_ 9 16) HT_ ?_
   refine aP 9 (some 37) (tf_ 10 16) HT_ ?_
   refine aP 10 (some 38) (tf_ 11 16) HT_ ?_
   refine aP 11 (some 39) (tf_ 12 16) HT_ ?_
   refine aP 12 (some 40) (tf_ 13 16) HT_ ?_
   refine aP 13 (some 41) (tf_ 14 16) HT_ ?_
   refine aP 14 (some 42) (tf_ 15 16) HT_ ?_
   refine last_ (i := 15) (N := none) (tb_ 65535 16) rfl rfl (one_of HT_.out (by kernel_rfl)) (by decide) (fun K hK => ?_)
   refine skip_ (w1 := ?_) (by rfl) rfl ?_ ?_
   rotate_left
   ·go_simp
    rfl
   refine hK.out _ _ ?_
   clear hK K; refine done_ (done_of HT_.out (by kernel_rfl)) ?_
   try go_wp2
   (try simp only [← hl5_2])
   go_roundg k2
   case measure => have := HJ2.out; have := HK2.out; omega
   case rel => exact ⟨(y143), (wrap64 (x25_2 + 1)), aZ, H', ⟨by have := HJ2.out; have := HK2.out; omega⟩, ⟨by (try simp only [hl5_2]); (with_reducible repeat (first | apply Kd.zI | apply Kd.zJ | apply Kd.zK)); exact HQ19.out⟩, ⟨aL HB⟩⟩
def span_Gaps.l0 : Nat → Int → List (S61) → Int → Int → Option (Int)
 | 0, _, _, _, _ => none
 | k + 1, x7, x17, x18, x19 => if x19 < x18 then (if 0 ≤ x19 then (if x19 < (x17.length : Int) then (if ((rd_T61 x17 x19).f3) = 1 then (span_Gaps.l0 k (wrap64 (x7 + 1)) x17 x18 (wrap64 (x19 + 1))) else (span_Gaps.l0 k x7 x17 x18 (wrap64 (x19 + 1)))) else (none)) else (none)) else (some x7)
def span_Gaps.f (k : Nat) (l0_0 : List (S61)) (l0_1 : List Int) (a1 : Int) (a2 : Int) : Option (Int) := (span_Trim.f k l0_0 l0_1 a1 a2).bind fun t145 => (if 0 ≤ a1 then (if a1 ≤ t145 then (if t145 ≤ (l0_0.length : Int) then ((some ((l0_0.take (t145 : Int).toNat).drop (a1 : Int).toNat : List (S61))).bind fun y146 => (span_Gaps.l0 k 0 y146 (y146.length : Int) 0)) else (none)) else (none)) else (none))
theorem span_Gaps.mono_l : ∀ k, (∀ y0 y1 y2 y3, LeO (span_Gaps.l0 k y0 y1 y2 y3) (span_Gaps.l0 (k + 1) y0 y1 y2 y3))
 | 0 => fun _ _ _ _ r h => by simp [span_Gaps.l0] at h
 | k + 1 => by
  have ih0 := span_Gaps.mono_l k
  ·intro y0 y1 y2 y3
   unfold span_Gaps.l0
   repeat' (with_reducible first | exact ih0 _ _ _ _ | exact span_Trim.mono _ _ _ _ _ | exact LeO.refl _ | exact LeO.none _ | refine LeO.ite ?_ ?_ | refine LeO.bind ?_ (fun _ => ?_))
theorem span_Gaps.mono : ∀ a0 a1 a2 a3 k, LeO (span_Gaps.f k a0 a1 a2 a3) (span_Gaps.f (k + 1) a0 a1 a2 a3) := by
 intro a0 a1 a2 a3 k
 have ih0 := span_Gaps.mono_l k; unfold span_Gaps.f
 repeat' (with_reducible first | exact ih0 _ _ _ _ | exact span_Trim.mono _ _ _ _ _ | exact LeO.refl _ | exact LeO.none _ | refine LeO.ite ?_ ?_ | refine LeO.bind ?_ (fun _ => ?_))
def span_Gaps.T2 : Bool × List (List Nat × List Nat) := (true, [([], []), ([0], [0]), ([], []), ([], []), ([], []), ([], []), ([3, 4, 5], [3, 4, 5]), ([1, 2, 6], [1, 2, 6]), ([7], [7]), ([], [])])
def span_Gaps.B2 : List Nat := [0, 1, 0, 0, 0, 0, 56, 127, 255, 0]
theorem span_Gaps.tab2 : rtab .any (opsOf Try.f47 2) = span_Gaps.T2 := by kernel_rfl
theorem span_Gaps.bits2 : waitsOk span_Gaps.T2.2 span_Gaps.B2 = true := by kernel_rfl
set_option maxHeartbeats 8000000 in
set_option maxRecDepth 100000 in
theorem span_Gaps.calls (k : Nat) (A0_0 : Option Addr) (c0_0 : Nat) (l0_0 : List (S61)) (A0_1 : Option Addr) (c0_1 : Nat) (l0_1 : List Int) (a1 : Int) (a2 : Int) (r : Int) (w : World) (hr0_0 : Kd.C k61 w A0_0 l0_0.length l0_0) (hc0_0 : l0_0.length ≤ c0_0) (hr0_1 : Kd.C (Kd.int .u8) w A0_1 l0_1.length l0_1) (hc0_1 : l0_1.length ≤ c0_1) (h : span_Gaps.f k l0_0 l0_1 a1 a2 = some r) :
  Calls Try.prog 47 #[.agg #[.slice A0_0 l0_0.length c0_0, .slice A0_1 l0_1.length c0_1], .int .i64 a1, .int .i64 a2] w fun e w' => e = .returned (.int .i64 r) ∧ Below w.heap.size w w' := by
 have hu31 := Try.underlying31; have hu61 := Try.underlying61; have HR0_0 := zA.mk hr0_0; have HC0_0 := zA.mk hc0_0; clear hr0_0 hc0_0; have HR0_1 := zA.mk hr0_1; have HC0_1 := zA.mk hc0_1; clear hr0_1 hc0_1; have HB := zA.mk (Below.refl w.heap.size w); have H : ((span_Trim.f k l0_0 l0_1 a1 a2).bind fun t145 => (if 0 ≤ a1 then (if a1 ≤ t145 then (if t145 ≤ (l0_0.length : Int) then ((some ((l0_0.take (t145 : Int).toNat).drop (a1 : Int).toNat : List (S61))).bind fun y146 => (span_Gaps.l0 k 0 y146 (y146.length : Int) 0)) else (none)) else (none)) else (none))) = some r := h
 clear h; replace H := Option.bind_eq_some_iff.mp H; obtain ⟨t145, A40, H⟩ := H; replace H : (if 0 ≤ a1 then (if a1 ≤ t145 then (if t145 ≤ (l0_0.length : Int) then ((some ((l0_0.take (t145 : Int).toNat).drop (a1 : Int).toNat : List (S61))).bind fun y146 => (span_Gaps.l0 k 0 y146 (y146.length : Int) 0)) else (none)) else (none)) else (none)) = some r := H
 have A4 := zA.mk A40; clear A40; by_cases c5 : 0 ≤ a1
 rotate_left
 ·rw [if_neg c5] at H
  exact absurd H (by simp)
 rw [if_pos c5] at H; have c5b0 := eq_true c5; have c5b1 : decide (0 ≤ a1) = true := decide_eq_true c5
 clear c5; by_cases c6 : a1 ≤ t145
 rotate_left
 ·rw [if_neg c6] at H
  exact absurd H (by simp)
 rw [if_pos c6] at H; have c6b0 := eq_true c6; have c6b1 : decide (a1 ≤ t145) = true := decide_eq_true c6
 clear c6; by_cases c7 : t145 ≤ (l0_0.length : Int)
 rotate_left
 ·rw [if_neg c7] at H
  exact absurd H (by simp)
 rw [if_pos c7] at H; have c7b0 := eq_true c7; have c7b1 : decide (t145 ≤ (l0_0.length : Int)) = true := decide_eq_true c7
 clear c7; obtain ⟨y146, hy146⟩ : ∃ y_ : List (S61), y_ = ((l0_0.take (t145 : Int).toNat).drop (a1 : Int).toNat) := ⟨_, rfl⟩; replace H : (span_Gaps.l0 k 0 y146 (y146.length : Int) 0) = some r := by first | (rw [hy146]; with_reducible exact H) | (have H2_ := (Option.bind_some _ _).symm.trans H; rw [hy146]; with_reducible exact H2_) | (have H2_ := (Option.bind_some _ _).symm.trans H; with_reducible exact H2_) | with_reducible exact H | (rw [hy146]; exact H) | exact H
 have Ny146 := zA.mk hy146; clear hy146; have H' := zA.mk H
 clear H; go_enter Try.func47, Try.ntmps47
 try go_wp2_with (first | ((with_reducible refine gate_dst (N := 3) rfl ?_); refine box_event ?hg (N := 3) ?hd (cs := #[.slice A0_0 l0_0.length c0_0, .slice A0_1 l0_1.length c0_1]) (t := 31) ?hr ?_; (case hd => rfl); (case hg => rfl); (case hr => first | (go_simp; done) | (go_simp; rfl)); intro gb144 hg w8 hbox hb; have BK144 := zA.mk (hbox); have GW144 := zA.mk ((by rw [hg]; exact (zE (aL HB)) : w.heap.size ≤ gb144)); replace HB := zA.mk (zH (aL HB) hb); have GE144 := GW144; clear hb hbox hg))
 replace BK144 := zA.mk (zD BK144.out); replace HB := zA.mk (below_drew1 HB.out); refine start_ (n := 10) (S := fun w' => w'.cell? ⟨gb144, 0, none⟩ = some (.slice A0_0 l0_0.length c0_0) ∧ w'.cell? ⟨gb144, 1, none⟩ = some (.slice A0_1 l0_1.length c0_1)) (ds := []) #[false, false, false, false, false, false, false, false, false, false] (by kernel_rfl) rfl rfl ⟨(zC BK144.out 0).trans rfl, (zC BK144.out 1).trans rfl⟩ (fun hHeld => ?_); refine with_tabW span_Gaps.tab2 span_Gaps.bits2 (fun HT_ HW_ => ?_)
 generalize w8.drew = w9 at BK144 HB hHeld ⊢
 refine aP 0 (some 10) (tf_ 1 10) HT_ ?_
 refine aP 2 (some 12) (tb_ 5 10) HT_ ?_
 refine aP 4 (some 14) (tb_ 21 10) HT_ ?_
 refine aP 5 (some 15) (tb_ 53 10) HT_ ?_
 refine aP 9 (some 19) (tb_ 565 10) HT_ ?_
 refine take_ (i := 1) (N := some 11) (v := ?_) (a' := ?_) (tb_ 567 10) rfl rfl (take_ofW HT_.out HW_.out (by kernel_rfl)) (fun _ _ _ h => h) (Or.inl ⟨by rfl, ?_⟩) hHeld ?_ ?_
 rotate_left
 ·rintro w' ⟨s0, s1⟩
  go_simp
  with_reducible rfl
 rotate_left
 ·simp only [Act.put, sA_, sB_, sC_, i64_w, i32_w]
  rfl
 refine take_ (i := 3) (N := some 13) (v := ?_) (a' := ?_) (tb_ 575 10) rfl rfl (take_ofW HT_.out HW_.out (by kernel_rfl)) (fun _ _ _ h => h) (Or.inl ⟨by rfl, ?_⟩) hHeld ?_ ?_
 rotate_left
 ·rintro w' ⟨s0, s1⟩
  go_simp
  with_reducible rfl
 rotate_left
 ·simp only [Act.put, sA_, sB_, sC_, i64_w, i32_w]
  rfl
 refine one_ (i := 6) (N := some 16) (tb_ 639 10) rfl rfl (one_of HT_.out (by kernel_rfl)) (by decide) (fun K hK => ?_)
 refine goes_ Try.func19 (by kernel_rfl) rfl #[.agg #[.slice A0_0 l0_0.length c0_0, .slice A0_1 l0_1.length c0_1], .int .i64 a1, .int .i64 a2] (by rfl) rfl rfl aT ?_
 with_reducible refine (span_Trim.calls k _ _ l0_0 _ _ l0_1 a1 a2 t145 _ ?side1 ?side2 ?side3 ?side4 A4.out).mono ?_
 (case side1 => exact aA HR0_0 HB)
 (case side2 => exact HC0_0.out)
 (case side3 => exact aA HR0_1 HB)
 (case side4 => exact HC0_1.out)
 rintro e w10 ⟨rfl, hb⟩
 refine ⟨_, rfl, ?_⟩
 replace BK144 := zA.mk (zB (aB BK144) hb); replace HB := zA.mk (zH (aL HB) hb); (try clear hb)
 (try clear hb2)
 (try clear hk)
 (try clear hi)
 have q11 : (t145 : Int) ≤ ((l0_0.length : Int) : Int) := aD
 obtain ⟨i011, hi011, _, hsz11, _⟩ := info_parts info61; have hroom11 : l0_0.length ≤ c0_0 := HC0_0.out
 have hC11 : Kd.C k61 _ A0_0 l0_0.length l0_0 := HR0_0.out
 have ql11 : (a1 : Int) ≤ (t145 : Int) := aD
 have q011 : (0 : Int) ≤ (a1 : Int) := aD
 have hcut11 := cut_mid (P := Try.prog) 28 61 .i64 .i64 Try.underlying28 hi011 4 hsz11 A0_0 l0_0.length c0_0 a1 t145 q011 ql11 q11 hroom11; have hr11 := Kd.C_mid (lo := (a1 : Int).toNat) (hi := (t145 : Int).toNat) (c := c0_0) hC11 (by omega) (by omega) hroom11
 obtain ⟨A11, hA11⟩ : ∃ A1, A1 = (if c0_0 = (a1 : Int).toNat then A0_0 else (A0_0 : Option Addr).map (·.add ((a1 : Int).toNat * 4))) := ⟨_, rfl⟩
 obtain ⟨c11, hc11⟩ : ∃ c1, c1 = c0_0 - (a1 : Int).toNat := ⟨_, rfl⟩; have hy11 : y146.length = (t145 : Int).toNat - (a1 : Int).toNat := (by rw [Ny146.out, List.length_drop, List.length_take] <;> omega)
 rw [show ((l0_0).take (t145 : Int).toNat).drop (a1 : Int).toNat = y146 from Ny146.out.symm] at hr11; replace hr11 : Kd.C k61 _ A11 y146.length y146 := (by rw [hA11]; exact hr11)
 rw [← hy11, ← hA11, ← hc11] at hcut11; have HR149 := zA.mk hr11; have HC149 := zA.mk (show y146.length ≤ c11 from by rw [hy11, hc11]; exact Nat.sub_le_sub_right (Nat.le_trans (by omega) hroom11) _)
 clear hr11 hC11 hroom11 hi011 hsz11 hc11; have KY11 := zA.mk hy11; have KA11 := zA.mk hA11; clear hy11 hA11; replace q11 := eq_true q11; refine hK.out _ _ ⟨(zC BK144.out 0).trans rfl, (zC BK144.out 1).trans rfl⟩ (fun hHeld => ?_)
 clear hK K; refine norm_ (a' := ?_) ?_ ?_
 rotate_left
 ·show Act.put _ (some 16) _ = _
  simp only [Act.put, sA_, sB_, sC_, i64_w, i32_w]; rfl
 refine aP 7 (some 17) (tb_ 767 10) HT_ ?_
 refine aP 8 (some 18) (tb_ 1023 10) HT_ ?_
 refine done_ (done_of HT_.out (by kernel_rfl)) ?_
 try go_wp2
 go_loopg [7, 19] k (fun kq v7 v19 w' => ∃ (x7_1 : Int) (x19_1 : Int), v7 = .int .i64 x7_1 ∧ v19 = .int .i64 x19_1 ∧ zA (span_Gaps.l0 kq x7_1 y146 (y146.length : Int) x19_1 = some r) ∧ zA (kq ≤ k) ∧ zA (w'.heap[gb144]? = some (.cells #[(.slice A0_0 l0_0.length c0_0), (.slice A0_1 l0_1.length c0_1)] 31 (0, 0))) ∧ zA (Below w.heap.size w w'))
 case atStart => exact ⟨(0), (0), aZ, aZ, H', ⟨Nat.le_refl _⟩, ⟨aB BK144⟩, ⟨aL HB⟩⟩
 clear H'; obtain ⟨x7_1, x19_1, rfl, rfl, HA, HK1, BK144, HB⟩ := hrel; cases gk with
 | zero => exact absurd HA.out (by simp [span_Gaps.l0])
 | succ k1 =>
  have H := HA.out; clear HA; simp only [span_Gaps.l0] at H; by_cases c12 : x19_1 < (y146.length : Int)
  rotate_left
  ·rw [if_neg c12] at H
   have c12b0 : decide (x19_1 < (y146.length : Int)) = false := decide_eq_false c12
   clear c12; obtain rfl := Option.some.inj H
   go_wp2
   go_ret
   exact ⟨aX, aL HB⟩
  rw [if_pos c12] at H; have c12b0 : decide (x19_1 < (y146.length : Int)) = true := decide_eq_true c12
  clear c12; by_cases c13 : 0 ≤ x19_1
  rotate_left
  ·rw [if_neg c13] at H
   exact absurd H (by simp)
  rw [if_pos c13] at H; have c13b0 : decide (0 ≤ x19_1) = true := decide_eq_true c13
  clear c13; by_cases c14 : x19_1 < (y146.length : Int)
  rotate_left
  ·rw [if_neg c14] at H
   exact absurd H (by simp)
  rw [if_pos c14] at H; have c14b0 : decide (x19_1 < (y146.length : Int)) = true := decide_eq_true c14
  clear c14; by_cases c15 : ((rd_T61 y146 x19_1).f3) = 1
  ·rw [if_pos c15] at H
   have c15b0 : (((rd_T61 y146 x19_1).f3) == 1) = true := beq_iff_eq.mpr c15
   have c15b1 : (((rd_T61 y146 x19_1).f3) != 1) = false := bne_eq_false_iff_eq.mpr c15
   clear c15; have H' := zA.mk H
   clear H; have p150 : 0 ≤ (x19_1 : Int) := aD
   have q150 : x19_1 < (y146.length : Int) := aD
   obtain ⟨ad150, e150, hx150_0, hx150_1, hx150_2, hx150_3⟩ := at_T61 HR149.out x19_1 p150 q150; cases e150
   replace hx150_0 := (HB.out.cell (World.block_lt_of_cell? w _ hx150_0)).trans hx150_0; replace hx150_1 := (HB.out.cell (World.block_lt_of_cell? w _ hx150_1)).trans hx150_1; replace hx150_2 := (HB.out.cell (World.block_lt_of_cell? w _ hx150_2)).trans hx150_2; replace hx150_3 := (HB.out.cell (World.block_lt_of_cell? w _ hx150_3)).trans hx150_3; replace p150 := eq_true p150; replace q150 := eq_true q150; go_wp2_with (first | ((with_reducible refine gate_dst (N := 9) rfl ?_); refine box_event ?hg (N := 9) ?hd (cs := #[.int .i64 0, .int .i64 0, .int .i64 0, .int .u8 0]) (t := 61) ?hr ?_; (case hd => rfl); (case hg => rfl); (case hr => first | (go_simp; done) | (go_simp; rfl)); intro gb151 hg w16 hbox hb; have BK151 := zA.mk (hbox); have GW151 := zA.mk ((by rw [hg]; exact (zE (aL HB)) : w.heap.size ≤ gb151)); replace HB := zA.mk (zH (aL HB) hb); have GE151 := GW151; have NB144_151 := zA.mk ((by rw [hg]; exact Nat.ne_of_lt (blk_lt (aB BK144)) : gb144 ≠ gb151)); have NB151_144 := zA.mk ((by rw [hg]; exact Nat.ne_of_gt (blk_lt (g := gb144) (o := .cells #[.slice A0_0 l0_0.length c0_0, .slice A0_1 l0_1.length c0_1] 31 (0, 0)) (aB BK144)) : gb151 ≠ gb144)); replace BK144 := zA.mk (zB (aB BK144) hb); clear hb hbox hg; have hnb17 := NB151_144.out; have hnc17 := NB144_151.out; obtain ⟨hcz18_0, hcz18_1, hcz18_2, hcz18_3, hfz18_0, hfz18_1, hfz18_2, hfz18_3⟩ := aC4 BK151) | ((with_reducible refine gate_store (t := 61) (p := 9) rfl ?_); refine store_event (t := 61) (p := 9) (v := ?vo_w19) (w1 := ((((w16.setCell ⟨gb151, 0, none⟩ (.int .i64 ((rd_T61 y146 x19_1).f0))).setCell ⟨gb151, 1, none⟩ (.int .i64 ((rd_T61 y146 x19_1).f1))).setCell ⟨gb151, 2, none⟩ (.int .i64 ((rd_T61 y146 x19_1).f2))).setCell ⟨gb151, 3, none⟩ (.int .u8 ((rd_T61 y146 x19_1).f3)))) ?hg ?ho ?hn ?hr ?_; (case ho => rfl); (case hg => rfl); (case hn => rfl); (case hr => first | (go_simp; done) | (go_simp; rfl)); intro w19 hw; have n0_ : zA (w19.heap[gb144]? = some (.cells #[.slice A0_0 l0_0.length c0_0, .slice A0_1 l0_1.length c0_1] 31 (0, 0))) := ⟨(by rw [hw]; exact (aB BK144))⟩; have n1_ : zA (w19.heap[gb151]? = some (.cells #[.int .i64 ((rd_T61 y146 x19_1).f0), .int .i64 ((rd_T61 y146 x19_1).f1), .int .i64 ((rd_T61 y146 x19_1).f2), .int .u8 ((rd_T61 y146 x19_1).f3)] 61 (0, 0))) := ⟨(by rw [hw]; exact (by (with_reducible repeat (first | refine zF ?_ _ | refine zD ?_ | refine zG ?_ _)); refine blk_put (cs := #[.int .i64 ((rd_T61 y146 x19_1).f0), .int .i64 ((rd_T61 y146 x19_1).f1), .int .i64 ((rd_T61 y146 x19_1).f2), .int .u8 0]) ?_ 3 _ rfl; (with_reducible repeat (first | refine zF ?_ _ | refine zD ?_ | refine zG ?_ _)); refine blk_put (cs := #[.int .i64 ((rd_T61 y146 x19_1).f0), .int .i64 ((rd_T61 y146 x19_1).f1), .int .i64 0, .int .u8 0]) ?_ 2 _ rfl; (with_reducible repeat (first | refine zF ?_ _ | refine zD ?_ | refine zG ?_ _)); refine blk_put (cs := #[.int .i64 ((rd_T61 y146 x19_1).f0), .int .i64 0, .int .i64 0, .int .u8 0]) ?_ 1 _ rfl; (with_reducible repeat (first | refine zF ?_ _ | refine zD ?_ | refine zG ?_ _)); refine blk_put (cs := #[.int .i64 0, .int .i64 0, .int .i64 0, .int .u8 0]) ?_ 0 _ rfl; (with_reducible repeat (first | refine zF ?_ _ | refine zD ?_ | refine zG ?_ _)); exact BK151.out))⟩; have n2_ : zA (Below w.heap.size w w19) := ⟨(by rw [hw]; exact (aL HB))⟩; clear hw; clear BK144; clear BK151; clear HB; have BK144 := n0_; have BK151 := n1_; have HB := n2_; clear n0_ n1_ n2_; obtain ⟨hcz20_0, hcz20_1, hcz20_2, hcz20_3, hfz20_0, hfz20_1, hfz20_2, hfz20_3⟩ := aC4 BK151))
   go_roundg k1
   case measure => have := HK1.out; omega
   case rel => exact ⟨(wrap64 (x7_1 + 1)), (wrap64 (x19_1 + 1)), aZ, aZ, H', ⟨by have := HK1.out; omega⟩, ⟨aB BK144⟩, ⟨aL HB⟩⟩
  rw [if_neg c15] at H; have c15b0 : (((rd_T61 y146 x19_1).f3) == 1) = false := beq_eq_false_iff_ne.mpr c15
  have c15b1 : (((rd_T61 y146 x19_1).f3) != 1) = true := bne_iff_ne.mpr c15
  have H' := zA.mk H
  clear H; have p150 : 0 ≤ (x19_1 : Int) := aD
  have q150 : x19_1 < (y146.length : Int) := aD
  obtain ⟨ad150, e150, hx150_0, hx150_1, hx150_2, hx150_3⟩ := at_T61 HR149.out x19_1 p150 q150; cases e150
  replace hx150_0 := (HB.out.cell (World.block_lt_of_cell? w _ hx150_0)).trans hx150_0; replace hx150_1 := (HB.out.cell (World.block_lt_of_cell? w _ hx150_1)).trans hx150_1; replace hx150_2 := (HB.out.cell (World.block_lt_of_cell? w _ hx150_2)).trans hx150_2; replace hx150_3 := (HB.out.cell (World.block_lt_of_cell? w _ hx150_3)).trans hx150_3; replace p150 := eq_true p150; replace q150 := eq_true q150; go_wp2_with (first | ((with_reducible refine gate_dst (N := 9) rfl ?_); refine box_event ?hg (N := 9) ?hd (cs := #[.int .i64 0, .int .i64 0, .int .i64 0, .int .u8 0]) (t := 61) ?hr ?_; (case hd => rfl); (case hg => rfl); (case hr => first | (go_simp; done) | (go_simp; rfl)); intro gb151 hg w21 hbox hb; have BK151 := zA.mk (hbox); have GW151 := zA.mk ((by rw [hg]; exact (zE (aL HB)) : w.heap.size ≤ gb151)); replace HB := zA.mk (zH (aL HB) hb); have GE151 := GW151; have NB144_151 := zA.mk ((by rw [hg]; exact Nat.ne_of_lt (blk_lt (aB BK144)) : gb144 ≠ gb151)); have NB151_144 := zA.mk ((by rw [hg]; exact Nat.ne_of_gt (blk_lt (g := gb144) (o := .cells #[.slice A0_0 l0_0.length c0_0, .slice A0_1 l0_1.length c0_1] 31 (0, 0)) (aB BK144)) : gb151 ≠ gb144)); replace BK144 := zA.mk (zB (aB BK144) hb); clear hb hbox hg; have hnb22 := NB151_144.out; have hnc22 := NB144_151.out; obtain ⟨hcz23_0, hcz23_1, hcz23_2, hcz23_3, hfz23_0, hfz23_1, hfz23_2, hfz23_3⟩ := aC4 BK151) | ((with_reducible refine gate_store (t := 61) (p := 9) rfl ?_); refine store_event (t := 61) (p := 9) (v := ?vo_w24) (w1 := ((((w21.setCell ⟨gb151, 0, none⟩ (.int .i64 ((rd_T61 y146 x19_1).f0))).setCell ⟨gb151, 1, none⟩ (.int .i64 ((rd_T61 y146 x19_1).f1))).setCell ⟨gb151, 2, none⟩ (.int .i64 ((rd_T61 y146 x19_1).f2))).setCell ⟨gb151, 3, none⟩ (.int .u8 ((rd_T61 y146 x19_1).f3)))) ?hg ?ho ?hn ?hr ?_; (case ho => rfl); (case hg => rfl); (case hn => rfl); (case hr => first | (go_simp; done) | (go_simp; rfl)); intro w24 hw; have n0_ : zA (w24.heap[gb144]? = some (.cells #[.slice A0_0 l0_0.length c0_0, .slice A0_1 l0_1.length c0_1] 31 (0, 0))) := ⟨(by rw [hw]; exact (aB BK144))⟩; have n1_ : zA (w24.heap[gb151]? = some (.cells #[.int .i64 ((rd_T61 y146 x19_1).f0), .int .i64 ((rd_T61 y146 x19_1).f1), .int .i64 ((rd_T61 y146 x19_1).f2), .int .u8 ((rd_T61 y146 x19_1).f3)] 61 (0, 0))) := ⟨(by rw [hw]; exact (by (with_reducible repeat (first | refine zF ?_ _ | refine zD ?_ | refine zG ?_ _)); refine blk_put (cs := #[.int .i64 ((rd_T61 y146 x19_1).f0), .int .i64 ((rd_T61 y146 x19_1).f1), .int .i64 ((rd_T61 y146 x19_1).f2), .int .u8 0]) ?_ 3 _ rfl; (with_reducible repeat (first | refine zF ?_ _ | refine zD ?_ | refine zG ?_ _)); refine blk_put (cs := #[.int .i64 ((rd_T61 y146 x19_1).f0), .int .i64 ((rd_T61 y146 x19_1).f1), .int .i64 0, .int .u8 0]) ?_ 2 _ rfl; (with_reducible repeat (first | refine zF ?_ _ | refine zD ?_ | refine zG ?_ _)); refine blk_put (cs := #[.int .i64 ((rd_T61 y146 x19_1).f0), .int .i64 0, .int .i64 0, .int .u8 0]) ?_ 1 _ rfl; (with_reducible repeat (first | refine zF ?_ _ | refine zD ?_ | refine zG ?_ _)); refine blk_put (cs := #[.int .i64 0, .int .i64 0, .int .i64 0, .int .u8 0]) ?_ 0 _ rfl; (with_reducible repeat (first | refine zF ?_ _ | refine zD ?_ | refine zG ?_ _)); exact BK151.out))⟩; have n2_ : zA (Below w.heap.size w w24) := ⟨(by rw [hw]; exact (aL HB))⟩; clear hw; clear BK144; clear BK151; clear HB; have BK144 := n0_; have BK151 := n1_; have HB := n2_; clear n0_ n1_ n2_; obtain ⟨hcz25_0, hcz25_1, hcz25_2, hcz25_3, hfz25_0, hfz25_1, hfz25_2, hfz25_3⟩ := aC4 BK151))
  go_roundg k1
  case measure => have := HK1.out; omega
  case rel => exact ⟨(x7_1), (wrap64 (x19_1 + 1)), aZ, aZ, H', ⟨by have := HK1.out; omega⟩, ⟨aB BK144⟩, ⟨aL HB⟩⟩
mutual
def just_Line.l0 : Nat → Int → List Int → List Int → Int → List (S61) → List Int → Int → Int → Int → Int → Int → Int → Int → Int → Int → Nat → Option (List Int)
 | 0, _, _, _, _, _, _, _, _, _, _, _, _, _, _, _, _ => none
 | k + 1, x7, x8, x9, x10, x153000, x153001, x154000, x154001, x154002, x154003, x155000, x155001, x155002, x155003, x155004, x155005 => if x10 < x7 then (if 0 ≤ (wrap64 ((wrap64 (x10 - x154000)) + 1)) then (if (wrap64 ((wrap64 (x10 - x154000)) + 1)) < (x8.length : Int) then (if 0 ≤ (wrap64 (x10 - x154000)) then (if (wrap64 (x10 - x154000)) < (x8.length : Int) then (if x9.length < 17592186044416 then (just_Line.l0 k x7 x8 (x9 ++ [wrap64 ((rd x8 (wrap64 ((wrap64 (x10 - x154000)) + 1))) - (rd x8 (wrap64 (x10 - x154000))))]) (wrap64 (x10 + 1)) x153000 x153001 x154000 x154001 x154002 x154003 x155000 x155001 x155002 x155003 x155004 x155005) else (none)) else (none)) else (none)) else (none)) else (none)) else (if x154003 = 2 then (just_Line.j1 k x9 true x153000 x153001 x154000 x154001 x154002 x154003 x155000 x155001 x155002 x155003 x155004 x155005) else (just_Line.j1 k x9 (x154003 == 4) x153000 x153001 x154000 x154001 x154002 x154003 x155000 x155001 x155002 x155003 x155004 x155005))
def just_Line.j1 : Nat → List Int → Bool → List (S61) → List Int → Int → Int → Int → Int → Int → Int → Int → Int → Int → Nat → Option (List Int)
 | 0, _, _, _, _, _, _, _, _, _, _, _, _, _, _ => none
 | k + 1, x9, x60, x153000, x153001, x154000, x154001, x154002, x154003, x155000, x155001, x155002, x155003, x155004, x155005 => if x60 = true then (some x9) else ((span_Cells.f k x153000 x153001 x154000 x154001 x154003 x155001).bind fun t164 => ((span_Gaps.f k x153000 x153001 x154000 x154001).bind fun t165 => ((just_Spread.f k (wrap64 (x155000 - t164)) t165).bind fun t166 => (just_Line.l1 k x9 t166 0 (x9.length : Int) 0 x153000 x153001 x154000 x154001 x154002 x154003))))
def just_Line.l1 : Nat → List Int → List Int → Int → Int → Int → List (S61) → List Int → Int → Int → Int → Int → Option (List Int)
 | 0, _, _, _, _, _, _, _, _, _, _, _ => none
 | k + 1, x9, x11, x12, x83, x84, x153000, x153001, x154000, x154001, x154002, x154003 => if x84 < x83 then (if 0 ≤ (wrap64 (x154000 + x84)) then (if (wrap64 (x154000 + x84)) < (x153000.length : Int) then (if ((rd_T61 x153000 (wrap64 (x154000 + x84))).f3) = 1 then (if x12 < (x11.length : Int) then (if 0 ≤ x84 then (if x84 < (x9.length : Int) then (if 0 ≤ x12 then (just_Line.l1 k (x9.set (x84 : Int).toNat (wrap64 ((rd x9 x84) + (rd x11 x12)))) x11 (wrap64 (x12 + 1)) x83 (wrap64 (x84 + 1)) x153000 x153001 x154000 x154001 x154002 x154003) else (none)) else (none)) else (none)) else (just_Line.l1 k x9 x11 x12 x83 (wrap64 (x84 + 1)) x153000 x153001 x154000 x154001 x154002 x154003)) else (just_Line.l1 k x9 x11 x12 x83 (wrap64 (x84 + 1)) x153000 x153001 x154000 x154001 x154002 x154003)) else (none)) else (none)) else (some x9)
end
def just_Line.f (k : Nat) (l0_0 : List (S61)) (l0_1 : List Int) (a1_0 : Int) (a1_1 : Int) (a1_2 : Int) (a1_3 : Int) (a2_0 : Int) (a2_1 : Int) (a2_2 : Int) (a2_3 : Int) (a2_4 : Int) (a2_5 : Nat) : Option (List Int) := (span_Trim.f k l0_0 l0_1 a1_0 a1_1).bind fun t155 => ((span_Columns.f k l0_0 l0_1 a1_0 t155 a2_1).bind fun t156 => (just_Line.l0 k t155 t156 ([] : List Int) a1_0 l0_0 l0_1 a1_0 a1_1 a1_2 a1_3 a2_0 a2_1 a2_2 a2_3 a2_4 a2_5))
theorem just_Line.mono_l : ∀ k, (∀ y0 y1 y2 y3 y4 y5 y6 y7 y8 y9 y10 y11 y12 y13 y14 y15, LeO (just_Line.l0 k y0 y1 y2 y3 y4 y5 y6 y7 y8 y9 y10 y11 y12 y13 y14 y15) (just_Line.l0 (k + 1) y0 y1 y2 y3 y4 y5 y6 y7 y8 y9 y10 y11 y12 y13 y14 y15)) ∧ (∀ y0 y1 y2 y3 y4 y5 y6 y7 y8 y9 y10 y11 y12 y13, LeO (just_Line.j1 k y0 y1 y2 y3 y4 y5 y6 y7 y8 y9 y10 y11 y12 y13) (just_Line.j1 (k + 1) y0 y1 y2 y3 y4 y5 y6 y7 y8 y9 y10 y11 y12 y13)) ∧ (∀ y0 y1 y2 y3 y4 y5 y6 y7 y8 y9 y10, LeO (just_Line.l1 k y0 y1 y2 y3 y4 y5 y6 y7 y8 y9 y10) (just_Line.l1 (k + 1) y0 y1 y2 y3 y4 y5 y6 y7 y8 y9 y10))
 | 0 => ⟨fun _ _ _ _ _ _ _ _ _ _ _ _ _ _ _ _ r h => by simp [just_Line.l0] at h, fun _ _ _ _ _ _ _ _ _ _ _ _ _ _ r h => by simp [just_Line.j1] at h, fun _ _ _ _ _ _ _ _ _ _ _ r h => by simp [just_Line.l1] at h⟩
 | k + 1 => by
  obtain ⟨ih0, ih1, ih2⟩ := just_Line.mono_l k; refine ⟨?_, ?_, ?_⟩
  ·intro y0 y1 y2 y3 y4 y5 y6 y7 y8 y9 y10 y11 y12 y13 y14 y15
   unfold just_Line.l0
   repeat' (with_reducible first | exact ih0 _ _ _ _ _ _ _ _ _ _ _ _ _ _ _ _ | exact ih1 _ _ _ _ _ _ _ _ _ _ _ _ _ _ | exact ih2 _ _ _ _ _ _ _ _ _ _ _ | exact just_Spread.mono _ _ _ | exact span_Cells.mono _ _ _ _ _ _ _ | exact span_Columns.mono _ _ _ _ _ _ | exact span_Gaps.mono _ _ _ _ _ | exact span_Trim.mono _ _ _ _ _ | exact LeO.refl _ | exact LeO.none _ | refine LeO.ite ?_ ?_ | refine LeO.bind ?_ (fun _ => ?_))
  ·intro y0 y1 y2 y3 y4 y5 y6 y7 y8 y9 y10 y11 y12 y13
   unfold just_Line.j1
   repeat' (with_reducible first | exact ih0 _ _ _ _ _ _ _ _ _ _ _ _ _ _ _ _ | exact ih1 _ _ _ _ _ _ _ _ _ _ _ _ _ _ | exact ih2 _ _ _ _ _ _ _ _ _ _ _ | exact just_Spread.mono _ _ _ | exact span_Cells.mono _ _ _ _ _ _ _ | exact span_Columns.mono _ _ _ _ _ _ | exact span_Gaps.mono _ _ _ _ _ | exact span_Trim.mono _ _ _ _ _ | exact LeO.refl _ | exact LeO.none _ | refine LeO.ite ?_ ?_ | refine LeO.bind ?_ (fun _ => ?_))
  ·intro y0 y1 y2 y3 y4 y5 y6 y7 y8 y9 y10
   unfold just_Line.l1
   repeat' (with_reducible first | exact ih0 _ _ _ _ _ _ _ _ _ _ _ _ _ _ _ _ | exact ih1 _ _ _ _ _ _ _ _ _ _ _ _ _ _ | exact ih2 _ _ _ _ _ _ _ _ _ _ _ | exact just_Spread.mono _ _ _ | exact span_Cells.mono _ _ _ _ _ _ _ | exact span_Columns.mono _ _ _ _ _ _ | exact span_Gaps.mono _ _ _ _ _ | exact span_Trim.mono _ _ _ _ _ | exact LeO.refl _ | exact LeO.none _ | refine LeO.ite ?_ ?_ | refine LeO.bind ?_ (fun _ => ?_))
theorem just_Line.mono : ∀ a0 a1 a2 a3 a4 a5 a6 a7 a8 a9 a10 a11 k, LeO (just_Line.f k a0 a1 a2 a3 a4 a5 a6 a7 a8 a9 a10 a11) (just_Line.f (k + 1) a0 a1 a2 a3 a4 a5 a6 a7 a8 a9 a10 a11) := by
 intro a0 a1 a2 a3 a4 a5 a6 a7 a8 a9 a10 a11 k
 obtain ⟨ih0, ih1, ih2⟩ := just_Line.mono_l k; unfold just_Line.f
 repeat' (with_reducible first | exact ih0 _ _ _ _ _ _ _ _ _ _ _ _ _ _ _ _ | exact ih1 _ _ _ _ _ _ _ _ _ _ _ _ _ _ | exact ih2 _ _ _ _ _ _ _ _ _ _ _ | exact just_Spread.mono _ _ _ | exact span_Cells.mono _ _ _ _ _ _ _ | exact span_Columns.mono _ _ _ _ _ _ | exact span_Gaps.mono _ _ _ _ _ | exact span_Trim.mono _ _ _ _ _ | exact LeO.refl _ | exact LeO.none _ | refine LeO.ite ?_ ?_ | refine LeO.bind ?_ (fun _ => ?_))
def just_Line.T7 : Bool × List (List Nat × List Nat) := (true, [([], []), ([], []), ([], []), ([], []), ([3], [3]), ([2, 4], [2, 4]), ([5], [5]), ([1, 6], [1, 6]), ([7], [7]), ([], []), ([], []), ([], []), ([11], [11]), ([10, 12], [10, 12]), ([9, 13], [9, 13]), ([14], [14]), ([8, 15], [8, 15]), ([16], [16]), ([0, 17], [0, 17]), ([18, 18, 0, 1, 2, 3, 4, 5, 6, 7, 8, 9, 10, 11, 12, 13, 14, 15, 16, 17, 18], [0, 18])])
def just_Line.B7 : List Nat := [0, 0, 0, 0, 8, 28, 60, 126, 254, 0, 0, 0, 2048, 7168, 15872, 32256, 65534, 131070, 262143, 524287]
theorem just_Line.tab7 : rtab .any (opsOf Try.f37 7) = just_Line.T7 := by kernel_rfl
theorem just_Line.bits7 : waitsOk just_Line.T7.2 just_Line.B7 = true := by kernel_rfl
def just_Line.T10 : Bool × List (List Nat × List Nat) := (true, [([], []), ([0], [0]), ([], []), ([], []), ([3], [3]), ([], []), ([5], [5]), ([], []), ([7], [7]), ([], []), ([9], [9]), ([2, 4, 6, 8, 10], [2, 4, 6, 8, 10]), ([1, 11], [1, 11]), ([], []), ([], []), ([14], [14]), ([], []), ([16], [16]), ([13, 15, 17, 11], [13, 15, 17]), ([12, 18, 18], [12, 18]), ([19, 19, 0, 1, 2, 3, 4, 5, 6, 7, 8, 9, 10, 11, 12, 13, 14, 15, 16, 17, 18, 19], [19])])
def just_Line.B10 : List Nat := [0, 1, 0, 0, 8, 0, 32, 0, 128, 0, 512, 2044, 4095, 0, 0, 16384, 0, 65536, 258044, 524287, 1048575]
theorem just_Line.tab10 : rtab .any (opsOf Try.f37 10) = just_Line.T10 := by kernel_rfl
theorem just_Line.bits10 : waitsOk just_Line.T10.2 just_Line.B10 = true := by kernel_rfl
def just_Line.T16 : Bool × List (List Nat × List Nat) := (true, [([], []), ([], []), ([0, 1], [0, 1]), ([2], [2]), ([], []), ([], []), ([4, 5], [4, 5]), ([6], [6]), ([3, 7], [3, 7]), ([0, 1, 0, 1, 2, 3, 4, 5, 6, 7, 8], [0, 1]), ([9, 8, 0, 1, 2, 3, 4, 5, 6, 7, 8], [8, 9])])
def just_Line.B16 : List Nat := [0, 0, 3, 7, 0, 0, 48, 112, 255, 511, 1023]
theorem just_Line.tab16 : rtab .any (opsOf Try.f37 16) = just_Line.T16 := by kernel_rfl
theorem just_Line.bits16 : waitsOk just_Line.T16.2 just_Line.B16 = true := by kernel_rfl
set_option maxHeartbeats 8000000 in
set_option maxRecDepth 100000 in
theorem just_Line.calls (k : Nat) (A0_0 : Option Addr) (c0_0 : Nat) (l0_0 : List (S61)) (A0_1 : Option Addr) (c0_1 : Nat) (l0_1 : List Int) (a1_0 : Int) (a1_1 : Int) (a1_2 : Int) (a1_3 : Int) (a2_0 : Int) (a2_1 : Int) (a2_2 : Int) (a2_3 : Int) (a2_4 : Int) (a2_5 : Nat) (r : List Int) (w : World) (hr0_0 : Kd.C k61 w A0_0 l0_0.length l0_0) (hc0_0 : l0_0.length ≤ c0_0) (hr0_1 : Kd.C (Kd.int .u8) w A0_1 l0_1.length l0_1) (hc0_1 : l0_1.length ≤ c0_1) (h : just_Line.f k l0_0 l0_1 a1_0 a1_1 a1_2 a1_3 a2_0 a2_1 a2_2 a2_3 a2_4 a2_5 = some r) :
  Calls Try.prog 37 #[.agg #[.slice A0_0 l0_0.length c0_0, .slice A0_1 l0_1.length c0_1], .agg #[.int .i64 a1_0, .int .i64 a1_1, .int .i64 a1_2, .int .u8 a1_3], .agg #[.int .i64 a2_0, .int .i64 a2_1, .int .u8 a2_2, .int .i64 a2_3, .int .i64 a2_4, .float .f64 a2_5]] w fun e w' => ∃ v0_ : Value, e = .returned (v0_) ∧ Kd.R (Kd.int .i64) 3 w' w.heap.size (fun _ => True) v0_ r ∧ Below w.heap.size w w' := by
 have hu31 := Try.underlying31; have hu45 := Try.underlying45; have hu35 := Try.underlying35; have HR0_0 := zA.mk hr0_0; have HC0_0 := zA.mk hc0_0; clear hr0_0 hc0_0; have HR0_1 := zA.mk hr0_1; have HC0_1 := zA.mk hc0_1; clear hr0_1 hc0_1; have HB := zA.mk (Below.refl w.heap.size w); have H : ((span_Trim.f k l0_0 l0_1 a1_0 a1_1).bind fun t155 => ((span_Columns.f k l0_0 l0_1 a1_0 t155 a2_1).bind fun t156 => (just_Line.l0 k t155 t156 ([] : List Int) a1_0 l0_0 l0_1 a1_0 a1_1 a1_2 a1_3 a2_0 a2_1 a2_2 a2_3 a2_4 a2_5))) = some r := h
 clear h; replace H := Option.bind_eq_some_iff.mp H; obtain ⟨t155, A40, H⟩ := H; replace H : ((span_Columns.f k l0_0 l0_1 a1_0 t155 a2_1).bind fun t156 => (just_Line.l0 k t155 t156 ([] : List Int) a1_0 l0_0 l0_1 a1_0 a1_1 a1_2 a1_3 a2_0 a2_1 a2_2 a2_3 a2_4 a2_5)) = some r := H
 have A4 := zA.mk A40; clear A40; replace H := Option.bind_eq_some_iff.mp H; obtain ⟨t156, A50, H⟩ := H; replace H : (just_Line.l0 k t155 t156 ([] : List Int) a1_0 l0_0 l0_1 a1_0 a1_1 a1_2 a1_3 a2_0 a2_1 a2_2 a2_3 a2_4 a2_5) = some r := H; have A5 := zA.mk A50; clear A50; have H' := zA.mk H
 clear H; go_enter Try.func37, Try.ntmps37
 go_wp2_with (first | ((with_reducible refine gate_dst (N := 3) rfl ?_); (try (refine gate_guard (by rfl) ?_; dsimp only)); refine box_event ?hg (N := 3) ?hd (cs := #[.slice A0_0 l0_0.length c0_0, .slice A0_1 l0_1.length c0_1]) (t := 31) ?hr ?_; (case hd => rfl); (case hg => rfl); (case hr => first | (go_simp; done) | (go_simp; rfl)); intro gb152 hg w6 hbox hb; have BK152 := zA.mk (hbox); have GW152 := zA.mk ((by rw [hg]; exact (zE (aL HB)) : w.heap.size ≤ gb152)); replace HB := zA.mk (zH (aL HB) hb); have GE152 := GW152; clear hb hbox hg) | ((with_reducible refine gate_dst (N := 4) rfl ?_); (try (refine gate_guard (by rfl) ?_; dsimp only)); refine box_event ?hg (N := 4) ?hd (cs := #[.int .i64 a1_0, .int .i64 a1_1, .int .i64 a1_2, .int .u8 a1_3]) (t := 45) ?hr ?_; (case hd => rfl); (case hg => rfl); (case hr => first | (go_simp; done) | (go_simp; rfl)); intro gb153 hg w7 hbox hb; have BK153 := zA.mk (hbox); have GW153 := zA.mk ((by rw [hg]; exact (zE (aL HB)) : w.heap.size ≤ gb153)); replace HB := zA.mk (zH (aL HB) hb); have GE153 := GW153; have NB152_153 := zA.mk ((by rw [hg]; exact Nat.ne_of_lt (blk_lt (aB BK152)) : gb152 ≠ gb153)); have NB153_152 := zA.mk ((by rw [hg]; exact Nat.ne_of_gt (blk_lt (g := gb152) (o := .cells #[.slice A0_0 l0_0.length c0_0, .slice A0_1 l0_1.length c0_1] 31 (0, 0)) (aB BK152)) : gb153 ≠ gb152)); replace BK152 := zA.mk (zB (aB BK152) hb); clear hb hbox hg) | ((with_reducible refine gate_dst (N := 5) rfl ?_); (try (refine gate_guard (by rfl) ?_; dsimp only)); refine box_event ?hg (N := 5) ?hd (cs := #[.int .i64 a2_0, .int .i64 a2_1, .int .u8 a2_2, .int .i64 a2_3, .int .i64 a2_4, .float .f64 a2_5]) (t := 35) ?hr ?_; (case hd => rfl); (case hg => rfl); (case hr => first | (go_simp; done) | (go_simp; rfl)); intro gb154 hg w8 hbox hb; have BK154 := zA.mk (hbox); have GW154 := zA.mk ((by rw [hg]; exact (zE (aL HB)) : w.heap.size ≤ gb154)); replace HB := zA.mk (zH (aL HB) hb); have GE154 := GW154; have NB152_154 := zA.mk ((by rw [hg]; exact Nat.ne_of_lt (blk_lt (aB BK152)) : gb152 ≠ gb154)); have NB154_152 := zA.mk ((by rw [hg]; exact Nat.ne_of_gt (blk_lt (g := gb152) (o := .cells #[.slice A0_0 l0_0.length c0_0, .slice A0_1 l0_1.length c0_1] 31 (0, 0)) (aB BK152)) : gb154 ≠ gb152)); replace BK152 := zA.mk (zB (aB BK152) hb); have NB153_154 := zA.mk ((by rw [hg]; exact Nat.ne_of_lt (blk_lt (aB BK153)) : gb153 ≠ gb154)); have NB154_153 := zA.mk ((by rw [hg]; exact Nat.ne_of_gt (blk_lt (g := gb153) (o := .cells #[.int .i64 a1_0, .int .i64 a1_1, .int .i64 a1_2, .int .u8 a1_3] 45 (0, 0)) (aB BK153)) : gb154 ≠ gb153)); replace BK153 := zA.mk (zB (aB BK153) hb); clear hb hbox hg; have hnb9 := NB152_153.out; have hnc9 := NB153_152.out; have hnb10 := NB152_154.out; have hnc10 := NB154_152.out; obtain ⟨hcz11_0, hcz11_1, hfz11_0, hfz11_1⟩ := aC2 BK152; have hnb12 := NB153_154.out; have hnc12 := NB154_153.out; obtain ⟨hcz13_0, hcz13_1, hcz13_2, hcz13_3, hfz13_0, hfz13_1, hfz13_2, hfz13_3⟩ := aC4 BK153) | ((with_reducible refine gate_callee (f := 19) rfl ?_); refine goesL_ (some 19) rfl rfl Try.func19 (by kernel_rfl) rfl #[.agg #[.slice A0_0 l0_0.length c0_0, .slice A0_1 l0_1.length c0_1], .int .i64 a1_0, .int .i64 a1_1] rfl aT ?_; (with_reducible refine (span_Trim.calls k _ _ l0_0 _ _ l0_1 a1_0 a1_1 t155 _ ?side1 ?side2 ?side3 ?side4 A4.out).mono ?_); (case side1 => exact aA HR0_0 HB); (case side2 => exact HC0_0.out); (case side3 => exact aA HR0_1 HB); (case side4 => exact HC0_1.out); rintro e w14 ⟨rfl, hb⟩; refine ⟨_, rfl, ?_⟩; replace BK152 := zA.mk (zB (aB BK152) hb); replace BK153 := zA.mk (zB (aB BK153) hb); replace BK154 := zA.mk (zB (aB BK154) hb); replace HB := zA.mk (zH (aL HB) hb); (try clear hb); (try clear hb2); (try clear hk); (try clear hi); obtain ⟨hcz15_0, hcz15_1, hfz15_0, hfz15_1⟩ := aC2 BK152; obtain ⟨hcz16_0, hcz16_1, hcz16_2, hcz16_3, hfz16_0, hfz16_1, hfz16_2, hfz16_3⟩ := aC4 BK153; obtain ⟨hcz17_0, hcz17_1, hcz17_2, hcz17_3, hcz17_4, hcz17_5, hfz17_0, hfz17_1, hfz17_2, hfz17_3, hfz17_4, hfz17_5⟩ := aC6 BK154) | ((with_reducible refine gate_callee (f := 33) rfl ?_); refine goesL_ (some 26) rfl rfl Try.func33 (by kernel_rfl) rfl #[.agg #[.slice A0_0 l0_0.length c0_0, .slice A0_1 l0_1.length c0_1], .int .i64 a1_0, .int .i64 t155, .int .i64 a2_1] rfl aT ?_; (with_reducible refine (span_Columns.calls k _ _ l0_0 _ _ l0_1 a1_0 t155 a2_1 t156 _ ?side1 ?side2 ?side3 ?side4 A5.out).mono ?_); (case side1 => exact aA HR0_0 HB); (case side2 => exact HC0_0.out); (case side3 => exact aA HR0_1 HB); (case side4 => exact HC0_1.out); rintro e w18 ⟨v157, rfl, ho0, hb⟩; refine ⟨_, rfl, ?_⟩; have HO158 := zA.mk (Kd.zT ho0 (zE (aL HB))); replace BK152 := zA.mk (zB (aB BK152) hb); replace BK153 := zA.mk (zB (aB BK153) hb); replace BK154 := zA.mk (zB (aB BK154) hb); replace HB := zA.mk (zH (aL HB) hb); (try clear hb); (try clear hb2); (try clear hk); (try clear hi); (try clear ho0); obtain ⟨hcz19_0, hcz19_1, hcz19_2, hcz19_3, hfz19_0, hfz19_1, hfz19_2, hfz19_3⟩ := aC4 BK153))
 go_loopg [9, 10] k (fun kq v9 v10 w' => ∃ (x9_1 : List Int) (x10_1 : Int), v10 = .int .i64 x10_1 ∧ zA (just_Line.l0 kq t155 t156 x9_1 x10_1 l0_0 l0_1 a1_0 a1_1 a1_2 a1_3 a2_0 a2_1 a2_2 a2_3 a2_4 a2_5 = some r) ∧ zA (kq ≤ k) ∧ zA (Kd.R (Kd.int .i64) 3 w' w.heap.size (fun k_ => some k_ ≠ (v9 : Value).ownBlock) v157 t156) ∧ zA (Kd.R (Kd.int .i64) 3 w' w.heap.size (fun k_ => some k_ ≠ (v157 : Value).ownBlock) v9 x9_1) ∧ zA (w'.heap[gb152]? = some (.cells #[(.slice A0_0 l0_0.length c0_0), (.slice A0_1 l0_1.length c0_1)] 31 (0, 0))) ∧ zA (w'.heap[gb153]? = some (.cells #[.int .i64 a1_0, .int .i64 a1_1, .int .i64 a1_2, .int .u8 a1_3] 45 (0, 0))) ∧ zA (w'.heap[gb154]? = some (.cells #[.int .i64 a2_0, .int .i64 a2_1, .int .u8 a2_2, .int .i64 a2_3, .int .i64 a2_4, .float .f64 a2_5] 35 (0, 0))) ∧ zA (Below w.heap.size w w'))
 case atStart => exact ⟨(([] : List Int)), (a1_0), aZ, H', ⟨Nat.le_refl _⟩, ⟨by (with_reducible repeat (first | apply Kd.zI | apply Kd.zJ | apply Kd.zK)); exact Kd.zU HO158.out (fun _ hk => (by simp [Value.ownBlock]))⟩, ⟨by first | exact Kd.R_nil _ _ _ _ _ | exact Kd.N_nil _ _ _ _ _ | exact Kd.V_nil _ _ _ _ _ | exact Kd.Q_nil _ _ _ _ _ | exact Kd.S_nil _ _ _ _ _⟩, ⟨aB BK152⟩, ⟨aB BK153⟩, ⟨aB BK154⟩, ⟨aL HB⟩⟩
 clear H'; obtain ⟨x9_1, x10_1, rfl, HA, HK1, HO_8, HO_9, BK152, BK153, BK154, HB⟩ := hrel; cases gk with
 | zero => exact absurd HA.out (by simp [just_Line.l0])
 | succ k1 =>
  have H := HA.out; clear HA; simp only [just_Line.l0] at H; by_cases c20 : x10_1 < t155
  ·rw [if_pos c20] at H
   have c20b0 : decide (x10_1 < t155) = true := decide_eq_true c20
   clear c20; obtain ⟨ji21, hji21⟩ : ∃ j_ : Int, (wrap64 ((wrap64 (x10_1 - a1_0)) + 1)) = j_ := ⟨_, rfl⟩; replace H : (if 0 ≤ (ji21) then (if (ji21) < (t156.length : Int) then (if 0 ≤ (wrap64 (x10_1 - a1_0)) then (if (wrap64 (x10_1 - a1_0)) < (t156.length : Int) then (if x9_1.length < 17592186044416 then (just_Line.l0 k1 t155 t156 (x9_1 ++ [wrap64 ((rd t156 (ji21)) - (rd t156 (wrap64 (x10_1 - a1_0))))]) (wrap64 (x10_1 + 1)) l0_0 l0_1 a1_0 a1_1 a1_2 a1_3 a2_0 a2_1 a2_2 a2_3 a2_4 a2_5) else (none)) else (none)) else (none)) else (none)) else (none)) = some r := by first | (rw [hji21] at H; exact H) | (simp only [hji21] at H ⊢; exact H)
   have hji21w : (IntKind.i64.wrap ((wrap64 (x10_1 - a1_0)) + 1)) = ji21 := (i64_w _).trans hji21
   by_cases c22 : 0 ≤ (ji21)
   rotate_left
   ·rw [if_neg c22] at H
    exact absurd H (by simp)
   rw [if_pos c22] at H; have c22b0 : decide (0 ≤ (ji21)) = true := decide_eq_true c22
   clear c22; by_cases c23 : (ji21) < (t156.length : Int)
   rotate_left
   ·rw [if_neg c23] at H
    exact absurd H (by simp)
   rw [if_pos c23] at H; have c23b0 : decide ((ji21) < (t156.length : Int)) = true := decide_eq_true c23
   clear c23; obtain ⟨ji24, hji24⟩ : ∃ j_ : Int, (wrap64 (x10_1 - a1_0)) = j_ := ⟨_, rfl⟩; replace H : (if 0 ≤ (ji24) then (if (ji24) < (t156.length : Int) then (if x9_1.length < 17592186044416 then (just_Line.l0 k1 t155 t156 (x9_1 ++ [wrap64 ((rd t156 (ji21)) - (rd t156 (ji24)))]) (wrap64 (x10_1 + 1)) l0_0 l0_1 a1_0 a1_1 a1_2 a1_3 a2_0 a2_1 a2_2 a2_3 a2_4 a2_5) else (none)) else (none)) else (none)) = some r := by first | (rw [hji24] at H; exact H) | (simp only [hji24] at H ⊢; exact H)
   have hji24w : (IntKind.i64.wrap (x10_1 - a1_0)) = ji24 := (i64_w _).trans hji24
   (try rw [hji24] at hji21)
   (try rw [hji24] at hji21w)
   by_cases c25 : 0 ≤ (ji24)
   rotate_left
   ·rw [if_neg c25] at H
    exact absurd H (by simp)
   rw [if_pos c25] at H; have c25b0 : decide (0 ≤ (ji24)) = true := decide_eq_true c25
   clear c25; by_cases c26 : (ji24) < (t156.length : Int)
   rotate_left
   ·rw [if_neg c26] at H
    exact absurd H (by simp)
   rw [if_pos c26] at H; have c26b0 : decide ((ji24) < (t156.length : Int)) = true := decide_eq_true c26
   clear c26; by_cases c27 : x9_1.length < 17592186044416
   rotate_left
   ·rw [if_neg c27] at H
    exact absurd H (by simp)
   rw [if_pos c27] at H; have LMc27 := zA.mk c27; clear c27; obtain ⟨y161, hy161⟩ : ∃ y_ : List Int, y_ = (x9_1 ++ [wrap64 ((rd t156 (ji21)) - (rd t156 (ji24)))]) := ⟨_, rfl⟩; replace H : (just_Line.l0 k1 t155 t156 y161 (wrap64 (x10_1 + 1)) l0_0 l0_1 a1_0 a1_1 a1_2 a1_3 a2_0 a2_1 a2_2 a2_3 a2_4 a2_5) = some r := by first | (rw [hy161]; with_reducible exact H) | (have H2_ := (Option.bind_some _ _).symm.trans H; rw [hy161]; with_reducible exact H2_) | (have H2_ := (Option.bind_some _ _).symm.trans H; with_reducible exact H2_) | with_reducible exact H | (rw [hy161]; exact H) | exact H
   have Ny161 := zA.mk hy161; clear hy161; have H' := zA.mk H
   clear H; try go_wp2
   replace HO_8 := zA.mk (Kd.zK HO_8.out); replace HO_9 := zA.mk (Kd.zK HO_9.out); replace BK152 := zA.mk (zD BK152.out); replace BK153 := zA.mk (zD BK153.out); replace BK154 := zA.mk (zD BK154.out); replace HB := zA.mk (below_drew1 HB.out); obtain ⟨Ao29, co29, eo29⟩ := Kd.zS HO_8.out; (first | subst eo29 | (injection eo29 with f1_ f2_ f3_; have f4_ := f1_.symm; have f5_ := f3_.symm; clear f1_ f2_ f3_; subst f4_; subst f5_))
   have p159 : 0 ≤ ((ji21) : Int) := aD
   have q159 : (ji21) < (t156.length : Int) := aD
   obtain ⟨ad159, e159, hx159_0⟩ := Kd.at_int (Kd.zP HO_8.out).2.2 (ji21) p159 q159; cases e159
   replace p159 := eq_true p159; replace q159 := eq_true q159; have p160 : 0 ≤ ((ji24) : Int) := aD
   have q160 : (ji24) < (t156.length : Int) := aD
   obtain ⟨ad160, e160, hx160_0⟩ := Kd.at_int (Kd.zP HO_8.out).2.2 (ji24) p160 q160; obtain rfl : ad159 = ad160 := (by injection e160)
   replace p160 := eq_true p160; replace q160 := eq_true q160; refine start_ (n := 20) (S := fun w' => w'.cell? ⟨gb153, 0, none⟩ = some (.int .i64 a1_0) ∧ w'.cell? ⟨gb153, 1, none⟩ = some (.int .i64 a1_1) ∧ w'.cell? ⟨gb153, 2, none⟩ = some (.int .i64 a1_2) ∧ w'.cell? ⟨gb153, 3, none⟩ = some (.int .u8 a1_3) ∧ w'.cell? (ad159.add ((ji21)).toNat) = some (.int .i64 (rd t156 (ji21))) ∧ w'.cell? (ad159.add ((ji24)).toNat) = some (.int .i64 (rd t156 (ji24)))) (ds := [17, 18]) #[false, false, false, false, false, false, false, false, false, false, false, false, false, false, false, false, false, false, false, false] (by kernel_rfl) rfl rfl ⟨(zC BK153.out 0).trans rfl, (zC BK153.out 1).trans rfl, (zC BK153.out 2).trans rfl, (zC BK153.out 3).trans rfl, hx159_0, hx160_0⟩ (fun hHeld => ?_); refine with_tabW just_Line.tab7 just_Line.bits7 (fun HT_ HW_ => ?_)
   generalize wr.drew = w28 at HO_8 HO_9 BK152 BK153 BK154 HB hx159_0 hx160_0 hHeld ⊢
   refine aP 0 (some 34) (tf_ 1 20) HT_ ?_
   refine aP 1 (some 35) (tf_ 2 20) HT_ ?_
   refine aP 2 (some 36) (tf_ 3 20) HT_ ?_
   refine aP 3 (some 37) (tf_ 4 20) HT_ ?_
   refine aP 9 (some 43) (tb_ 527 20) HT_ ?_
   refine aP 10 (some 44) (tb_ 1551 20) HT_ ?_
   refine aP 11 (some 45) (tb_ 3599 20) HT_ ?_
   refine take_ (i := 4) (N := some 38) (v := ?_) (a' := ?_) (tb_ 3615 20) rfl rfl (take_ofW HT_.out HW_.out (by kernel_rfl)) (fun _ _ _ h => h) (Or.inl ⟨by rfl, ?_⟩) hHeld ?_ ?_
   rotate_left
   ·rintro w' ⟨s0, s1, s2, s3, s4, s5⟩
    go_simp
    with_reducible rfl
   rotate_left
   ·simp only [Act.put, sA_, sB_, sC_, i64_w, i32_w]
    rfl
   refine aP 5 (some 39) (tb_ 3647 20) HT_ ?_
   refine aP 6 (some 40) (tb_ 3711 20) HT_ ?_
   refine aP 7 (some 41) (tb_ 3839 20) HT_ ?_
   refine take_ (i := 8) (N := some 42) (v := ?_) (a' := ?_) (tf_ 12 20) rfl rfl (take_ofW HT_.out HW_.out (by kernel_rfl)) (fun _ _ _ h => h) (Or.inl ⟨by rfl, ?_⟩) hHeld ?_ ?_
   rotate_left
   ·rintro w' ⟨s0, s1, s2, s3, s4, s5⟩
    go_simp
    with_reducible rfl
   rotate_left
   ·simp only [Act.put, sA_, sB_, sC_, i64_w, i32_w]
    rfl
   refine take_ (i := 12) (N := some 46) (v := ?_) (a' := ?_) (tf_ 13 20) rfl rfl (take_ofW HT_.out HW_.out (by kernel_rfl)) (fun _ _ _ h => h) (Or.inl ⟨by rfl, ?_⟩) hHeld ?_ ?_
   rotate_left
   ·rintro w' ⟨s0, s1, s2, s3, s4, s5⟩
    go_simp
    with_reducible rfl
   rotate_left
   ·simp only [Act.put, sA_, sB_, sC_, i64_w, i32_w]
    rfl
   refine aP 13 (some 47) (tf_ 14 20) HT_ ?_
   refine aP 14 (some 48) (tf_ 15 20) HT_ ?_
   refine take_ (i := 15) (N := some 49) (v := ?_) (a' := ?_) (tf_ 16 20) rfl rfl (take_ofW HT_.out HW_.out (by kernel_rfl)) (fun _ _ _ h => h) (Or.inl ⟨by rfl, ?_⟩) hHeld ?_ ?_
   rotate_left
   ·rintro w' ⟨s0, s1, s2, s3, s4, s5⟩
    go_simp
    with_reducible rfl
   rotate_left
   ·simp only [Act.put, sA_, sB_, sC_, i64_w, i32_w]
    rfl
   refine aP 16 (some 50) (tf_ 17 20) HT_ ?_
   refine last_ (i := 17) (N := some 51) (tb_ 262143 20) rfl rfl (one_of HT_.out (by kernel_rfl)) (by decide) (fun K hK => ?_)
   refine value_ (w1 := ?_) (v := ?_) (by rfl) rfl ?_ ?_
   rotate_left 2
   ·go_simp
    constructor
    ·rfl
    rfl
   refine hK.out _ _ ?_
   clear hK K; refine norm_ (a' := ?_) ?_ ?_
   rotate_left
   ·show Act.put _ (some 51) _ = _
    simp only [Act.put, sA_, sB_, sC_, i64_w, i32_w]; rfl
   refine last_ (i := 18) (N := some 52) (tb_ 524287 20) rfl rfl (one_of HT_.out (by kernel_rfl)) (by decide) (fun K hK => ?_)
   refine Kd.R_append_step (Kd.int .i64) (w0 := w) w.heap.size (by rfl) (.tmp 34) (.tmp 51) 37 3 (.int .i64 0) 8 rfl Try.underlying37 info3 rfl (by decide) (by omega) u9 x9_1 (wrap64 ((rd t156 (ji21)) - (rd t156 (ji24)))) [.int .i64 (wrap64 ((rd t156 (ji21)) - (rd t156 (ji24))))] (fun k_ => some k_ ≠ (.slice (some ad159) t156.length co29 : Value).ownBlock) (fun _ => False) rfl rfl ?aP (fun _ hk => hk.elim) ?aF ?aO ?aB ?aS ?aL ?_
   (case aP => exact rfl)
   (case aB => exact (aL HB))
   (case aF => exact (fun k_ hk => Kd.fresh' (Kd.R_lt (aR HO_8)) k_ hk))
   (case aO => exact (aR HO_9))
   (case aS => exact (zE (aL HB)))
   (case aL => have := LMc27.out; omega)
   intro v162 w30 ho hb hg hat
   rw [← Ny161.out] at ho; replace HO_8 := zA.mk (Kd.R_after (ok := (fun _ => True)) (by (with_reducible repeat (first | apply Kd.zI | apply Kd.zJ | apply Kd.zK)); exact Kd.zU HO_8.out (fun _ hk => ⟨trivial, hk⟩)) hg hat)
   replace BK152 := zA.mk (blk_grown (g := gb152) (o := .cells #[.slice A0_0 l0_0.length c0_0, .slice A0_1 l0_1.length c0_1] 31 (0, 0)) (aB BK152) hg (Kd.R_ne HO_9.out BK152.out (by decide)))
   replace BK153 := zA.mk (blk_grown (g := gb153) (o := .cells #[.int .i64 a1_0, .int .i64 a1_1, .int .i64 a1_2, .int .u8 a1_3] 45 (0, 0)) (aB BK153) hg (Kd.R_ne HO_9.out BK153.out (by decide)))
   replace BK154 := zA.mk (blk_grown (g := gb154) (o := .cells #[.int .i64 a2_0, .int .i64 a2_1, .int .u8 a2_2, .int .i64 a2_3, .int .i64 a2_4, .float .f64 a2_5] 35 (0, 0)) (aB BK154) hg (Kd.R_ne HO_9.out BK154.out (by decide)))
   replace HB := zA.mk (hb); have HO163 := zA.mk (ho); clear HO_9; clear ho hb hg hat; refine hK.out _ _ ?_
   clear hK K; refine norm_ (a' := ?_) ?_ ?_
   rotate_left
   ·show Act.put _ (some 52) _ = _
    simp only [Act.put, sA_, sB_, sC_, i64_w, i32_w]; rfl
   refine aP 19 (some 9) (tb_ 1048575 20) HT_ ?_
   refine done_ (done_of HT_.out (by kernel_rfl)) ?_
   try go_wp2
   go_roundg k1
   case measure => have := HK1.out; omega
   case rel => exact ⟨(y161), (wrap64 (x10_1 + 1)), aZ, H', ⟨by have := HK1.out; omega⟩, ⟨by (with_reducible repeat (first | apply Kd.zI | apply Kd.zJ | apply Kd.zK)); exact Kd.zU HO_8.out (fun _ hk => hk.2)⟩, ⟨aR HO163⟩, ⟨aB BK152⟩, ⟨aB BK153⟩, ⟨aB BK154⟩, ⟨aL HB⟩⟩
  rw [if_neg c20] at H; have c20b0 : decide (x10_1 < t155) = false := decide_eq_false c20
  clear c20; have HC31 := zA.mk H; clear H; go_upto_region 8 with (fail)
  go_cut [60] (fun v60 wc => ∃ (kq : Nat) (x60_30 : Bool), v60 = .bool x60_30 ∧ zA (just_Line.j1 kq x9_1 x60_30 l0_0 l0_1 a1_0 a1_1 a1_2 a1_3 a2_0 a2_1 a2_2 a2_3 a2_4 a2_5 = some r) ∧ zA (kq ≤ k1) ∧ zA (Kd.R (Kd.int .i64) 3 wc w.heap.size (fun _ => True) u9 x9_1) ∧ zA (wc.heap[gb152]? = some (.cells #[(.slice A0_0 l0_0.length c0_0), (.slice A0_1 l0_1.length c0_1)] 31 (0, 0))) ∧ zA (wc.heap[gb153]? = some (.cells #[.int .i64 a1_0, .int .i64 a1_1, .int .i64 a1_2, .int .u8 a1_3] 45 (0, 0))) ∧ zA (wc.heap[gb154]? = some (.cells #[.int .i64 a2_0, .int .i64 a2_1, .int .u8 a2_2, .int .i64 a2_3, .int .i64 a2_4, .float .f64 a2_5] 35 (0, 0))) ∧ zA (Below w.heap.size w wc))
  case first =>
   have H := HC31.out; clear HC31; by_cases c32 : a1_3 = 2
   ·rw [if_pos c32] at H
    have c32b0 : (a1_3 == 2) = true := beq_iff_eq.mpr c32
    have c32b1 : (a1_3 != 2) = false := bne_eq_false_iff_eq.mpr c32
    clear c32; (first | rw [c32b0] | (simp only [i64_w, i32_w]; rw [c32b0]) | skip)
    have H' := zA.mk H
    clear H; have hnb33 := NB153_152.out; have hnc33 := NB152_153.out; have hnb34 := NB153_154.out; have hnc34 := NB154_153.out; obtain ⟨hcz35_0, hcz35_1, hcz35_2, hcz35_3, hfz35_0, hfz35_1, hfz35_2, hfz35_3⟩ := aC4 BK153; go_wp2
    go_meet
    case rel => exact ⟨_, (true), aZ, H', ⟨by have := HK1.out; first | omega | exact Nat.le_refl _⟩, ⟨by (with_reducible repeat (first | apply Kd.zI | apply Kd.zJ | apply Kd.zK)); exact Kd.zU HO_9.out (fun _ hk => trivial)⟩, ⟨aB BK152⟩, ⟨aB BK153⟩, ⟨aB BK154⟩, ⟨aL HB⟩⟩
   rw [if_neg c32] at H; have c32b0 : (a1_3 == 2) = false := beq_eq_false_iff_ne.mpr c32
   have c32b1 : (a1_3 != 2) = true := bne_iff_ne.mpr c32
   (first | rw [c32b0] | (simp only [i64_w, i32_w]; rw [c32b0]) | skip)
   have H' := zA.mk H
   clear H; have hnb36 := NB153_152.out; have hnc36 := NB152_153.out; have hnb37 := NB153_154.out; have hnc37 := NB154_153.out; obtain ⟨hcz38_0, hcz38_1, hcz38_2, hcz38_3, hfz38_0, hfz38_1, hfz38_2, hfz38_3⟩ := aC4 BK153; go_wp2
   go_meet
   case rel => exact ⟨_, ((a1_3 == 4)), aZ, H', ⟨by have := HK1.out; first | omega | exact Nat.le_refl _⟩, ⟨by (with_reducible repeat (first | apply Kd.zI | apply Kd.zJ | apply Kd.zK)); exact Kd.zU HO_9.out (fun _ hk => trivial)⟩, ⟨aB BK152⟩, ⟨aB BK153⟩, ⟨aB BK154⟩, ⟨aL HB⟩⟩
  clear HC31; obtain ⟨kq, x60_30, rfl, HA, HJ30, HO_9, BK152, BK153, BK154, HB⟩ := hcut; cases kq with
  | zero => exact absurd HA.out (by simp [just_Line.j1])
  | succ kj30 =>
   have H := HA.out; clear HA; simp only [just_Line.j1] at H; by_cases c39 : x60_30 = true
   ·subst c39
    have H1 : (some x9_1) = some r := by rw [if_pos rfl] at H; exact H
    clear H; have H := H1; clear H1; obtain rfl := Option.some.inj H
    go_wp2
    go_ret
    exact ⟨_, aX, aR HO_9, aL HB⟩
   replace c39 := Bool.eq_false_iff.mpr c39; subst c39; have H1 : ((span_Cells.f kj30 l0_0 l0_1 a1_0 a1_1 a1_3 a2_1).bind fun t164 => ((span_Gaps.f kj30 l0_0 l0_1 a1_0 a1_1).bind fun t165 => ((just_Spread.f kj30 (wrap64 (a2_0 - t164)) t165).bind fun t166 => (just_Line.l1 kj30 x9_1 t166 0 (x9_1.length : Int) 0 l0_0 l0_1 a1_0 a1_1 a1_2 a1_3)))) = some r := by rw [if_neg (show ¬ (false = true) by decide)] at H; exact H
   clear H; have H := H1; clear H1; replace H := Option.bind_eq_some_iff.mp H; obtain ⟨t164, A400, H⟩ := H; replace H : ((span_Gaps.f kj30 l0_0 l0_1 a1_0 a1_1).bind fun t165 => ((just_Spread.f kj30 (wrap64 (a2_0 - t164)) t165).bind fun t166 => (just_Line.l1 kj30 x9_1 t166 0 (x9_1.length : Int) 0 l0_0 l0_1 a1_0 a1_1 a1_2 a1_3))) = some r := H
   have A40 := zA.mk A400; clear A400; replace H := Option.bind_eq_some_iff.mp H; obtain ⟨t165, A410, H⟩ := H; replace H : ((just_Spread.f kj30 (wrap64 (a2_0 - t164)) t165).bind fun t166 => (just_Line.l1 kj30 x9_1 t166 0 (x9_1.length : Int) 0 l0_0 l0_1 a1_0 a1_1 a1_2 a1_3)) = some r := H
   have A41 := zA.mk A410; clear A410; replace H := Option.bind_eq_some_iff.mp H; obtain ⟨t166, A420, H⟩ := H; replace H : (just_Line.l1 kj30 x9_1 t166 0 (x9_1.length : Int) 0 l0_0 l0_1 a1_0 a1_1 a1_2 a1_3) = some r := H; have A42 := zA.mk A420; clear A420; have H' := zA.mk H
   clear H; try go_wp2
   replace HO_9 := zA.mk (Kd.zK HO_9.out); replace BK152 := zA.mk (zD BK152.out); replace BK153 := zA.mk (zD BK153.out); replace BK154 := zA.mk (zD BK154.out); replace HB := zA.mk (below_drew1 HB.out); refine start_ (n := 21) (S := fun w' => w'.cell? ⟨gb154, 0, none⟩ = some (.int .i64 a2_0) ∧ w'.cell? ⟨gb154, 1, none⟩ = some (.int .i64 a2_1) ∧ w'.cell? ⟨gb154, 2, none⟩ = some (.int .u8 a2_2) ∧ w'.cell? ⟨gb154, 3, none⟩ = some (.int .i64 a2_3) ∧ w'.cell? ⟨gb154, 4, none⟩ = some (.int .i64 a2_4) ∧ w'.cell? ⟨gb154, 5, none⟩ = some (.float .f64 a2_5) ∧ w'.cell? ⟨gb152, 0, none⟩ = some (.slice A0_0 l0_0.length c0_0) ∧ w'.cell? ⟨gb152, 1, none⟩ = some (.slice A0_1 l0_1.length c0_1) ∧ w'.cell? ⟨gb153, 0, none⟩ = some (.int .i64 a1_0) ∧ w'.cell? ⟨gb153, 1, none⟩ = some (.int .i64 a1_1) ∧ w'.cell? ⟨gb153, 2, none⟩ = some (.int .i64 a1_2) ∧ w'.cell? ⟨gb153, 3, none⟩ = some (.int .u8 a1_3)) (ds := []) #[false, false, false, false, false, false, false, false, false, false, false, false, false, false, false, false, false, false, false, false, false] (by kernel_rfl) rfl rfl ⟨(zC BK154.out 0).trans rfl, (zC BK154.out 1).trans rfl, (zC BK154.out 2).trans rfl, (zC BK154.out 3).trans rfl, (zC BK154.out 4).trans rfl, (zC BK154.out 5).trans rfl, (zC BK152.out 0).trans rfl, (zC BK152.out 1).trans rfl, (zC BK153.out 0).trans rfl, (zC BK153.out 1).trans rfl, (zC BK153.out 2).trans rfl, (zC BK153.out 3).trans rfl⟩ (fun hHeld => ?_); refine with_tabW just_Line.tab10 just_Line.bits10 (fun HT_ HW_ => ?_)
   generalize wc.drew = w43 at HO_9 BK152 BK153 BK154 HB hHeld ⊢
   refine aP 0 (some 62) (tf_ 1 21) HT_ ?_
   refine aP 3 (some 65) (tb_ 9 21) HT_ ?_
   refine aP 5 (some 67) (tb_ 41 21) HT_ ?_
   refine aP 7 (some 69) (tb_ 169 21) HT_ ?_
   refine aP 9 (some 71) (tb_ 681 21) HT_ ?_
   refine aP 14 (some 76) (tb_ 17065 21) HT_ ?_
   refine aP 16 (some 78) (tb_ 82601 21) HT_ ?_
   refine take_ (i := 1) (N := some 63) (v := ?_) (a' := ?_) (tb_ 82603 21) rfl rfl (take_ofW HT_.out HW_.out (by kernel_rfl)) (fun _ _ _ h => h) (Or.inl ⟨by rfl, ?_⟩) hHeld ?_ ?_
   rotate_left
   ·rintro w' ⟨s0, s1, s2, s3, s4, s5, s6, s7, s8, s9, s10, s11⟩
    go_simp
    with_reducible rfl
   rotate_left
   ·simp only [Act.put, sA_, sB_, sC_, i64_w, i32_w]
    rfl
   refine take_ (i := 2) (N := some 64) (v := ?_) (a' := ?_) (tb_ 82607 21) rfl rfl (take_ofW HT_.out HW_.out (by kernel_rfl)) (fun _ _ _ h => h) (Or.inl ⟨by rfl, ?_⟩) hHeld ?_ ?_
   rotate_left
   ·rintro w' ⟨s0, s1, s2, s3, s4, s5, s6, s7, s8, s9, s10, s11⟩
    go_simp
    with_reducible rfl
   rotate_left
   ·simp only [Act.put, sA_, sB_, sC_, i64_w, i32_w]
    rfl
   refine take_ (i := 4) (N := some 66) (v := ?_) (a' := ?_) (tb_ 82623 21) rfl rfl (take_ofW HT_.out HW_.out (by kernel_rfl)) (fun _ _ _ h => h) (Or.inl ⟨by rfl, ?_⟩) hHeld ?_ ?_
   rotate_left
   ·rintro w' ⟨s0, s1, s2, s3, s4, s5, s6, s7, s8, s9, s10, s11⟩
    go_simp
    with_reducible rfl
   rotate_left
   ·simp only [Act.put, sA_, sB_, sC_, i64_w, i32_w]
    rfl
   refine take_ (i := 6) (N := some 68) (v := ?_) (a' := ?_) (tb_ 82687 21) rfl rfl (take_ofW HT_.out HW_.out (by kernel_rfl)) (fun _ _ _ h => h) (Or.inl ⟨by rfl, ?_⟩) hHeld ?_ ?_
   rotate_left
   ·rintro w' ⟨s0, s1, s2, s3, s4, s5, s6, s7, s8, s9, s10, s11⟩
    go_simp
    with_reducible rfl
   rotate_left
   ·simp only [Act.put, sA_, sB_, sC_, i64_w, i32_w]
    rfl
   refine take_ (i := 8) (N := some 70) (v := ?_) (a' := ?_) (tb_ 82943 21) rfl rfl (take_ofW HT_.out HW_.out (by kernel_rfl)) (fun _ _ _ h => h) (Or.inl ⟨by rfl, ?_⟩) hHeld ?_ ?_
   rotate_left
   ·rintro w' ⟨s0, s1, s2, s3, s4, s5, s6, s7, s8, s9, s10, s11⟩
    go_simp
    with_reducible rfl
   rotate_left
   ·simp only [Act.put, sA_, sB_, sC_, i64_w, i32_w]
    rfl
   refine take_ (i := 10) (N := some 72) (v := ?_) (a' := ?_) (tb_ 83967 21) rfl rfl (take_ofW HT_.out HW_.out (by kernel_rfl)) (fun _ _ _ h => h) (Or.inl ⟨by rfl, ?_⟩) hHeld ?_ ?_
   rotate_left
   ·rintro w' ⟨s0, s1, s2, s3, s4, s5, s6, s7, s8, s9, s10, s11⟩
    go_simp
    with_reducible rfl
   rotate_left
   ·simp only [Act.put, sA_, sB_, sC_, i64_w, i32_w]
    rfl
   refine take_ (i := 13) (N := some 75) (v := ?_) (a' := ?_) (tb_ 92159 21) rfl rfl (take_ofW HT_.out HW_.out (by kernel_rfl)) (fun _ _ _ h => h) (Or.inl ⟨by rfl, ?_⟩) hHeld ?_ ?_
   rotate_left
   ·rintro w' ⟨s0, s1, s2, s3, s4, s5, s6, s7, s8, s9, s10, s11⟩
    go_simp
    with_reducible rfl
   rotate_left
   ·simp only [Act.put, sA_, sB_, sC_, i64_w, i32_w]
    rfl
   refine take_ (i := 15) (N := some 77) (v := ?_) (a' := ?_) (tb_ 124927 21) rfl rfl (take_ofW HT_.out HW_.out (by kernel_rfl)) (fun _ _ _ h => h) (Or.inl ⟨by rfl, ?_⟩) hHeld ?_ ?_
   rotate_left
   ·rintro w' ⟨s0, s1, s2, s3, s4, s5, s6, s7, s8, s9, s10, s11⟩
    go_simp
    with_reducible rfl
   rotate_left
   ·simp only [Act.put, sA_, sB_, sC_, i64_w, i32_w]
    rfl
   refine take_ (i := 17) (N := some 79) (v := ?_) (a' := ?_) (tb_ 255999 21) rfl rfl (take_ofW HT_.out HW_.out (by kernel_rfl)) (fun _ _ _ h => h) (Or.inl ⟨by rfl, ?_⟩) hHeld ?_ ?_
   rotate_left
   ·rintro w' ⟨s0, s1, s2, s3, s4, s5, s6, s7, s8, s9, s10, s11⟩
    go_simp
    with_reducible rfl
   rotate_left
   ·simp only [Act.put, sA_, sB_, sC_, i64_w, i32_w]
    rfl
   refine one_ (i := 11) (N := some 73) (tb_ 258047 21) rfl rfl (one_of HT_.out (by kernel_rfl)) (by decide) (fun K hK => ?_)
   refine goes_ Try.func20 (by kernel_rfl) rfl #[.agg #[.slice A0_0 l0_0.length c0_0, .slice A0_1 l0_1.length c0_1], .int .i64 a1_0, .int .i64 a1_1, .int .u8 a1_3, .int .i64 a2_1] (by rfl) rfl rfl aT ?_
   with_reducible refine (span_Cells.calls kj30 _ _ l0_0 _ _ l0_1 a1_0 a1_1 a1_3 a2_1 t164 _ ?side1 ?side2 ?side3 ?side4 A40.out).mono ?_
   (case side1 => exact aA HR0_0 HB)
   (case side2 => exact HC0_0.out)
   (case side3 => exact aA HR0_1 HB)
   (case side4 => exact HC0_1.out)
   rintro e w44 ⟨rfl, hb⟩
   refine ⟨_, rfl, ?_⟩
   replace HO_9 := zA.mk (Kd.zQ (aR HO_9) hb); replace BK152 := zA.mk (zB (aB BK152) hb); replace BK153 := zA.mk (zB (aB BK153) hb); replace BK154 := zA.mk (zB (aB BK154) hb); replace HB := zA.mk (zH (aL HB) hb); (try clear hb)
   (try clear hb2)
   (try clear hk)
   (try clear hi)
   refine hK.out _ _ ⟨(zC BK154.out 0).trans rfl, (zC BK154.out 1).trans rfl, (zC BK154.out 2).trans rfl, (zC BK154.out 3).trans rfl, (zC BK154.out 4).trans rfl, (zC BK154.out 5).trans rfl, (zC BK152.out 0).trans rfl, (zC BK152.out 1).trans rfl, (zC BK153.out 0).trans rfl, (zC BK153.out 1).trans rfl, (zC BK153.out 2).trans rfl, (zC BK153.out 3).trans rfl⟩ (fun hHeld => ?_)
   clear hK K; refine norm_ (a' := ?_) ?_ ?_
   rotate_left
   ·show Act.put _ (some 73) _ = _
    simp only [Act.put, sA_, sB_, sC_, i64_w, i32_w]; rfl
   refine aP 12 (some 74) (tf_ 18 21) HT_ ?_
   refine one_ (i := 18) (N := some 80) (tb_ 524287 21) rfl rfl (one_of HT_.out (by kernel_rfl)) (by decide) (fun K hK => ?_)
   refine goes_ Try.func47 (by kernel_rfl) rfl #[.agg #[.slice A0_0 l0_0.length c0_0, .slice A0_1 l0_1.length c0_1], .int .i64 a1_0, .int .i64 a1_1] (by rfl) rfl rfl aT ?_
   with_reducible refine (span_Gaps.calls kj30 _ _ l0_0 _ _ l0_1 a1_0 a1_1 t165 _ ?side1 ?side2 ?side3 ?side4 A41.out).mono ?_
   (case side1 => exact aA HR0_0 HB)
   (case side2 => exact HC0_0.out)
   (case side3 => exact aA HR0_1 HB)
   (case side4 => exact HC0_1.out)
   rintro e w45 ⟨rfl, hb⟩
   refine ⟨_, rfl, ?_⟩
   replace HO_9 := zA.mk (Kd.zQ (aR HO_9) hb); replace BK152 := zA.mk (zB (aB BK152) hb); replace BK153 := zA.mk (zB (aB BK153) hb); replace BK154 := zA.mk (zB (aB BK154) hb); replace HB := zA.mk (zH (aL HB) hb); (try clear hb)
   (try clear hb2)
   (try clear hk)
   (try clear hi)
   refine hK.out _ _ ⟨(zC BK154.out 0).trans rfl, (zC BK154.out 1).trans rfl, (zC BK154.out 2).trans rfl, (zC BK154.out 3).trans rfl, (zC BK154.out 4).trans rfl, (zC BK154.out 5).trans rfl, (zC BK152.out 0).trans rfl, (zC BK152.out 1).trans rfl, (zC BK153.out 0).trans rfl, (zC BK153.out 1).trans rfl, (zC BK153.out 2).trans rfl, (zC BK153.out 3).trans rfl⟩ (fun hHeld => ?_)
   clear hK K; refine norm_ (a' := ?_) ?_ ?_
   rotate_left
   ·show Act.put _ (some 80) _ = _
    simp only [Act.put, sA_, sB_, sC_, i64_w, i32_w]; rfl
   refine one_ (i := 19) (N := some 81) (tb_ 1048575 21) rfl rfl (one_of HT_.out (by kernel_rfl)) (by decide) (fun K hK => ?_)
   refine goes_ Try.func46 (by kernel_rfl) rfl #[.int .i64 (wrap64 (a2_0 - t164)), .int .i64 t165] (by rfl) rfl rfl aT ?_
   with_reducible refine (just_Spread.calls kj30 (wrap64 (a2_0 - t164)) t165 t166 _ A42.out).mono ?_
   rintro e w46 ⟨v167, rfl, ho0, hb⟩
   refine ⟨_, rfl, ?_⟩
   have HO168 := zA.mk (Kd.zT (Kd.R_new' ho0 (Kd.R_lt (aR HO_9))) (zE (aL HB))); replace HO_9 := zA.mk (Kd.R_elder' (aR HO_9) (Kd.R_base ho0) hb); replace BK152 := zA.mk (zB (aB BK152) hb); replace BK153 := zA.mk (zB (aB BK153) hb); replace BK154 := zA.mk (zB (aB BK154) hb); replace HB := zA.mk (zH (aL HB) hb); (try clear hb)
   (try clear hb2)
   (try clear hk)
   (try clear hi)
   (try clear ho0)
   refine hK.out _ _ ⟨(zC BK154.out 0).trans rfl, (zC BK154.out 1).trans rfl, (zC BK154.out 2).trans rfl, (zC BK154.out 3).trans rfl, (zC BK154.out 4).trans rfl, (zC BK154.out 5).trans rfl, (zC BK152.out 0).trans rfl, (zC BK152.out 1).trans rfl, (zC BK153.out 0).trans rfl, (zC BK153.out 1).trans rfl, (zC BK153.out 2).trans rfl, (zC BK153.out 3).trans rfl⟩ (fun hHeld => ?_)
   clear hK K; refine norm_ (a' := ?_) ?_ ?_
   rotate_left
   ·show Act.put _ (some 81) _ = _
    simp only [Act.put, sA_, sB_, sC_, i64_w, i32_w]; rfl
   refine aP 20 (some 11) (tb_ 2097151 21) HT_ ?_
   refine done_ (done_of HT_.out (by kernel_rfl)) ?_
   obtain ⟨Ao47, co47, eo47⟩ := Kd.zS HO_9.out; subst eo47; try go_wp2
   go_loopg [12, 84] kj30 (fun kq v12 v84 w' => ∃ (x9_3 : List Int) (x12_3 : Int) (x84_3 : Int), v12 = .int .i64 x12_3 ∧ v84 = .int .i64 x84_3 ∧ zA (just_Line.l1 kq x9_3 t166 x12_3 (x9_1.length : Int) x84_3 l0_0 l0_1 a1_0 a1_1 a1_2 a1_3 = some r) ∧ zA (kq ≤ kj30) ∧ zA (Kd.R (Kd.int .i64) 3 w' w.heap.size (fun k_ => some k_ ≠ (v167 : Value).ownBlock) (.slice Ao47 x9_1.length co47) x9_3) ∧ zA (Kd.R (Kd.int .i64) 3 w' w.heap.size (fun k_ => some k_ ≠ ((.slice Ao47 x9_1.length co47) : Value).ownBlock) v167 t166) ∧ zA (w'.heap[gb152]? = some (.cells #[(.slice A0_0 l0_0.length c0_0), (.slice A0_1 l0_1.length c0_1)] 31 (0, 0))) ∧ zA (w'.heap[gb153]? = some (.cells #[.int .i64 a1_0, .int .i64 a1_1, .int .i64 a1_2, .int .u8 a1_3] 45 (0, 0))) ∧ zA (w'.heap[gb154]? = some (.cells #[.int .i64 a2_0, .int .i64 a2_1, .int .u8 a2_2, .int .i64 a2_3, .int .i64 a2_4, .float .f64 a2_5] 35 (0, 0))) ∧ zA (Below w.heap.size w w'))
   case atStart => exact ⟨(x9_1), (0), (0), aZ, aZ, H', ⟨Nat.le_refl _⟩, ⟨by (with_reducible repeat (first | apply Kd.zI | apply Kd.zJ | apply Kd.zK)); exact Kd.zU HO_9.out (fun _ hk => hk.2)⟩, ⟨by (with_reducible repeat (first | apply Kd.zI | apply Kd.zJ | apply Kd.zK)); exact Kd.zU HO168.out (fun _ hk => hk.2)⟩, ⟨aB BK152⟩, ⟨aB BK153⟩, ⟨aB BK154⟩, ⟨aL HB⟩⟩
   clear H'; obtain ⟨x9_3, x12_3, x84_3, rfl, rfl, HA, HK3, HO_9, HO_11, BK152, BK153, BK154, HB⟩ := hrel; have hl9_3 := (Kd.zP HO_9.out).1; rw [hl9_3] at HO_9; (try simp only [hl9_3])
   (try simp only [hl9_3] at BK152)
   (try simp only [hl9_3] at BK153)
   (try simp only [hl9_3] at BK154)
   (try simp only [hl9_3] at HO_11)
   cases gk with
   | zero => exact absurd HA.out (by simp [just_Line.l1])
   | succ k3 =>
    have H := HA.out; clear HA; simp only [just_Line.l1] at H; by_cases c48 : x84_3 < (x9_1.length : Int)
    rotate_left
    ·rw [if_neg c48] at H
     have c48b0 : decide (x84_3 < (x9_1.length : Int)) = false := decide_eq_false c48
     (try simp only [hl9_3] at c48b0)
     clear c48; obtain rfl := Option.some.inj H
     go_wp2
     go_ret
     exact ⟨_, aX, by (with_reducible repeat (first | apply Kd.zI | apply Kd.zJ | apply Kd.zK)); exact Kd.zU HO_9.out (fun _ hk => trivial), aL HB⟩
    rw [if_pos c48] at H; have c48b0 : decide (x84_3 < (x9_1.length : Int)) = true := decide_eq_true c48
    (try simp only [hl9_3] at c48b0)
    clear c48; obtain ⟨ji49, hji49⟩ : ∃ j_ : Int, (wrap64 (a1_0 + x84_3)) = j_ := ⟨_, rfl⟩; replace H : (if 0 ≤ (ji49) then (if (ji49) < (l0_0.length : Int) then (if ((rd_T61 l0_0 (ji49)).f3) = 1 then (if x12_3 < (t166.length : Int) then (if 0 ≤ x84_3 then (if x84_3 < (x9_3.length : Int) then (if 0 ≤ x12_3 then (just_Line.l1 k3 (x9_3.set (x84_3 : Int).toNat (wrap64 ((rd x9_3 x84_3) + (rd t166 x12_3)))) t166 (wrap64 (x12_3 + 1)) (x9_1.length : Int) (wrap64 (x84_3 + 1)) l0_0 l0_1 a1_0 a1_1 a1_2 a1_3) else (none)) else (none)) else (none)) else (just_Line.l1 k3 x9_3 t166 x12_3 (x9_1.length : Int) (wrap64 (x84_3 + 1)) l0_0 l0_1 a1_0 a1_1 a1_2 a1_3)) else (just_Line.l1 k3 x9_3 t166 x12_3 (x9_1.length : Int) (wrap64 (x84_3 + 1)) l0_0 l0_1 a1_0 a1_1 a1_2 a1_3)) else (none)) else (none)) = some r := by first | (rw [hji49] at H; exact H) | (simp only [hji49] at H ⊢; exact H)
    have hji49w : (IntKind.i64.wrap (a1_0 + x84_3)) = ji49 := (i64_w _).trans hji49
    by_cases c50 : 0 ≤ (ji49)
    rotate_left
    ·rw [if_neg c50] at H
     exact absurd H (by simp)
    rw [if_pos c50] at H; have c50b0 : decide (0 ≤ (ji49)) = true := decide_eq_true c50
    clear c50; by_cases c51 : (ji49) < (l0_0.length : Int)
    rotate_left
    ·rw [if_neg c51] at H
     exact absurd H (by simp)
    rw [if_pos c51] at H; have c51b0 : decide ((ji49) < (l0_0.length : Int)) = true := decide_eq_true c51
    (try simp only [hl9_3] at c51b0)
    clear c51; by_cases c52 : ((rd_T61 l0_0 (ji49)).f3) = 1
    rotate_left
    ·rw [if_neg c52] at H
     have c52b0 : (((rd_T61 l0_0 (ji49)).f3) == 1) = false := beq_eq_false_iff_ne.mpr c52
     have c52b1 : (((rd_T61 l0_0 (ji49)).f3) != 1) = true := bne_iff_ne.mpr c52
     have H' := zA.mk H
     clear H; have hnb72 := NB152_153.out; have hnc72 := NB153_152.out; have hnb73 := NB152_154.out; have hnc73 := NB154_152.out; obtain ⟨hcz74_0, hcz74_1, hfz74_0, hfz74_1⟩ := aC2 BK152; have hnb75 := NB153_154.out; have hnc75 := NB154_153.out; obtain ⟨hcz76_0, hcz76_1, hcz76_2, hcz76_3, hfz76_0, hfz76_1, hfz76_2, hfz76_3⟩ := aC4 BK153; have p169 : 0 ≤ ((ji49) : Int) := aD
     have q169 : (ji49) < (l0_0.length : Int) := aD
     obtain ⟨ad169, e169, hx169_0, hx169_1, hx169_2, hx169_3⟩ := at_T61 HR0_0.out (ji49) p169 q169; cases e169
     replace hx169_0 := (HB.out.cell (World.block_lt_of_cell? w _ hx169_0)).trans hx169_0; replace hx169_1 := (HB.out.cell (World.block_lt_of_cell? w _ hx169_1)).trans hx169_1; replace hx169_2 := (HB.out.cell (World.block_lt_of_cell? w _ hx169_2)).trans hx169_2; replace hx169_3 := (HB.out.cell (World.block_lt_of_cell? w _ hx169_3)).trans hx169_3; replace p169 := eq_true p169; replace q169 := eq_true q169; go_wp2
     (try simp only [← hl9_3])
     go_roundg k3
     case measure => have := HK1.out; have := HJ30.out; have := HK3.out; omega
     case rel => exact ⟨(x9_3), (x12_3), (wrap64 (x84_3 + 1)), aZ, aZ, H', ⟨by have := HK1.out; have := HJ30.out; have := HK3.out; omega⟩, ⟨by (try simp only [hl9_3]); (with_reducible repeat (first | apply Kd.zI | apply Kd.zJ | apply Kd.zK)); exact HO_9.out⟩, ⟨by (try simp only [hl9_3]); (with_reducible repeat (first | apply Kd.zI | apply Kd.zJ | apply Kd.zK)); exact HO_11.out⟩, ⟨by (try simp only [hl9_3]); (with_reducible repeat (first | refine zF ?_ _ | refine zD ?_ | refine zG ?_ _)); exact BK152.out⟩, ⟨by (try simp only [hl9_3]); (with_reducible repeat (first | refine zF ?_ _ | refine zD ?_ | refine zG ?_ _)); exact BK153.out⟩, ⟨by (try simp only [hl9_3]); (with_reducible repeat (first | refine zF ?_ _ | refine zD ?_ | refine zG ?_ _)); exact BK154.out⟩, ⟨aL HB⟩⟩
    rw [if_pos c52] at H; have c52b0 : (((rd_T61 l0_0 (ji49)).f3) == 1) = true := beq_iff_eq.mpr c52
    have c52b1 : (((rd_T61 l0_0 (ji49)).f3) != 1) = false := bne_eq_false_iff_eq.mpr c52
    clear c52; by_cases c53 : x12_3 < (t166.length : Int)
    rotate_left
    ·rw [if_neg c53] at H
     have c53b0 : decide (x12_3 < (t166.length : Int)) = false := decide_eq_false c53
     (try simp only [hl9_3] at c53b0)
     clear c53; have H' := zA.mk H
     clear H; have hnb66 := NB152_153.out; have hnc66 := NB153_152.out; have hnb67 := NB152_154.out; have hnc67 := NB154_152.out; obtain ⟨hcz68_0, hcz68_1, hfz68_0, hfz68_1⟩ := aC2 BK152; have hnb69 := NB153_154.out; have hnc69 := NB154_153.out; obtain ⟨hcz70_0, hcz70_1, hcz70_2, hcz70_3, hfz70_0, hfz70_1, hfz70_2, hfz70_3⟩ := aC4 BK153; have p169 : 0 ≤ ((ji49) : Int) := aD
     have q169 : (ji49) < (l0_0.length : Int) := aD
     obtain ⟨ad169, e169, hx169_0, hx169_1, hx169_2, hx169_3⟩ := at_T61 HR0_0.out (ji49) p169 q169; cases e169
     replace hx169_0 := (HB.out.cell (World.block_lt_of_cell? w _ hx169_0)).trans hx169_0; replace hx169_1 := (HB.out.cell (World.block_lt_of_cell? w _ hx169_1)).trans hx169_1; replace hx169_2 := (HB.out.cell (World.block_lt_of_cell? w _ hx169_2)).trans hx169_2; replace hx169_3 := (HB.out.cell (World.block_lt_of_cell? w _ hx169_3)).trans hx169_3; replace p169 := eq_true p169; replace q169 := eq_true q169; obtain ⟨Ao71, co71, eo71⟩ := Kd.zS HO_11.out; subst eo71; go_wp2
     (try simp only [← hl9_3])
     go_roundg k3
     case measure => have := HK1.out; have := HJ30.out; have := HK3.out; omega
     case rel => exact ⟨(x9_3), (x12_3), (wrap64 (x84_3 + 1)), aZ, aZ, H', ⟨by have := HK1.out; have := HJ30.out; have := HK3.out; omega⟩, ⟨by (try simp only [hl9_3]); (with_reducible repeat (first | apply Kd.zI | apply Kd.zJ | apply Kd.zK)); exact HO_9.out⟩, ⟨by (try simp only [hl9_3]); (with_reducible repeat (first | apply Kd.zI | apply Kd.zJ | apply Kd.zK)); exact HO_11.out⟩, ⟨by (try simp only [hl9_3]); (with_reducible repeat (first | refine zF ?_ _ | refine zD ?_ | refine zG ?_ _)); exact BK152.out⟩, ⟨by (try simp only [hl9_3]); (with_reducible repeat (first | refine zF ?_ _ | refine zD ?_ | refine zG ?_ _)); exact BK153.out⟩, ⟨by (try simp only [hl9_3]); (with_reducible repeat (first | refine zF ?_ _ | refine zD ?_ | refine zG ?_ _)); exact BK154.out⟩, ⟨aL HB⟩⟩
    rw [if_pos c53] at H; have c53b0 : decide (x12_3 < (t166.length : Int)) = true := decide_eq_true c53
    (try simp only [hl9_3] at c53b0)
    clear c53; by_cases c54 : 0 ≤ x84_3
    rotate_left
    ·rw [if_neg c54] at H
     exact absurd H (by simp)
    rw [if_pos c54] at H; have c54b0 : decide (0 ≤ x84_3) = true := decide_eq_true c54
    clear c54; by_cases c55 : x84_3 < (x9_3.length : Int)
    rotate_left
    ·rw [if_neg c55] at H
     exact absurd H (by simp)
    rw [if_pos c55] at H; have c55b0 : decide (x84_3 < (x9_3.length : Int)) = true := decide_eq_true c55
    (try simp only [hl9_3] at c55b0)
    clear c55; by_cases c56 : 0 ≤ x12_3
    rotate_left
    ·rw [if_neg c56] at H
     exact absurd H (by simp)
    rw [if_pos c56] at H; have c56b0 : decide (0 ≤ x12_3) = true := decide_eq_true c56
    clear c56; obtain ⟨y172, hy172⟩ : ∃ y_ : List Int, y_ = (x9_3.set (x84_3 : Int).toNat (wrap64 ((rd x9_3 x84_3) + (rd t166 x12_3)))) := ⟨_, rfl⟩; replace H : (just_Line.l1 k3 y172 t166 (wrap64 (x12_3 + 1)) (x9_1.length : Int) (wrap64 (x84_3 + 1)) l0_0 l0_1 a1_0 a1_1 a1_2 a1_3) = some r := by first | (rw [hy172]; with_reducible exact H) | (have H2_ := (Option.bind_some _ _).symm.trans H; rw [hy172]; with_reducible exact H2_) | (have H2_ := (Option.bind_some _ _).symm.trans H; with_reducible exact H2_) | with_reducible exact H | (rw [hy172]; exact H) | exact H
    have Ny172 := zA.mk hy172; clear hy172; have H' := zA.mk H
    clear H; have hnb58 := NB152_153.out; have hnc58 := NB153_152.out; have hnb59 := NB152_154.out; have hnc59 := NB154_152.out; obtain ⟨hcz60_0, hcz60_1, hfz60_0, hfz60_1⟩ := aC2 BK152; have hnb61 := NB153_154.out; have hnc61 := NB154_153.out; obtain ⟨hcz62_0, hcz62_1, hcz62_2, hcz62_3, hfz62_0, hfz62_1, hfz62_2, hfz62_3⟩ := aC4 BK153; have p169 : 0 ≤ ((ji49) : Int) := aD
    have q169 : (ji49) < (l0_0.length : Int) := aD
    obtain ⟨ad169, e169, hx169_0, hx169_1, hx169_2, hx169_3⟩ := at_T61 HR0_0.out (ji49) p169 q169; cases e169
    replace hx169_0 := (HB.out.cell (World.block_lt_of_cell? w _ hx169_0)).trans hx169_0; replace hx169_1 := (HB.out.cell (World.block_lt_of_cell? w _ hx169_1)).trans hx169_1; replace hx169_2 := (HB.out.cell (World.block_lt_of_cell? w _ hx169_2)).trans hx169_2; replace hx169_3 := (HB.out.cell (World.block_lt_of_cell? w _ hx169_3)).trans hx169_3; replace p169 := eq_true p169; replace q169 := eq_true q169; obtain ⟨Ao63, co63, eo63⟩ := Kd.zS HO_11.out; subst eo63; try go_wp2
    replace HO_9 := zA.mk (Kd.zK HO_9.out); replace HO_11 := zA.mk (Kd.zK HO_11.out); replace BK152 := zA.mk (zD BK152.out); replace BK153 := zA.mk (zD BK153.out); replace BK154 := zA.mk (zD BK154.out); replace HB := zA.mk (below_drew1 HB.out); have p170 : 0 ≤ (x84_3 : Int) := aD
    have q170 : x84_3 < (x9_3.length : Int) := aD
    obtain ⟨ad170, e170, hx170_0⟩ := Kd.at_int (Kd.zP HO_9.out).2.2 x84_3 p170 q170; cases e170
    replace p170 := eq_true p170; replace q170 := eq_true q170; have p171 : 0 ≤ (x12_3 : Int) := aD
    have q171 : x12_3 < (t166.length : Int) := aD
    obtain ⟨ad171, e171, hx171_0⟩ := Kd.at_int (Kd.zP HO_11.out).2.2 x12_3 p171 q171; cases e171
    replace p171 := eq_true p171; replace q171 := eq_true q171; have p57 : 0 ≤ (x84_3 : Int) := aD
    have q57 : (x84_3 : Int) < ((x9_3.length : Int) : Int) := aD
    obtain ⟨go57, co57, eo57, gb57, gl57, cl57, HG57⟩ := Kd.R_form HO_9.out (by omega)
    (first | cases eo57 | (injection eo57 with ea_ en_ ec_; (first | subst ea_ | (injection ea_ with ea_; subst ea_)); subst ec_; clear en_))
    have GB57 := zA.mk gb57; have GG57 := zA.mk HG57; clear gb57 gl57 HG57; (first | simp only [add_plain] at hx170_0 | skip)
    obtain ⟨hx57_0, hf57_0⟩ := Kd.R_celln 0 HO_9.out (x84_3 : Int) p57 q57; replace p57 := eq_true p57; replace q57 := eq_true q57; have HP65 := Kd.R_putn HO_9.out (x84_3 : Int) (wrap64 ((rd x9_3 x84_3) + (rd t166 x12_3))); rw [← Ny172.out] at HP65; have HQ65 := zA.mk HP65; clear HP65; refine start_ (n := 11) (S := fun w' => w'.cell? ⟨go57, (x84_3).toNat, none⟩ = some (.int .i64 (rd x9_3 x84_3)) ∧ w'.cell? (ad171.add (x12_3).toNat) = some (.int .i64 (rd t166 x12_3))) (ds := [10]) #[false, false, false, false, false, false, false, false, false, false, false] (by kernel_rfl) rfl rfl ⟨hx170_0, hx171_0⟩ (fun hHeld => ?_); refine with_tabW just_Line.tab16 just_Line.bits16 (fun HT_ HW_ => ?_)
    generalize wr.drew = w64 at HO_9 HO_11 BK152 BK153 BK154 HB GG57 HQ65 hf57_0 hx170_0 hx171_0 hx57_0 hHeld ⊢
    refine aP 0 (some 103) (tf_ 1 11) HT_ ?_
    refine aP 1 (some 104) (tf_ 2 11) HT_ ?_
    refine aP 2 (some 105) (tf_ 3 11) HT_ ?_
    refine aP 4 (some 107) (tb_ 23 11) HT_ ?_
    refine aP 5 (some 108) (tb_ 55 11) HT_ ?_
    refine aP 6 (some 109) (tb_ 119 11) HT_ ?_
    refine take_ (i := 3) (N := some 106) (v := ?_) (a' := ?_) (tf_ 7 11) rfl rfl (take_ofW HT_.out HW_.out (by kernel_rfl)) (fun _ _ _ h => h) (Or.inl ⟨by rfl, ?_⟩) hHeld ?_ ?_
    rotate_left
    ·rintro w' ⟨s0, s1⟩
     go_simp
     with_reducible rfl
    rotate_left
    ·simp only [Act.put, sA_, sB_, sC_, i64_w, i32_w]
     rfl
    refine take_ (i := 7) (N := some 110) (v := ?_) (a' := ?_) (tf_ 8 11) rfl rfl (take_ofW HT_.out HW_.out (by kernel_rfl)) (fun _ _ _ h => h) (Or.inl ⟨by rfl, ?_⟩) hHeld ?_ ?_
    rotate_left
    ·rintro w' ⟨s0, s1⟩
     go_simp
     with_reducible rfl
    rotate_left
    ·simp only [Act.put, sA_, sB_, sC_, i64_w, i32_w]
     rfl
    refine aP 8 (some 111) (tf_ 9 11) HT_ ?_
    refine aP 9 (some 112) (tf_ 10 11) HT_ ?_
    refine last_ (i := 10) (N := none) (tb_ 2047 11) rfl rfl (one_of HT_.out (by kernel_rfl)) (by decide) (fun K hK => ?_)
    refine skip_ (w1 := ?_) (by rfl) rfl ?_ ?_
    rotate_left
    ·go_simp
     rfl
    refine hK.out _ _ ?_
    clear hK K; refine done_ (done_of HT_.out (by kernel_rfl)) ?_
    try go_wp2
    (try simp only [← hl9_3])
    go_roundg k3
    case measure => have := HK1.out; have := HJ30.out; have := HK3.out; omega
    case rel => exact ⟨(y172), (wrap64 (x12_3 + 1)), (wrap64 (x84_3 + 1)), aZ, aZ, H', ⟨by have := HK1.out; have := HJ30.out; have := HK3.out; omega⟩, ⟨by (try simp only [hl9_3]); (with_reducible repeat (first | apply Kd.zI | apply Kd.zJ | apply Kd.zK)); exact HQ65.out⟩, ⟨by (try simp only [hl9_3]); (with_reducible repeat (first | apply Kd.zI | apply Kd.zJ | apply Kd.zK)); exact Kd.zU (Kd.zR (p := ⟨go57, (x84_3 : Int).toNat, none⟩) (Kd.zU HO_11.out (fun k_ hk => (⟨hk, fun e_ => hk (by rw [e_]; rfl)⟩ : _ ∧ k_ ≠ go57))) (fun _ hk => hk.2) (.int .i64 (wrap64 ((rd x9_3 x84_3) + (rd t166 x12_3))))) (fun _ hk => hk.1)⟩, ⟨by (try simp only [hl9_3]); (with_reducible repeat (first | refine zF ?_ _ | refine zD ?_ | refine zG ?_ _)); refine blk_far ?_ (by have h_ := Kd.R_ne HO_9.out BK152.out (by decide); intro e_; exact h_ (by rw [e_]; rfl)) _; (with_reducible repeat (first | refine zF ?_ _ | refine zD ?_ | refine zG ?_ _)); exact BK152.out⟩, ⟨by (try simp only [hl9_3]); (with_reducible repeat (first | refine zF ?_ _ | refine zD ?_ | refine zG ?_ _)); refine blk_far ?_ (by have h_ := Kd.R_ne HO_9.out BK153.out (by decide); intro e_; exact h_ (by rw [e_]; rfl)) _; (with_reducible repeat (first | refine zF ?_ _ | refine zD ?_ | refine zG ?_ _)); exact BK153.out⟩, ⟨by (try simp only [hl9_3]); (with_reducible repeat (first | refine zF ?_ _ | refine zD ?_ | refine zG ?_ _)); refine blk_far ?_ (by have h_ := Kd.R_ne HO_9.out BK154.out (by decide); intro e_; exact h_ (by rw [e_]; rfl)) _; (with_reducible repeat (first | refine zF ?_ _ | refine zD ?_ | refine zG ?_ _)); exact BK154.out⟩, ⟨aL HB⟩⟩
def bits_Mul64.f (a0 : Int) (a1 : Int) : Option (Int × Int) := some (IntKind.u64.wrap ((IntKind.u64.wrap ((IntKind.u64.wrap ((a0 / 4294967296) * (a1 / 4294967296))) + ((IntKind.u64.wrap ((IntKind.u64.wrap ((a0 / 4294967296) * (Go.bits .and .u64 a1 4294967295))) + ((IntKind.u64.wrap ((Go.bits .and .u64 a0 4294967295) * (Go.bits .and .u64 a1 4294967295))) / 4294967296))) / 4294967296))) + ((IntKind.u64.wrap ((Go.bits .and .u64 (IntKind.u64.wrap ((IntKind.u64.wrap ((a0 / 4294967296) * (Go.bits .and .u64 a1 4294967295))) + ((IntKind.u64.wrap ((Go.bits .and .u64 a0 4294967295) * (Go.bits .and .u64 a1 4294967295))) / 4294967296))) 4294967295) + (IntKind.u64.wrap ((Go.bits .and .u64 a0 4294967295) * (a1 / 4294967296))))) / 4294967296)), IntKind.u64.wrap (a0 * a1))
set_option maxHeartbeats 8000000 in
set_option maxRecDepth 100000 in
theorem bits_Mul64.calls (a0 : Int) (a1 : Int) (r1 : Int) (r2 : Int) (w : World) (h : bits_Mul64.f a0 a1 = some (r1, r2)) :
  Calls Try.prog 51 #[.int .u64 a0, .int .u64 a1] w fun e w' => e = .returned (.tuple #[.int .u64 r1, .int .u64 r2]) ∧ Drawn0 w w' := by
 have H : (some (IntKind.u64.wrap ((IntKind.u64.wrap ((IntKind.u64.wrap ((a0 / 4294967296) * (a1 / 4294967296))) + ((IntKind.u64.wrap ((IntKind.u64.wrap ((a0 / 4294967296) * (Go.bits .and .u64 a1 4294967295))) + ((IntKind.u64.wrap ((Go.bits .and .u64 a0 4294967295) * (Go.bits .and .u64 a1 4294967295))) / 4294967296))) / 4294967296))) + ((IntKind.u64.wrap ((Go.bits .and .u64 (IntKind.u64.wrap ((IntKind.u64.wrap ((a0 / 4294967296) * (Go.bits .and .u64 a1 4294967295))) + ((IntKind.u64.wrap ((Go.bits .and .u64 a0 4294967295) * (Go.bits .and .u64 a1 4294967295))) / 4294967296))) 4294967295) + (IntKind.u64.wrap ((Go.bits .and .u64 a0 4294967295) * (a1 / 4294967296))))) / 4294967296)), IntKind.u64.wrap (a0 * a1))) = some (r1, r2) := h
 clear h; simp only [Option.some.injEq, Prod.mk.injEq] at H; obtain ⟨rfl, rfl⟩ := H; go_enter Try.func51, Try.ntmps51
 go_wp2
 go_ret2
 exact ⟨by first | rfl | (simp; done) | (simp [*]; done), by repeat (first | exact Drawn0.refl _ | apply Drawn0.step)⟩
def bits_Mul.f (a0 : Int) (a1 : Int) : Option (Int × Int) := (bits_Mul64.f a0 a1).bind fun bt173 => (some (bt173.1, bt173.2))
set_option maxHeartbeats 8000000 in
set_option maxRecDepth 100000 in
theorem bits_Mul.calls (a0 : Int) (a1 : Int) (r1 : Int) (r2 : Int) (w : World) (h : bits_Mul.f a0 a1 = some (r1, r2)) :
  Calls Try.prog 48 #[.int .u64 a0, .int .u64 a1] w fun e w' => e = .returned (.tuple #[.int .u64 r1, .int .u64 r2]) ∧ Drawn0 w w' := by
 have H : ((bits_Mul64.f a0 a1).bind fun bt173 => (some (bt173.1, bt173.2))) = some (r1, r2) := h
 clear h; replace H := Option.bind_eq_some_iff.mp H; obtain ⟨⟨t173, t174⟩, A30, H⟩ := H; replace H : (some (t173, t174)) = some (r1, r2) := H; have A3 := zA.mk A30; clear A30; simp only [Option.some.injEq, Prod.mk.injEq] at H; obtain ⟨rfl, rfl⟩ := H; go_enter Try.func48, Try.ntmps48
 go_wp2_with (first | ((with_reducible refine gate_callee (f := 51) rfl ?_); refine goesL_ (some 25) rfl rfl Try.func51 (by kernel_rfl) rfl #[.int .u64 a0, .int .u64 a1] rfl aT ?_; (with_reducible refine (bits_Mul64.calls a0 a1 t173 t174 _ A3.out).mono ?_); rintro e w' ⟨rfl, ⟨nd, rfl⟩⟩; refine ⟨_, rfl, ?_⟩))
 go_ret2
 exact ⟨by first | rfl | (simp; done) | (simp [*]; done), by repeat (first | exact Drawn0.refl _ | apply Drawn0.step)⟩
theorem rep_own {N B base : Nat} {ok : Nat → Prop} {w : World} {v : Value} (h : Kd.R (Kd.int .u8) 5 w base ok v (List.replicate N 0)) (hn : ∃ b, v.ownBlock = some b ∧ B ≤ b) :
  ∃ g cap, ∃ cur : List Value, v = .slice (some ⟨g, 0, none⟩) N cap ∧ B ≤ g ∧ base ≤ g ∧ w.heap[g]? = some (.cells cur.toArray 5 (0, 0)) ∧ N ≤ cap ∧ cap ≤ maxLen ∧ cur.length = cap := by
 have ho := Kd.own_of_R h; obtain ⟨b, hb, hB⟩ := hn; rcases ho.2 with ⟨rfl, _⟩ | ⟨g, cap, cur, rfl, hg, hh, h1, h2, h3, _⟩
 ·cases hb
 rw [List.length_replicate] at h1; have : g = b := by simpa [Value.ownBlock] using hb
 subst this; exact ⟨g, cap, cur.toList, by rw [List.length_replicate], hB, hg, by simpa using hh, h1, h2, by simpa using h3⟩
theorem rep_done {N g cap base : Nat} {w : World} {cur : List Value} {b : Int} (hg : base ≤ g) (hh : w.heap[g]? = some (.cells cur.toArray 5 (0, 0))) (h1 : N ≤ cap) (h2 : cap ≤ maxLen) (h3 : cur.length = cap) (ht : cur.take N = List.replicate N (.int .u8 b)) :
  Kd.R (Kd.int .u8) 5 w base (fun _ => True) (.slice (some ⟨g, 0, none⟩) N cap) (List.replicate N b) := by
 refine Kd.R_of_own ⟨by simp [encs], .inr ⟨g, cap, cur.toArray, by rw [List.length_replicate], hg, hh, by rw [List.length_replicate]; exact h1, h2, by simpa using h3, ?_⟩⟩ (fun _ _ => trivial)
 rw [List.length_replicate, Nat.mul_one]; show cur.take N = _
 rw [ht]; simp [encs]
theorem rep_splice {cur : List Value} {m d : Nat} {v : Value} (h : cur.take m = List.replicate m v) (hl : m + d ≤ cur.length) : (Go.splice cur m (List.replicate d v)).take (m + d) = List.replicate (m + d) v := by
 unfold Go.splice
 rw [h, List.length_replicate, ← List.append_assoc, List.replicate_append_replicate, List.take_append_of_le_length (by simp), List.take_of_length_le (by simp)]
theorem rep_size : (Try.prog.info? 5).map (·.size) = some 1 := by kernel_rfl
theorem rep_src {w w1 : World} {ad : Addr} {v : Value} (h : w.cell? (ad.add (Int.toNat 0)) = some v) (hb : Below w.heap.size w w1) {d : Nat} (hd : d ≤ 1) : ∀ (j : Nat) (v' : Value), (List.replicate d v)[j]? = some v' → w1.cell? (ad.add j) = some v' := by
 intro j v' hj
 rw [List.getElem?_replicate] at hj; split at hj
 ·rename_i hlt
  have : j = 0 := by omega
  subst this; cases hj
  exact (hb.cell (World.block_lt_of_cell? _ _ h)).trans h
 cases hj
theorem rep_one {d : Nat} {x : Int} : ∀ v ∈ List.replicate d (.int .u8 x : Value), v.oneCell' = true := by
 intro v hv; rw [List.eq_of_mem_replicate hv]; rfl
theorem rep_len {cur cs : List Value} {m : Nat} (h : m + cs.length ≤ cur.length) {cap : Nat} (hc : cur.length = cap) : (Go.splice cur m cs).length = cap := by rw [Go.length_splice _ _ _ h, hc]
theorem rep_cells {w : World} {g m d : Nat} {cur : List Value} {v : Value} (h : w.heap[g]? = some (.cells cur.toArray 5 (0, 0))) (ht : cur.take m = List.replicate m v) (hd : d ≤ m) : ∀ (j : Nat) (v' : Value), (List.replicate d v)[j]? = some v' → w.cell? ((⟨g, 0, none⟩ : Addr).add j) = some v' := by
 intro j v' hj
 rw [List.getElem?_replicate] at hj; split at hj
 ·rename_i hlt
  cases hj
  have h2 : (cur.take m)[j]? = some v := by rw [ht, List.getElem?_replicate, if_pos (by omega)]
  rw [List.getElem?_take_of_lt (by omega)] at h2
  rw [show (⟨g, 0, none⟩ : Addr).add j = ⟨g, j, none⟩ from by simp [Addr.add]; exact fun e => e.symm]
  exact (zC h j).trans (by simpa using h2)
 cases hj
theorem rep_i64 {x : Int} (h0 : 0 ≤ x) (h1 : x ≤ 10000000) : IntKind.i64.wrap x = x := by
 rw [i64_w]; unfold wrap64; omega
theorem rep_u64 {x : Int} (h0 : 0 ≤ x) (h1 : x ≤ 1000000000000) : IntKind.u64.wrap x = x := by
 show (if (false && decide (x % 2 ^ 64 ≥ 2 ^ (64 - 1))) = true then x % 2 ^ 64 - 2 ^ 64 else x % 2 ^ 64) = x
 rw [Bool.false_and, if_neg (by decide)]; omega
theorem rep_wrap {m d N : Nat} (h : m + d ≤ N) (hN : N ≤ 2000000) : (Value.int .i64 (IntKind.i64.wrap ((m : Int) + (d : Int))) : Value) = .int .i64 ((m + d : Nat) : Int) := by
 rw [rep_i64 (by omega) (by omega)]; rfl
theorem rep_mul {n : Nat} (h : n ≤ 2000000) {l : Nat} (hl : l = 1) : bits_Mul.f (IntKind.u64.wrap (l : Int)) (IntKind.u64.wrap (n : Int)) = some (0, (n : Int)) := by
 subst hl; have hw : IntKind.u64.wrap (n : Int) = n := rep_u64 (by omega) (by omega)
 rw [hw, show IntKind.u64.wrap ((1 : Nat) : Int) = 1 from by decide]
 have e0 : (n : Int) / 4294967296 = 0 := by omega
 have b0 : Go.bits .and .u64 (n : Int) 4294967295 = (n : Int) := by
  rw [and_low32 _ (by omega) (by omega)]; omega
 have b1 : Go.bits .and .u64 1 4294967295 = 1 := by decide
 have b2 : Go.bits .and .u64 0 4294967295 = 0 := by decide
 unfold bits_Mul.f bits_Mul64.f
 simp only [Option.bind_some, e0, b0, b1, show (1 : Int) / 4294967296 = 0 from by decide, Int.zero_mul, Int.mul_zero, Int.one_mul, hw, b2, show IntKind.u64.wrap 0 = 0 from by decide, Int.zero_add, show (0 : Int) / 4294967296 = 0 from by decide]
def slices_Repeat_byte_byte.f (l0 : List Int) (a1 : Int) : Option (List Int) := if l0.length = 1 ∧ 0 ≤ a1 ∧ a1 ≤ 2000000 then some (List.replicate a1.toNat (l0.headD 0)) else none
set_option maxHeartbeats 8000000 in
set_option maxRecDepth 100000 in
theorem slices_Repeat_byte_byte.calls (A0 : Option Addr) (c0 : Nat) (l0 : List Int) (a1 : Int) (r : List Int) (w : World) (hr0 : Kd.C (Kd.int .u8) w A0 l0.length l0) (hc0 : l0.length ≤ c0) (h : slices_Repeat_byte_byte.f l0 a1 = some r) :
  Calls Try.prog 38 #[.slice A0 l0.length c0, .int .i64 a1] w fun e w' => ∃ v0_ : Value, e = .returned (v0_) ∧ Kd.R (Kd.int .u8) 5 w' w.heap.size (fun _ => True) v0_ r ∧ Below w.heap.size w w' := by
 unfold slices_Repeat_byte_byte.f at h
 split at h
 case isFalse => cases h
 rename_i hc
 obtain ⟨h1, h2, h3⟩ := hc; cases h
 obtain ⟨N, rfl⟩ := Int.eq_ofNat_of_zero_le h2; have hu51 := Try.underlying51; obtain ⟨ad, rfl, hsrc⟩ := Kd.at_int hr0 0 (by omega) (by omega)
 have hb0 : rd l0 0 = l0.headD 0 := by cases l0 <;> rfl
 rw [hb0] at hsrc; have HM := zA.mk (rep_mul (n := N) (by omega) h1)
 have HS := zA.mk hsrc; have HL := zA.mk h1; have HB0 := zA.mk hc0; have d0 : decide ((N : Int) < 0) = false := decide_eq_false (by omega)
 have d1 : decide (9223372036854775807 < (N : Int)) = false := decide_eq_false (by omega)
 have hwi : IntKind.i64.wrap (N : Int) = N := rep_i64 (by omega) (by omega)
 have hN : zA (N ≤ 2000000) := ⟨by omega⟩
 obtain ⟨m0, hm0, hm1, hm2, hm3⟩ : ∃ m0, m0 = Nat.min l0.length N ∧ m0 ≤ 1 ∧ m0 ≤ N ∧ (0 < N → 0 < m0) := ⟨Nat.min l0.length N, rfl, by rw [h1]; exact Nat.min_le_left _ _, Nat.min_le_right _ _, fun hp => by rw [h1]; exact Nat.lt_min.2 ⟨by omega, hp⟩⟩
 have HM0 := zA.mk hm0; have HM1 := zA.mk hm1; have HM2 := zA.mk hm2; have HM3 := zA.mk hm3; clear hm0 hm1 hm2 hm3; clear hsrc hr0 h1 hc0 hb0 h2 h3; rw [Int.toNat_natCast]; generalize hB : l0.headD 0 = b at *
 clear hB; have HR : zA (Below w.heap.size w w) := ⟨Below.refl _ _⟩
 go_enter Try.func38, Try.ntmps38
 go_wp2_with (first | ((with_reducible refine gate_callee (f := 48) rfl ?_); refine goesL_ (some 18) rfl rfl Try.func48 (by kernel_rfl) rfl #[.int .u64 (IntKind.u64.wrap (l0.length : Int)), .int .u64 (IntKind.u64.wrap (N : Int))] rfl aT ?_; (with_reducible refine (bits_Mul.calls _ _ 0 (N : Int) _ HM.out).mono ?_); rintro e w' ⟨rfl, ⟨nd, rfl⟩⟩; refine ⟨_, rfl, ?_⟩) | ((with_reducible refine gate_dst (N := 30) rfl ?_); refine Kd.R_make (Kd.int .u8) w.heap.size 5 rfl (N := 30) rfl 51 _ _ rfl (N : Int) rfl rfl Try.underlying51 (.int .u8 0) 1 info5 rfl (by decide) (by omega) 0 (ok := fun _ => True) (okp := fun _ => True) rfl (fun _ hk => hk) trivial (by omega) (by have := hN.out; omega) (pw_below_drewN HR.out nd) (Nat.le_refl _) ?_; rw [Int.toNat_natCast]; intro v1 w1 ho hb hg_ hnew_; obtain ⟨g, cap, cur, rfl, hBg, hBs, hh, hNc, hcm, hcl⟩ := rep_own ho hnew_; have HH := zA.mk hh; have HW1 := zA.mk hb; have HG := zA.mk hBs; have HN := zA.mk hNc; have HC := zA.mk hcm; have HCL := zA.mk hcl; clear ho hnew_ hg_ hb hh hBg hBs hNc hcm hcl) | ((with_reducible refine gate_dst (N := 33) rfl ?_); refine wpList_copy_splice rfl (.tmp 31) (.tmp 32) 51 51 rfl 5 Try.underlying51 rep_size (some ⟨g, 0, none⟩) (some ad) N cap l0.length c0 rfl rfl g 0 cur 5 HH.out (List.replicate m0 (.int .u8 b)) (by rw [List.length_replicate]; exact HM0.out) (fun _ => ⟨rfl, ad, rfl, rep_src HS.out HW1.out HM1.out⟩) (by rw [List.length_replicate, HCL.out]; have := HM2.out; have := HN.out; omega) rep_one w.heap.size w HW1.out HG.out ?_; rw [List.length_replicate]; intro w2 HH2 hb2; have HT2 := zA.mk (rep_splice (cur := cur) (m := 0) (d := m0) (v := .int .u8 b) rfl (by rw [HCL.out]; have := HM2.out; have := HN.out; omega)); have HCL2 := zA.mk (rep_len (cur := cur) (m := 0) (cs := List.replicate m0 (.int .u8 b)) (by rw [List.length_replicate, HCL.out]; have := HM2.out; have := HN.out; omega) HCL.out); have HH2' := zA.mk HH2.out; clear HH2; rw [Nat.zero_add] at HT2; generalize Go.splice cur 0 (List.replicate m0 (.int .u8 b)) = cur2 at HT2 HCL2 HH2'; clear HCL HH HW1; have HW2 := zA.mk hb2; clear hb2))
 go_loopg [8] N (fun kq v8 w' => ∃ (m : Nat) (cur' : List Value), v8 = .int .i64 (m : Int) ∧ zA (m ≤ N) ∧ zA (N ≤ m + kq) ∧ zA (0 < N → 0 < m) ∧ zA (cur'.take m = List.replicate m (.int .u8 b)) ∧ zA (cur'.length = cap) ∧ zA (w'.heap[g]? = some (.cells cur'.toArray 5 (0, 0))) ∧ zA (Below w.heap.size w w'))
 case atStart => exact ⟨m0, cur2, rfl, HM2, ⟨by omega⟩, HM3, HT2, HCL2, HH2', HW2⟩
 clear HT2 HCL2 HH2' HW2 HM0 HM1 HM2 HM3 HM HS HL HB0; obtain ⟨m, cur', rfl, M1, M2, M3, T, L, H, B⟩ := hrel; by_cases c : m < N
 rotate_left
 ·have c0 : decide ((m : Int) < (N : Int)) = false := decide_eq_false (by omega)
  have e : m = N := by have := M1.out; omega
  clear c; subst e; go_wp2
  go_ret
  exact ⟨_, rfl, rep_done HG.out H.out HN.out HC.out L.out T.out, B.out⟩
 have c0 : decide ((m : Int) < (N : Int)) = true := decide_eq_true (by omega)
 cases gk with
 | zero => exact absurd M2.out (by omega)
 | succ k1 =>
  go_wp2
  obtain ⟨d, hd, hd1, hd2, hd3⟩ : ∃ d, d = Nat.min m (N - m) ∧ d ≤ m ∧ m + d ≤ N ∧ 0 < d := ⟨Nat.min m (N - m), rfl, Nat.min_le_left _ _, by have := Nat.min_le_right m (N - m); have : Nat.min m (N - m) ≤ N - m := this; omega, Nat.lt_min.2 ⟨M3.out (by omega), by omega⟩⟩
  have HD := zA.mk hd; have HD1 := zA.mk hd1; have HD2 := zA.mk hd2; have HD3 := zA.mk hd3; clear hd hd1 hd2 hd3; have q1 : ((m : Int) ≤ (N : Int)) = True := eq_true (by omega)
  have q2 : ((N : Int) ≤ (cap : Int)) = True := eq_true (by have := HN.out; omega)
  have q3 : (m ≤ N) = True := eq_true (by omega)
  have q4 : (N ≤ cap) = True := eq_true HN.out
  have q5 : (m ≤ cap) = True := eq_true (by have := HN.out; omega)
  have q7 : (cap = m) = False := eq_false (by have := HN.out; omega)
  have q8 : (m = cap) = False := eq_false (by have := HN.out; omega)
  have q9 : ¬ cap = m := by have := HN.out; omega
  have q6 : ((m : Int) ≤ (cap : Int)) = True := eq_true (by have := HN.out; omega)
  go_region_law (refine step_copy_splice rfl (.tmp 41) (.tmp 44) 51 51 rfl 5 Try.underlying51 rep_size (some ⟨g, m, none⟩) (some ⟨g, 0, none⟩) (N - m) (cap - m) m cap (by first | (go_simp; done) | (go_simp; exact fun e_ => by have := HN.out; omega)) (by go_simp) g m cur' 5 H.out (List.replicate d (.int .u8 b)) (by rw [List.length_replicate]; exact HD.out) (fun _ => ⟨rfl, _, rfl, rep_cells H.out T.out HD1.out⟩) (by rw [List.length_replicate, L.out]; have := HD2.out; have := HN.out; omega) rep_one w.heap.size w (below_drew B.out) HG.out ?_; rw [List.length_replicate]; intro w4 hg4 hb4)
  have hh4 := zA.mk hg4.out; have hb4' := zA.mk hb4
  clear hg4 hb4; have hT := zA.mk (rep_splice (cur := cur') (m := m) (d := d) (v := .int .u8 b) T.out (by rw [L.out]; have := HD2.out; have := HN.out; omega))
  have hL := zA.mk (rep_len (cur := cur') (m := m) (cs := List.replicate d (.int .u8 b)) (by rw [List.length_replicate, L.out]; have := HD2.out; have := HN.out; omega) L.out)
  generalize Go.splice cur' m (List.replicate d (.int .u8 b)) = cur3 at hh4 hT hL
  go_wp2
  go_roundg k1
  case measure => have := HD3.out; omega
  case rel => exact ⟨m + d, cur3, rep_wrap HD2.out hN.out, HD2, ⟨by have := HD3.out; have := M2.out; omega⟩, ⟨fun _ => by have := HD3.out; omega⟩, hT, hL, hh4, hb4'⟩
end Go.Proofs.Ytfeidhmkmbgnoaa.F
end
