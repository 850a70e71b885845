/- Printed by a program: Lean functions that answer as the Go functions do, and the proofs of it. -/
import Derived.Test.YtfeidhmkmbgnoaaProg
import Derived.Below
import Derived.Deep.Draws
import Derived.Deep.AppendLies
import Derived.Maps.AppendAt
import Derived.OwnWalk
import Derived.Laws.BytesArg
import Derived.Laws.MakeOwn
import Derived.Laws.OwnMore
import Derived.Deep.OwnRows
import Derived.Tactics
import Derived.Lib.ConvBytes
import Derived.Laws.Slices
import Derived.WalkKit
import Derived.KernelRfl
import Derived.RowKit3
import Derived.Deep.LoopGhost
import Derived.Deep.QuietTactic
import Derived.BigQuiet
import Derived.WideLaws
import Derived.Deep.DeepCutAuto
import Derived.Deep.CutBlock
import Derived.Deep.RegionHeld3
import Derived.Laws.Rows
import Derived.Lib.AppendStr
import Derived.ArgAppend
import Derived.Laws.IdiomCopy
import Derived.OrdersHeld
import Derived.Laws.BitsLemmas
import Derived.RowKit
import Derived.Laws.FloatArith
import Derived.Laws.CopyOwn
import Derived.Deep.RegionLaw
import Derived.Laws.MathBits
import Derived.Test.YtfeidhmkmbgnoaaXFirstRest0
section
namespace Go.Proofs.Ytfeidhmkmbgnoaa.F
open Go.RowKit Go.Proofs.YtfeidhmkmbgnoaaW.PrintWords Go.Proofs.YtfeidhmkmbgnoaaW.PrintLast Go.Proofs.YtfeidhmkmbgnoaaW.PrintMore
attribute [local go_sem] max2_int min2_int max_two min_two max_three min_three max_four min_four   -- for this text's walks alone
set_option linter.unusedVariables false
set_option linter.unusedSimpArgs false
def errW : Option Int → Value
 | none => .nilIface
 | some c => .iface 0 (.int .i64 c)
theorem errW_none : errW none = .nilIface := rfl
theorem errW_some (c : Int) : errW (some c) = .iface 0 (.int .i64 c) := rfl
theorem info3 : (Try.prog.info? 3).map (fun i => (i.zero, i.size, i.bytes)) = some (some (.int .i64 0), 1, 8) := by kernel_rfl
theorem info43 : (Try.prog.info? 43).map (fun i => (i.zero, i.size, i.bytes)) = some (some (.int .u8 0), 1, 1) := by kernel_rfl
theorem info45 : (Try.prog.info? 45).map (fun i => (i.zero, i.size, i.bytes)) = some (some (.agg #[(.int .i64 0), (.int .i64 0), (.int .i64 0), (.int .u8 0)]), 4, 32) := by kernel_rfl
theorem info49 : (Try.prog.info? 49).map (fun i => (i.zero, i.size, i.bytes)) = some (some (.agg #[(.int .u8 0), (.int .u8 0), (.int .u8 0), (.int .u8 0)]), 4, 4) := by kernel_rfl
theorem info61 : (Try.prog.info? 61).map (fun i => (i.zero, i.size, i.bytes)) = some (some (.agg #[(.int .i64 0), (.int .i64 0), (.int .i64 0), (.int .u8 0)]), 4, 32) := by kernel_rfl
structure S61 where
 f0 : Int
 f1 : Int
 f2 : Int
 f3 : Int
def z61 : S61 := ⟨(0 : Int), (0 : Int), (0 : Int), (0 : Int)⟩
def k61 : Kd S61 := Kd.iso (Kd.pair (Kd.int .i64) (Kd.pair (Kd.int .i64) (Kd.pair (Kd.int .i64) (Kd.int .u8)))) (fun x : S61 => (x.f0, x.f1, x.f2, x.f3))
theorem k61_open {w : World} {x : S61} {cs : List Value} (h : k61.K w x cs) : cs = [.int .i64 x.f0, .int .i64 x.f1, .int .i64 x.f2, .int .u8 x.f3] := by
 obtain ⟨_, _, rfl, rfl, ⟨_, _, rfl, rfl, ⟨_, _, rfl, rfl, rfl⟩⟩⟩ := h; exact rfl
theorem k61_openM {w : World} {base : Nat} {ok : Nat → Prop} {x : S61} {cs : List Value} (h : k61.M w base ok x cs) : cs = [.int .i64 x.f0, .int .i64 x.f1, .int .i64 x.f2, .int .u8 x.f3] := by
 obtain ⟨_, _, rfl, rfl, ⟨_, _, rfl, rfl, ⟨_, _, rfl, rfl, rfl⟩⟩⟩ := h; exact rfl
theorem k61_mk (w : World) (x : S61)  : k61.K w x [.int .i64 x.f0, .int .i64 x.f1, .int .i64 x.f2, .int .u8 x.f3] := ⟨[.int .i64 x.f0], [.int .i64 x.f1, .int .i64 x.f2, .int .u8 x.f3], rfl, rfl, ⟨[.int .i64 x.f1], [.int .i64 x.f2, .int .u8 x.f3], rfl, rfl, ⟨[.int .i64 x.f2], [.int .u8 x.f3], rfl, rfl, rfl⟩⟩⟩
theorem k61_mkM (w : World) (base : Nat) (ok : Nat → Prop) (x : S61)  : k61.M w base ok x [.int .i64 x.f0, .int .i64 x.f1, .int .i64 x.f2, .int .u8 x.f3] := ⟨[.int .i64 x.f0], [.int .i64 x.f1, .int .i64 x.f2, .int .u8 x.f3], rfl, rfl, ⟨[.int .i64 x.f1], [.int .i64 x.f2, .int .u8 x.f3], rfl, rfl, ⟨[.int .i64 x.f2], [.int .u8 x.f3], rfl, rfl, rfl⟩⟩⟩
def rd_T61 (xs : List S61) (i : Int) : S61 := xs.getD i.toNat z61
theorem at_T61 {w : World} {A : Option Addr} {n : Nat} {xs : List S61} (h : Kd.C k61 w A n xs) (i : Int) (h0 : 0 ≤ i) (h1 : i < n) : ∃ ad , A = some ad ∧ w.cell? (ad.add (i.toNat * 4)) = some (.int .i64 (rd_T61 xs i).f0) ∧ w.cell? ⟨(ad.add (i.toNat * 4)).block, (ad.add (i.toNat * 4)).off + 1, none⟩ = some (.int .i64 (rd_T61 xs i).f1) ∧ w.cell? ⟨(ad.add (i.toNat * 4)).block, (ad.add (i.toNat * 4)).off + 2, none⟩ = some (.int .i64 (rd_T61 xs i).f2) ∧ w.cell? ⟨(ad.add (i.toNat * 4)).block, (ad.add (i.toNat * 4)).off + 3, none⟩ = some (.int .u8 (rd_T61 xs i).f3) := by
 obtain ⟨ad, c, e, _, hK, hc0⟩ := Kd.C_get h z61 i h0 h1; have hc : ∀ j u, c[j]? = some u → w.cell? (ad.add (i.toNat * 4 + j)) = some u := hc0
 obtain rfl := k61_open hK
 exact ⟨ad, e, hc 0 _ rfl, by rw [← add_field _ _ 1 (by omega)]; exact hc 1 _ rfl, by rw [← add_field _ _ 2 (by omega)]; exact hc 2 _ rfl, by rw [← add_field _ _ 3 (by omega)]; exact hc 3 _ rfl⟩
structure S45 where
 f0 : Int
 f1 : Int
 f2 : Int
 f3 : Int
def z45 : S45 := ⟨(0 : Int), (0 : Int), (0 : Int), (0 : Int)⟩
def k45 : Kd S45 := Kd.iso (Kd.pair (Kd.int .i64) (Kd.pair (Kd.int .i64) (Kd.pair (Kd.int .i64) (Kd.int .u8)))) (fun x : S45 => (x.f0, x.f1, x.f2, x.f3))
theorem k45_open {w : World} {x : S45} {cs : List Value} (h : k45.K w x cs) : cs = [.int .i64 x.f0, .int .i64 x.f1, .int .i64 x.f2, .int .u8 x.f3] := by
 obtain ⟨_, _, rfl, rfl, ⟨_, _, rfl, rfl, ⟨_, _, rfl, rfl, rfl⟩⟩⟩ := h; exact rfl
theorem k45_openM {w : World} {base : Nat} {ok : Nat → Prop} {x : S45} {cs : List Value} (h : k45.M w base ok x cs) : cs = [.int .i64 x.f0, .int .i64 x.f1, .int .i64 x.f2, .int .u8 x.f3] := by
 obtain ⟨_, _, rfl, rfl, ⟨_, _, rfl, rfl, ⟨_, _, rfl, rfl, rfl⟩⟩⟩ := h; exact rfl
theorem k45_mk (w : World) (x : S45)  : k45.K w x [.int .i64 x.f0, .int .i64 x.f1, .int .i64 x.f2, .int .u8 x.f3] := ⟨[.int .i64 x.f0], [.int .i64 x.f1, .int .i64 x.f2, .int .u8 x.f3], rfl, rfl, ⟨[.int .i64 x.f1], [.int .i64 x.f2, .int .u8 x.f3], rfl, rfl, ⟨[.int .i64 x.f2], [.int .u8 x.f3], rfl, rfl, rfl⟩⟩⟩
theorem k45_mkM (w : World) (base : Nat) (ok : Nat → Prop) (x : S45)  : k45.M w base ok x [.int .i64 x.f0, .int .i64 x.f1, .int .i64 x.f2, .int .u8 x.f3] := ⟨[.int .i64 x.f0], [.int .i64 x.f1, .int .i64 x.f2, .int .u8 x.f3], rfl, rfl, ⟨[.int .i64 x.f1], [.int .i64 x.f2, .int .u8 x.f3], rfl, rfl, ⟨[.int .i64 x.f2], [.int .u8 x.f3], rfl, rfl, rfl⟩⟩⟩
def rd_T45 (xs : List S45) (i : Int) : S45 := xs.getD i.toNat z45
theorem at_T45 {w : World} {A : Option Addr} {n : Nat} {xs : List S45} (h : Kd.C k45 w A n xs) (i : Int) (h0 : 0 ≤ i) (h1 : i < n) : ∃ ad , A = some ad ∧ w.cell? (ad.add (i.toNat * 4)) = some (.int .i64 (rd_T45 xs i).f0) ∧ w.cell? ⟨(ad.add (i.toNat * 4)).block, (ad.add (i.toNat * 4)).off + 1, none⟩ = some (.int .i64 (rd_T45 xs i).f1) ∧ w.cell? ⟨(ad.add (i.toNat * 4)).block, (ad.add (i.toNat * 4)).off + 2, none⟩ = some (.int .i64 (rd_T45 xs i).f2) ∧ w.cell? ⟨(ad.add (i.toNat * 4)).block, (ad.add (i.toNat * 4)).off + 3, none⟩ = some (.int .u8 (rd_T45 xs i).f3) := by
 obtain ⟨ad, c, e, _, hK, hc0⟩ := Kd.C_get h z45 i h0 h1; have hc : ∀ j u, c[j]? = some u → w.cell? (ad.add (i.toNat * 4 + j)) = some u := hc0
 obtain rfl := k45_open hK
 exact ⟨ad, e, hc 0 _ rfl, by rw [← add_field _ _ 1 (by omega)]; exact hc 1 _ rfl, by rw [← add_field _ _ 2 (by omega)]; exact hc 2 _ rfl, by rw [← add_field _ _ 3 (by omega)]; exact hc 3 _ rfl⟩
structure S49 where
 f0 : Int
 f1 : Int
 f2 : Int
 f3 : Int
def z49 : S49 := ⟨(0 : Int), (0 : Int), (0 : Int), (0 : Int)⟩
def k49 : Kd S49 := Kd.iso (Kd.pair (Kd.int .u8) (Kd.pair (Kd.int .u8) (Kd.pair (Kd.int .u8) (Kd.int .u8)))) (fun x : S49 => (x.f0, x.f1, x.f2, x.f3))
theorem k49_open {w : World} {x : S49} {cs : List Value} (h : k49.K w x cs) : cs = [.int .u8 x.f0, .int .u8 x.f1, .int .u8 x.f2, .int .u8 x.f3] := by
 obtain ⟨_, _, rfl, rfl, ⟨_, _, rfl, rfl, ⟨_, _, rfl, rfl, rfl⟩⟩⟩ := h; exact rfl
theorem k49_openM {w : World} {base : Nat} {ok : Nat → Prop} {x : S49} {cs : List Value} (h : k49.M w base ok x cs) : cs = [.int .u8 x.f0, .int .u8 x.f1, .int .u8 x.f2, .int .u8 x.f3] := by
 obtain ⟨_, _, rfl, rfl, ⟨_, _, rfl, rfl, ⟨_, _, rfl, rfl, rfl⟩⟩⟩ := h; exact rfl
theorem k49_mk (w : World) (x : S49)  : k49.K w x [.int .u8 x.f0, .int .u8 x.f1, .int .u8 x.f2, .int .u8 x.f3] := ⟨[.int .u8 x.f0], [.int .u8 x.f1, .int .u8 x.f2, .int .u8 x.f3], rfl, rfl, ⟨[.int .u8 x.f1], [.int .u8 x.f2, .int .u8 x.f3], rfl, rfl, ⟨[.int .u8 x.f2], [.int .u8 x.f3], rfl, rfl, rfl⟩⟩⟩
theorem k49_mkM (w : World) (base : Nat) (ok : Nat → Prop) (x : S49)  : k49.M w base ok x [.int .u8 x.f0, .int .u8 x.f1, .int .u8 x.f2, .int .u8 x.f3] := ⟨[.int .u8 x.f0], [.int .u8 x.f1, .int .u8 x.f2, .int .u8 x.f3], rfl, rfl, ⟨[.int .u8 x.f1], [.int .u8 x.f2, .int .u8 x.f3], rfl, rfl, ⟨[.int .u8 x.f2], [.int .u8 x.f3], rfl, rfl, rfl⟩⟩⟩
def rd_T49 (xs : List S49) (i : Int) : S49 := xs.getD i.toNat z49
theorem at_T49 {w : World} {A : Option Addr} {n : Nat} {xs : List S49} (h : Kd.C k49 w A n xs) (i : Int) (h0 : 0 ≤ i) (h1 : i < n) : ∃ ad , A = some ad ∧ w.cell? (ad.add (i.toNat * 4)) = some (.int .u8 (rd_T49 xs i).f0) ∧ w.cell? ⟨(ad.add (i.toNat * 4)).block, (ad.add (i.toNat * 4)).off + 1, none⟩ = some (.int .u8 (rd_T49 xs i).f1) ∧ w.cell? ⟨(ad.add (i.toNat * 4)).block, (ad.add (i.toNat * 4)).off + 2, none⟩ = some (.int .u8 (rd_T49 xs i).f2) ∧ w.cell? ⟨(ad.add (i.toNat * 4)).block, (ad.add (i.toNat * 4)).off + 3, none⟩ = some (.int .u8 (rd_T49 xs i).f3) := by
 obtain ⟨ad, c, e, _, hK, hc0⟩ := Kd.C_get h z49 i h0 h1; have hc : ∀ j u, c[j]? = some u → w.cell? (ad.add (i.toNat * 4 + j)) = some u := hc0
 obtain rfl := k49_open hK
 exact ⟨ad, e, hc 0 _ rfl, by rw [← add_field _ _ 1 (by omega)]; exact hc 1 _ rfl, by rw [← add_field _ _ 2 (by omega)]; exact hc 2 _ rfl, by rw [← add_field _ _ 3 (by omega)]; exact hc 3 _ rfl⟩
def rd_L5 (xs : List (List S49)) (i : Int) : (List S49) := xs.getD i.toNat ([] : List S49)
theorem at_L5 {w : World} {A : Option Addr} {n : Nat} {xs : List (List S49)} (h : Kd.C (Kd.slice 49 k49) w A n xs) (i : Int) (h0 : 0 ≤ i) (h1 : i < n) : ∃ ad A0 c0, A = some ad ∧ w.cell? (ad.add i.toNat) = some (.slice A0 (rd_L5 xs i).length c0) ∧ (rd_L5 xs i).length ≤ c0 ∧ k49.C w A0 (rd_L5 xs i).length (rd_L5 xs i) := by
 obtain ⟨ad, c, e, _, hK, hc0⟩ := Kd.C_get h ([] : List S49) i h0 h1; have hc : ∀ j u, c[j]? = some u → w.cell? (ad.add (i.toNat * 1 + j)) = some u := hc0
 obtain ⟨A0, c0, rfl, l0, g0⟩ := hK; exact ⟨ad, A0, c0, e, by have hq := hc 0 _ rfl; rwa [Nat.mul_one, Nat.add_zero] at hq, l0, g0⟩
structure S26 where
 f0 : Int
 f1 : Int
 f2 : Int
 f3 : Int
 f4 : Int
 f5 : Nat
def z26 : S26 := ⟨(0 : Int), (0 : Int), (0 : Int), (0 : Int), (0 : Int), (0 : Nat)⟩
def k26 : Kd S26 := Kd.iso (Kd.pair (Kd.int .u8) (Kd.pair (Kd.int .u8) (Kd.pair (Kd.int .u8) (Kd.pair (Kd.int .u16) (Kd.pair (Kd.int .u16) Kd.f64))))) (fun x : S26 => (x.f0, x.f1, x.f2, x.f3, x.f4, x.f5))
theorem k26_open {w : World} {x : S26} {cs : List Value} (h : k26.K w x cs) : cs = [.int .u8 x.f0, .int .u8 x.f1, .int .u8 x.f2, .int .u16 x.f3, .int .u16 x.f4, .float .f64 x.f5] := by
 obtain ⟨_, _, rfl, rfl, ⟨_, _, rfl, rfl, ⟨_, _, rfl, rfl, ⟨_, _, rfl, rfl, ⟨_, _, rfl, rfl, rfl⟩⟩⟩⟩⟩ := h; exact rfl
theorem k26_openM {w : World} {base : Nat} {ok : Nat → Prop} {x : S26} {cs : List Value} (h : k26.M w base ok x cs) : cs = [.int .u8 x.f0, .int .u8 x.f1, .int .u8 x.f2, .int .u16 x.f3, .int .u16 x.f4, .float .f64 x.f5] := by
 obtain ⟨_, _, rfl, rfl, ⟨_, _, rfl, rfl, ⟨_, _, rfl, rfl, ⟨_, _, rfl, rfl, ⟨_, _, rfl, rfl, rfl⟩⟩⟩⟩⟩ := h; exact rfl
theorem k26_mk (w : World) (x : S26)  : k26.K w x [.int .u8 x.f0, .int .u8 x.f1, .int .u8 x.f2, .int .u16 x.f3, .int .u16 x.f4, .float .f64 x.f5] := ⟨[.int .u8 x.f0], [.int .u8 x.f1, .int .u8 x.f2, .int .u16 x.f3, .int .u16 x.f4, .float .f64 x.f5], rfl, rfl, ⟨[.int .u8 x.f1], [.int .u8 x.f2, .int .u16 x.f3, .int .u16 x.f4, .float .f64 x.f5], rfl, rfl, ⟨[.int .u8 x.f2], [.int .u16 x.f3, .int .u16 x.f4, .float .f64 x.f5], rfl, rfl, ⟨[.int .u16 x.f3], [.int .u16 x.f4, .float .f64 x.f5], rfl, rfl, ⟨[.int .u16 x.f4], [.float .f64 x.f5], rfl, rfl, rfl⟩⟩⟩⟩⟩
theorem k26_mkM (w : World) (base : Nat) (ok : Nat → Prop) (x : S26)  : k26.M w base ok x [.int .u8 x.f0, .int .u8 x.f1, .int .u8 x.f2, .int .u16 x.f3, .int .u16 x.f4, .float .f64 x.f5] := ⟨[.int .u8 x.f0], [.int .u8 x.f1, .int .u8 x.f2, .int .u16 x.f3, .int .u16 x.f4, .float .f64 x.f5], rfl, rfl, ⟨[.int .u8 x.f1], [.int .u8 x.f2, .int .u16 x.f3, .int .u16 x.f4, .float .f64 x.f5], rfl, rfl, ⟨[.int .u8 x.f2], [.int .u16 x.f3, .int .u16 x.f4, .float .f64 x.f5], rfl, rfl, ⟨[.int .u16 x.f3], [.int .u16 x.f4, .float .f64 x.f5], rfl, rfl, ⟨[.int .u16 x.f4], [.float .f64 x.f5], rfl, rfl, rfl⟩⟩⟩⟩⟩
def rd_T26 (xs : List S26) (i : Int) : S26 := xs.getD i.toNat z26
theorem at_T26 {w : World} {A : Option Addr} {n : Nat} {xs : List S26} (h : Kd.C k26 w A n xs) (i : Int) (h0 : 0 ≤ i) (h1 : i < n) : ∃ ad , A = some ad ∧ w.cell? (ad.add (i.toNat * 6)) = some (.int .u8 (rd_T26 xs i).f0) ∧ w.cell? ⟨(ad.add (i.toNat * 6)).block, (ad.add (i.toNat * 6)).off + 1, none⟩ = some (.int .u8 (rd_T26 xs i).f1) ∧ w.cell? ⟨(ad.add (i.toNat * 6)).block, (ad.add (i.toNat * 6)).off + 2, none⟩ = some (.int .u8 (rd_T26 xs i).f2) ∧ w.cell? ⟨(ad.add (i.toNat * 6)).block, (ad.add (i.toNat * 6)).off + 3, none⟩ = some (.int .u16 (rd_T26 xs i).f3) ∧ w.cell? ⟨(ad.add (i.toNat * 6)).block, (ad.add (i.toNat * 6)).off + 4, none⟩ = some (.int .u16 (rd_T26 xs i).f4) ∧ w.cell? ⟨(ad.add (i.toNat * 6)).block, (ad.add (i.toNat * 6)).off + 5, none⟩ = some (.float .f64 (rd_T26 xs i).f5) := by
 obtain ⟨ad, c, e, _, hK, hc0⟩ := Kd.C_get h z26 i h0 h1; have hc : ∀ j u, c[j]? = some u → w.cell? (ad.add (i.toNat * 6 + j)) = some u := hc0
 obtain rfl := k26_open hK
 exact ⟨ad, e, hc 0 _ rfl, by rw [← add_field _ _ 1 (by omega)]; exact hc 1 _ rfl, by rw [← add_field _ _ 2 (by omega)]; exact hc 2 _ rfl, by rw [← add_field _ _ 3 (by omega)]; exact hc 3 _ rfl, by rw [← add_field _ _ 4 (by omega)]; exact hc 4 _ rfl, by rw [← add_field _ _ 5 (by omega)]; exact hc 5 _ rfl⟩
def span_empty.f (a0_0 : Int) (a0_1 : Int) (a0_2 : Int) (a0_3 : Int) : Option (Bool) := if a0_3 = 1 then (some true) else (if a0_3 = 0 then (some (a0_2 == 0)) else (some false))
set_option maxHeartbeats 8000000 in
set_option maxRecDepth 100000 in
theorem span_empty.calls (a0_0 : Int) (a0_1 : Int) (a0_2 : Int) (a0_3 : Int) (r : Bool) (w : World) (h : span_empty.f a0_0 a0_1 a0_2 a0_3 = some r) :
  Calls Try.prog 32 #[.agg #[.int .i64 a0_0, .int .i64 a0_1, .int .i64 a0_2, .int .u8 a0_3]] w fun e w' => e = .returned (.bool r) ∧ Below w.heap.size w w' := by
 have hu61 := Try.underlying61; have HB := zA.mk (Below.refl w.heap.size w); have H : (if a0_3 = 1 then (some true) else (if a0_3 = 0 then (some (a0_2 == 0)) else (some false))) = some r := h
 clear h; by_cases c2 : a0_3 = 1
 ·rw [if_pos c2] at H
  have c2b0 : (a0_3 == 1) = true := beq_iff_eq.mpr c2
  have c2b1 : (a0_3 != 1) = false := bne_eq_false_iff_eq.mpr c2
  clear c2; obtain rfl := Option.some.inj H
  go_enter Try.func32, Try.ntmps32
  go_wp2_with (first | ((with_reducible refine gate_dst (N := 1) rfl ?_); refine box_event ?hg (N := 1) ?hd (cs := #[.int .i64 a0_0, .int .i64 a0_1, .int .i64 a0_2, .int .u8 a0_3]) (t := 61) ?hr ?_; (case hd => rfl); (case hg => rfl); (case hr => first | (go_simp; done) | (go_simp; rfl)); intro gb101 hg w3 hbox hb; have BK101 := zA.mk (hbox); have GW101 := zA.mk ((by rw [hg]; exact (below_size (aL HB)) : w.heap.size ≤ gb101)); replace HB := zA.mk (below_step (aL HB) hb); have GE101 := GW101; clear hb hbox hg; obtain ⟨hcz4_0, hcz4_1, hcz4_2, hcz4_3, hfz4_0, hfz4_1, hfz4_2, hfz4_3⟩ := aC4 BK101))
  go_ret
  exact ⟨aX, aL HB⟩
 rw [if_neg c2] at H; have c2b0 : (a0_3 == 1) = false := beq_eq_false_iff_ne.mpr c2
 have c2b1 : (a0_3 != 1) = true := bne_iff_ne.mpr c2
 by_cases c5 : a0_3 = 0
 ·rw [if_pos c5] at H
  have c5b0 : (a0_3 == 0) = true := beq_iff_eq.mpr c5
  have c5b1 : (a0_3 != 0) = false := bne_eq_false_iff_eq.mpr c5
  clear c5; obtain rfl := Option.some.inj H
  go_enter Try.func32, Try.ntmps32
  go_wp2_with (first | ((with_reducible refine gate_dst (N := 1) rfl ?_); refine box_event ?hg (N := 1) ?hd (cs := #[.int .i64 a0_0, .int .i64 a0_1, .int .i64 a0_2, .int .u8 a0_3]) (t := 61) ?hr ?_; (case hd => rfl); (case hg => rfl); (case hr => first | (go_simp; done) | (go_simp; rfl)); intro gb101 hg w6 hbox hb; have BK101 := zA.mk (hbox); have GW101 := zA.mk ((by rw [hg]; exact (below_size (aL HB)) : w.heap.size ≤ gb101)); replace HB := zA.mk (below_step (aL HB) hb); have GE101 := GW101; clear hb hbox hg; obtain ⟨hcz7_0, hcz7_1, hcz7_2, hcz7_3, hfz7_0, hfz7_1, hfz7_2, hfz7_3⟩ := aC4 BK101))
  go_ret
  exact ⟨aX, aL HB⟩
 rw [if_neg c5] at H; have c5b0 : (a0_3 == 0) = false := beq_eq_false_iff_ne.mpr c5
 have c5b1 : (a0_3 != 0) = true := bne_iff_ne.mpr c5
 obtain rfl := Option.some.inj H
 go_enter Try.func32, Try.ntmps32
 go_wp2_with (first | ((with_reducible refine gate_dst (N := 1) rfl ?_); refine box_event ?hg (N := 1) ?hd (cs := #[.int .i64 a0_0, .int .i64 a0_1, .int .i64 a0_2, .int .u8 a0_3]) (t := 61) ?hr ?_; (case hd => rfl); (case hg => rfl); (case hr => first | (go_simp; done) | (go_simp; rfl)); intro gb101 hg w8 hbox hb; have BK101 := zA.mk (hbox); have GW101 := zA.mk ((by rw [hg]; exact (below_size (aL HB)) : w.heap.size ≤ gb101)); replace HB := zA.mk (below_step (aL HB) hb); have GE101 := GW101; clear hb hbox hg; obtain ⟨hcz9_0, hcz9_1, hcz9_2, hcz9_3, hfz9_0, hfz9_1, hfz9_2, hfz9_3⟩ := aC4 BK101))
 go_ret
 exact ⟨aX, aL HB⟩
def span_Trim.l0 : Nat → Int → Int → List (S61) → List Int → Option (Int)
 | 0, _, _, _, _ => none
 | k + 1, x1, x2, x103000, x103001 => if x2 > x1 then (if 0 ≤ (wrap64 (x2 - 1)) then (if (wrap64 (x2 - 1)) < (x103000.length : Int) then ((span_empty.f ((rd_T61 x103000 (wrap64 (x2 - 1))).f0) ((rd_T61 x103000 (wrap64 (x2 - 1))).f1) ((rd_T61 x103000 (wrap64 (x2 - 1))).f2) ((rd_T61 x103000 (wrap64 (x2 - 1))).f3)).bind fun t104 => (if t104 = true then (span_Trim.l0 k x1 (wrap64 (x2 - 1)) x103000 x103001) else (some x2))) else (none)) else (none)) else (some x2)
def span_Trim.f (k : Nat) (l0_0 : List (S61)) (l0_1 : List Int) (a1 : Int) (a2 : Int) : Option (Int) := span_Trim.l0 k a1 a2 l0_0 l0_1
theorem span_Trim.mono_l : ∀ k, (∀ y0 y1 y2 y3, LeO (span_Trim.l0 k y0 y1 y2 y3) (span_Trim.l0 (k + 1) y0 y1 y2 y3))
 | 0 => fun _ _ _ _ r h => by simp [span_Trim.l0] at h
 | k + 1 => by
  have ih0 := span_Trim.mono_l k
  ·intro y0 y1 y2 y3
   unfold span_Trim.l0
   repeat' (with_reducible first | exact ih0 _ _ _ _ | exact LeO.refl _ | exact LeO.none _ | refine LeO.ite ?_ ?_ | refine LeO.bind ?_ (fun _ => ?_))
theorem span_Trim.mono : ∀ a0 a1 a2 a3 k, LeO (span_Trim.f k a0 a1 a2 a3) (span_Trim.f (k + 1) a0 a1 a2 a3) := by
 intro a0 a1 a2 a3 k
 have ih0 := span_Trim.mono_l k; unfold span_Trim.f
 repeat' (with_reducible first | exact ih0 _ _ _ _ | exact LeO.refl _ | exact LeO.none _ | refine LeO.ite ?_ ?_ | refine LeO.bind ?_ (fun _ => ?_))
set_option maxHeartbeats 8000000 in
set_option maxRecDepth 100000 in
theorem span_Trim.calls (k : Nat) (A0_0 : Option Addr) (c0_0 : Nat) (l0_0 : List (S61)) (A0_1 : Option Addr) (c0_1 : Nat) (l0_1 : List Int) (a1 : Int) (a2 : Int) (r : Int) (w : World) (hr0_0 : Kd.C k61 w A0_0 l0_0.length l0_0) (hc0_0 : l0_0.length ≤ c0_0) (hr0_1 : Kd.C (Kd.int .u8) w A0_1 l0_1.length l0_1) (hc0_1 : l0_1.length ≤ c0_1) (h : span_Trim.f k l0_0 l0_1 a1 a2 = some r) :
  Calls Try.prog 19 #[.agg #[.slice A0_0 l0_0.length c0_0, .slice A0_1 l0_1.length c0_1], .int .i64 a1, .int .i64 a2] w fun e w' => e = .returned (.int .i64 r) ∧ Below w.heap.size w w' := by
 have hu31 := Try.underlying31; have hu61 := Try.underlying61; have HR0_0 := zA.mk hr0_0; have HC0_0 := zA.mk hc0_0; clear hr0_0 hc0_0; have HR0_1 := zA.mk hr0_1; have HC0_1 := zA.mk hc0_1; clear hr0_1 hc0_1; have HB := zA.mk (Below.refl w.heap.size w); have H : (span_Trim.l0 k a1 a2 l0_0 l0_1) = some r := h
 clear h; have H' := zA.mk H
 clear H; go_enter Try.func19, Try.ntmps19
 go_wp2_with (first | ((with_reducible refine gate_dst (N := 3) rfl ?_); refine box_event ?hg (N := 3) ?hd (cs := #[.slice A0_0 l0_0.length c0_0, .slice A0_1 l0_1.length c0_1]) (t := 31) ?hr ?_; (case hd => rfl); (case hg => rfl); (case hr => first | (go_simp; done) | (go_simp; rfl)); intro gb102 hg w4 hbox hb; have BK102 := zA.mk (hbox); have GW102 := zA.mk ((by rw [hg]; exact (below_size (aL HB)) : w.heap.size ≤ gb102)); replace HB := zA.mk (below_step (aL HB) hb); have GE102 := GW102; clear hb hbox hg))
 go_loopg [2] k (fun kq v2 w' => ∃ (x2_1 : Int), v2 = .int .i64 x2_1 ∧ zA (span_Trim.l0 kq a1 x2_1 l0_0 l0_1 = some r) ∧ zA (kq ≤ k) ∧ zA (w'.heap[gb102]? = some (.cells #[(.slice A0_0 l0_0.length c0_0), (.slice A0_1 l0_1.length c0_1)] 31 (0, 0))) ∧ zA (Below w.heap.size w w'))
 case atStart => exact ⟨(a2), aZ, H', ⟨Nat.le_refl _⟩, ⟨aB BK102⟩, ⟨aL HB⟩⟩
 clear H'; obtain ⟨x2_1, rfl, HA, HK1, BK102, HB⟩ := hrel; cases gk with
 | zero => exact absurd HA.out (by simp [span_Trim.l0])
 | succ k1 =>
  have H := HA.out; clear HA; simp only [span_Trim.l0] at H; by_cases c5 : x2_1 > a1
  rotate_left
  ·rw [if_neg c5] at H
   have c5b0 : decide (a1 < x2_1) = false := decide_eq_false c5
   clear c5; obtain rfl := Option.some.inj H
   go_wp2
   go_ret
   exact ⟨aX, aL HB⟩
  rw [if_pos c5] at H; have c5b0 : decide (a1 < x2_1) = true := decide_eq_true c5
  clear c5; obtain ⟨ji6, hji6⟩ : ∃ j_ : Int, (wrap64 (x2_1 - 1)) = j_ := ⟨_, rfl⟩; replace H : (if 0 ≤ (ji6) then (if (ji6) < (l0_0.length : Int) then ((span_empty.f ((rd_T61 l0_0 (ji6)).f0) ((rd_T61 l0_0 (ji6)).f1) ((rd_T61 l0_0 (ji6)).f2) ((rd_T61 l0_0 (ji6)).f3)).bind fun t104 => (if t104 = true then (span_Trim.l0 k1 a1 ji6 l0_0 l0_1) else (some x2_1))) else (none)) else (none)) = some r := by first | (rw [hji6] at H; exact H) | (simp only [hji6] at H ⊢; exact H)
  have hji6w : (IntKind.i64.wrap (x2_1 - 1)) = ji6 := (i64_w _).trans hji6
  by_cases c7 : 0 ≤ (ji6)
  rotate_left
  ·rw [if_neg c7] at H
   exact absurd H (by simp)
  rw [if_pos c7] at H; have c7b0 : decide (0 ≤ (ji6)) = true := decide_eq_true c7
  clear c7; by_cases c8 : (ji6) < (l0_0.length : Int)
  rotate_left
  ·rw [if_neg c8] at H
   exact absurd H (by simp)
  rw [if_pos c8] at H; have c8b0 : decide ((ji6) < (l0_0.length : Int)) = true := decide_eq_true c8
  clear c8; replace H := Option.bind_eq_some_iff.mp H; obtain ⟨t104, A90, H⟩ := H; replace H : (if t104 = true then (span_Trim.l0 k1 a1 ji6 l0_0 l0_1) else (some x2_1)) = some r := H; have A9 := zA.mk A90; clear A90; by_cases c10 : t104 = true
  rotate_left
  ·replace c10 := Bool.eq_false_iff.mpr c10
   subst c10; have H1 : (some x2_1) = some r := by rw [if_neg (show ¬ (false = true) by decide)] at H; exact H
   clear H; have H := H1; clear H1; obtain rfl := Option.some.inj H
   obtain ⟨hcz13_0, hcz13_1, hfz13_0, hfz13_1⟩ := aC2 BK102; have p103 : 0 ≤ ((ji6) : Int) := aD
   have q103 : (ji6) < (l0_0.length : Int) := aD
   obtain ⟨ad103, e103, hx103_0, hx103_1, hx103_2, hx103_3⟩ := at_T61 HR0_0.out (ji6) p103 q103; cases e103
   replace hx103_0 := (HB.out.cell (World.block_lt_of_cell? w _ hx103_0)).trans hx103_0; replace hx103_1 := (HB.out.cell (World.block_lt_of_cell? w _ hx103_1)).trans hx103_1; replace hx103_2 := (HB.out.cell (World.block_lt_of_cell? w _ hx103_2)).trans hx103_2; replace hx103_3 := (HB.out.cell (World.block_lt_of_cell? w _ hx103_3)).trans hx103_3; replace p103 := eq_true p103; replace q103 := eq_true q103; go_wp2_with (first | (go_at_call 32; (with_reducible refine (span_empty.calls ((rd_T61 l0_0 (ji6)).f0) ((rd_T61 l0_0 (ji6)).f1) ((rd_T61 l0_0 (ji6)).f2) ((rd_T61 l0_0 (ji6)).f3) false _ A9.out).mono ?_); rintro e w14 ⟨rfl, hb⟩; replace BK102 := zA.mk (blk_below (aB BK102) hb); replace HB := zA.mk (below_step (aL HB) hb); (try clear hb); (try clear hb2); (try clear hk); (try clear hi)))
   go_ret
   exact ⟨by first | rfl | (simp [errW_none, errW_some] <;> rfl) | (simp only [← hji6]; first | rfl | (simp [errW_none, errW_some] <;> rfl)) | (simp [*, errW_none, errW_some] <;> rfl), aL HB⟩
  subst c10; have H1 : (span_Trim.l0 k1 a1 ji6 l0_0 l0_1) = some r := by rw [if_pos rfl] at H; exact H
  clear H; have H := H1; clear H1; have H' := zA.mk H
  clear H; obtain ⟨hcz11_0, hcz11_1, hfz11_0, hfz11_1⟩ := aC2 BK102; have p103 : 0 ≤ ((ji6) : Int) := aD
  have q103 : (ji6) < (l0_0.length : Int) := aD
  obtain ⟨ad103, e103, hx103_0, hx103_1, hx103_2, hx103_3⟩ := at_T61 HR0_0.out (ji6) p103 q103; cases e103
  replace hx103_0 := (HB.out.cell (World.block_lt_of_cell? w _ hx103_0)).trans hx103_0; replace hx103_1 := (HB.out.cell (World.block_lt_of_cell? w _ hx103_1)).trans hx103_1; replace hx103_2 := (HB.out.cell (World.block_lt_of_cell? w _ hx103_2)).trans hx103_2; replace hx103_3 := (HB.out.cell (World.block_lt_of_cell? w _ hx103_3)).trans hx103_3; replace p103 := eq_true p103; replace q103 := eq_true q103; go_wp2_with (first | (go_at_call 32; (with_reducible refine (span_empty.calls ((rd_T61 l0_0 (ji6)).f0) ((rd_T61 l0_0 (ji6)).f1) ((rd_T61 l0_0 (ji6)).f2) ((rd_T61 l0_0 (ji6)).f3) true _ A9.out).mono ?_); rintro e w12 ⟨rfl, hb⟩; replace BK102 := zA.mk (blk_below (aB BK102) hb); replace HB := zA.mk (below_step (aL HB) hb); (try clear hb); (try clear hb2); (try clear hk); (try clear hi)))
  go_roundg k1
  case measure => have := HK1.out; omega
  case rel => exact ⟨(ji6), (by first | rfl | (simp; done) | (simp only [← hji6] <;> (first | rfl | simp)) | (simp [*]; done)), H', ⟨by have := HK1.out; omega⟩, ⟨aB BK102⟩, ⟨aL HB⟩⟩
def span_Next.f (a0_0 : Int) (a0_1 : Int) (a0_2 : Int) (a0_3 : Int) (a1 : Int) (a2 : Int) : Option (Int) := if a0_3 = 2 then (if a2 = 0 then (none) else (some (wrap64 ((wrap64 (a1 + a2)) - (Int.tmod a1 a2))))) else (some (wrap64 (a1 + a0_2)))
set_option maxHeartbeats 8000000 in
set_option maxRecDepth 100000 in
theorem span_Next.calls (a0_0 : Int) (a0_1 : Int) (a0_2 : Int) (a0_3 : Int) (a1 : Int) (a2 : Int) (r : Int) (w : World) (h : span_Next.f a0_0 a0_1 a0_2 a0_3 a1 a2 = some r) :
  Calls Try.prog 40 #[.agg #[.int .i64 a0_0, .int .i64 a0_1, .int .i64 a0_2, .int .u8 a0_3], .int .i64 a1, .int .i64 a2] w fun e w' => e = .returned (.int .i64 r) ∧ Below w.heap.size w w' := by
 have hu61 := Try.underlying61; have HB := zA.mk (Below.refl w.heap.size w); have H : (if a0_3 = 2 then (if a2 = 0 then (none) else (some (wrap64 ((wrap64 (a1 + a2)) - (Int.tmod a1 a2))))) else (some (wrap64 (a1 + a0_2)))) = some r := h
 clear h; by_cases c4 : a0_3 = 2
 rotate_left
 ·rw [if_neg c4] at H
  have c4b0 : (a0_3 == 2) = false := beq_eq_false_iff_ne.mpr c4
  have c4b1 : (a0_3 != 2) = true := bne_iff_ne.mpr c4
  obtain rfl := Option.some.inj H
  go_enter Try.func40, Try.ntmps40
  go_wp2_with (first | ((with_reducible refine gate_dst (N := 3) rfl ?_); refine box_event ?hg (N := 3) ?hd (cs := #[.int .i64 a0_0, .int .i64 a0_1, .int .i64 a0_2, .int .u8 a0_3]) (t := 61) ?hr ?_; (case hd => rfl); (case hg => rfl); (case hr => first | (go_simp; done) | (go_simp; rfl)); intro gb105 hg w8 hbox hb; have BK105 := zA.mk (hbox); have GW105 := zA.mk ((by rw [hg]; exact (below_size (aL HB)) : w.heap.size ≤ gb105)); replace HB := zA.mk (below_step (aL HB) hb); have GE105 := GW105; clear hb hbox hg; obtain ⟨hcz9_0, hcz9_1, hcz9_2, hcz9_3, hfz9_0, hfz9_1, hfz9_2, hfz9_3⟩ := aC4 BK105))
  go_ret
  exact ⟨aX, aL HB⟩
 rw [if_pos c4] at H; have c4b0 : (a0_3 == 2) = true := beq_iff_eq.mpr c4
 have c4b1 : (a0_3 != 2) = false := bne_eq_false_iff_eq.mpr c4
 clear c4; by_cases c5 : a2 = 0
 ·rw [if_pos c5] at H
  exact absurd H (by simp)
 rw [if_neg c5] at H; have c5b0 : (a2 == 0) = false := beq_eq_false_iff_ne.mpr c5
 have c5b1 : (a2 != 0) = true := bne_iff_ne.mpr c5
 obtain rfl := Option.some.inj H
 go_enter Try.func40, Try.ntmps40
 go_wp2_with (first | ((with_reducible refine gate_dst (N := 3) rfl ?_); refine box_event ?hg (N := 3) ?hd (cs := #[.int .i64 a0_0, .int .i64 a0_1, .int .i64 a0_2, .int .u8 a0_3]) (t := 61) ?hr ?_; (case hd => rfl); (case hg => rfl); (case hr => first | (go_simp; done) | (go_simp; rfl)); intro gb105 hg w6 hbox hb; have BK105 := zA.mk (hbox); have GW105 := zA.mk ((by rw [hg]; exact (below_size (aL HB)) : w.heap.size ≤ gb105)); replace HB := zA.mk (below_step (aL HB) hb); have GE105 := GW105; clear hb hbox hg; obtain ⟨hcz7_0, hcz7_1, hcz7_2, hcz7_3, hfz7_0, hfz7_1, hfz7_2, hfz7_3⟩ := aC4 BK105))
 go_ret
 exact ⟨aX, aL HB⟩
def span_Ends.f (l0_0 : List (S61)) (l0_1 : List Int) (a1 : Int) : Option (Int × Bool) := if 0 ≤ a1 then (if a1 < (l0_1.length : Int) then (some (rd l0_1 a1, ((rd l0_1 a1) != 0))) else (none)) else (none)
set_option maxHeartbeats 8000000 in
set_option maxRecDepth 100000 in
theorem span_Ends.calls (A0_0 : Option Addr) (c0_0 : Nat) (l0_0 : List (S61)) (A0_1 : Option Addr) (c0_1 : Nat) (l0_1 : List Int) (a1 : Int) (r1 : Int) (r2 : Bool) (w : World) (hr0_0 : Kd.C k61 w A0_0 l0_0.length l0_0) (hc0_0 : l0_0.length ≤ c0_0) (hr0_1 : Kd.C (Kd.int .u8) w A0_1 l0_1.length l0_1) (hc0_1 : l0_1.length ≤ c0_1) (h : span_Ends.f l0_0 l0_1 a1 = some (r1, r2)) :
  Calls Try.prog 41 #[.agg #[.slice A0_0 l0_0.length c0_0, .slice A0_1 l0_1.length c0_1], .int .i64 a1] w fun e w' => e = .returned (.tuple #[.int .u8 r1, .bool r2]) ∧ Below w.heap.size w w' := by
 have hu31 := Try.underlying31; have HR0_0 := zA.mk hr0_0; have HC0_0 := zA.mk hc0_0; clear hr0_0 hc0_0; have HR0_1 := zA.mk hr0_1; have HC0_1 := zA.mk hc0_1; clear hr0_1 hc0_1; have HB := zA.mk (Below.refl w.heap.size w); have H : (if 0 ≤ a1 then (if a1 < (l0_1.length : Int) then (some (rd l0_1 a1, ((rd l0_1 a1) != 0))) else (none)) else (none)) = some (r1, r2) := h
 clear h; by_cases c3 : 0 ≤ a1
 rotate_left
 ·rw [if_neg c3] at H
  exact absurd H (by simp)
 rw [if_pos c3] at H; have c3b0 : decide (0 ≤ a1) = true := decide_eq_true c3
 clear c3; by_cases c4 : a1 < (l0_1.length : Int)
 rotate_left
 ·rw [if_neg c4] at H
  exact absurd H (by simp)
 rw [if_pos c4] at H; have c4b0 : decide (a1 < (l0_1.length : Int)) = true := decide_eq_true c4
 clear c4; simp only [Option.some.injEq, Prod.mk.injEq] at H; obtain ⟨rfl, rfl⟩ := H; go_enter Try.func41, Try.ntmps41
 go_wp2_with (first | ((with_reducible refine gate_dst (N := 2) rfl ?_); refine box_event ?hg (N := 2) ?hd (cs := #[.slice A0_0 l0_0.length c0_0, .slice A0_1 l0_1.length c0_1]) (t := 31) ?hr ?_; (case hd => rfl); (case hg => rfl); (case hr => first | (go_simp; done) | (go_simp; rfl)); intro gb106 hg w5 hbox hb; have BK106 := zA.mk (hbox); have GW106 := zA.mk ((by rw [hg]; exact (below_size (aL HB)) : w.heap.size ≤ gb106)); replace HB := zA.mk (below_step (aL HB) hb); have GE106 := GW106; clear hb hbox hg; obtain ⟨hcz6_0, hcz6_1, hfz6_0, hfz6_1⟩ := aC2 BK106; have p107 : 0 ≤ (a1 : Int) := aD; have q107 : a1 < (l0_1.length : Int) := aD; obtain ⟨ad107, e107, hx107_0⟩ := Kd.at_int HR0_1.out a1 p107 q107; cases e107; replace hx107_0 := (HB.out.cell (World.block_lt_of_cell? w _ hx107_0)).trans hx107_0; replace p107 := eq_true p107; replace q107 := eq_true q107; have p108 : 0 ≤ (a1 : Int) := aD; have q108 : a1 < (l0_1.length : Int) := aD; obtain ⟨ad108, e108, hx108_0⟩ := Kd.at_int HR0_1.out a1 p108 q108; obtain rfl : ad107 = ad108 := (by injection e108); replace hx108_0 := (HB.out.cell (World.block_lt_of_cell? w _ hx108_0)).trans hx108_0; replace p108 := eq_true p108; replace q108 := eq_true q108))
 repeat (go_quiet (first | ((with_reducible refine gate_dst (N := 2) rfl ?_); refine box_event ?hg (N := 2) ?hd (cs := #[.slice A0_0 l0_0.length c0_0, .slice A0_1 l0_1.length c0_1]) (t := 31) ?hr ?_; (case hd => rfl); (case hg => rfl); (case hr => first | (go_simp; done) | (go_simp; rfl)); intro gb106 hg w5 hbox hb; have BK106 := zA.mk (hbox); have GW106 := zA.mk ((by rw [hg]; exact (below_size (aL HB)) : w.heap.size ≤ gb106)); replace HB := zA.mk (below_step (aL HB) hb); have GE106 := GW106; clear hb hbox hg; obtain ⟨hcz6_0, hcz6_1, hfz6_0, hfz6_1⟩ := aC2 BK106; have p107 : 0 ≤ (a1 : Int) := aD; have q107 : a1 < (l0_1.length : Int) := aD; obtain ⟨ad107, e107, hx107_0⟩ := Kd.at_int HR0_1.out a1 p107 q107; cases e107; replace hx107_0 := (HB.out.cell (World.block_lt_of_cell? w _ hx107_0)).trans hx107_0; replace p107 := eq_true p107; replace q107 := eq_true q107; have p108 : 0 ≤ (a1 : Int) := aD; have q108 : a1 < (l0_1.length : Int) := aD; obtain ⟨ad108, e108, hx108_0⟩ := Kd.at_int HR0_1.out a1 p108 q108; obtain rfl : ad107 = ad108 := (by injection e108); replace hx108_0 := (HB.out.cell (World.block_lt_of_cell? w _ hx108_0)).trans hx108_0; replace p108 := eq_true p108; replace q108 := eq_true q108)); try go_wp2_with (first | ((with_reducible refine gate_dst (N := 2) rfl ?_); refine box_event ?hg (N := 2) ?hd (cs := #[.slice A0_0 l0_0.length c0_0, .slice A0_1 l0_1.length c0_1]) (t := 31) ?hr ?_; (case hd => rfl); (case hg => rfl); (case hr => first | (go_simp; done) | (go_simp; rfl)); intro gb106 hg w5 hbox hb; have BK106 := zA.mk (hbox); have GW106 := zA.mk ((by rw [hg]; exact (below_size (aL HB)) : w.heap.size ≤ gb106)); replace HB := zA.mk (below_step (aL HB) hb); have GE106 := GW106; clear hb hbox hg; obtain ⟨hcz6_0, hcz6_1, hfz6_0, hfz6_1⟩ := aC2 BK106; have p107 : 0 ≤ (a1 : Int) := aD; have q107 : a1 < (l0_1.length : Int) := aD; obtain ⟨ad107, e107, hx107_0⟩ := Kd.at_int HR0_1.out a1 p107 q107; cases e107; replace hx107_0 := (HB.out.cell (World.block_lt_of_cell? w _ hx107_0)).trans hx107_0; replace p107 := eq_true p107; replace q107 := eq_true q107; have p108 : 0 ≤ (a1 : Int) := aD; have q108 : a1 < (l0_1.length : Int) := aD; obtain ⟨ad108, e108, hx108_0⟩ := Kd.at_int HR0_1.out a1 p108 q108; obtain rfl : ad107 = ad108 := (by injection e108); replace hx108_0 := (HB.out.cell (World.block_lt_of_cell? w _ hx108_0)).trans hx108_0; replace p108 := eq_true p108; replace q108 := eq_true q108)))
 go_ret2
 exact ⟨aX, aL HB⟩
def span_Columns.l0 : Nat → Int → Int → List Int → Int → List (S61) → List Int → Option (List Int)
 | 0, _, _, _, _, _, _ => none
 | k + 1, x2, x3, x9, x10, x110000, x110001 => if x10 < x2 then (if 0 ≤ x10 then (if x10 < (x110000.length : Int) then (if 0 ≤ (wrap64 ((x9.length : Int) - 1)) then (if (wrap64 ((x9.length : Int) - 1)) < (x9.length : Int) then ((span_Next.f ((rd_T61 x110000 x10).f0) ((rd_T61 x110000 x10).f1) ((rd_T61 x110000 x10).f2) ((rd_T61 x110000 x10).f3) (rd x9 (wrap64 ((x9.length : Int) - 1))) x3).bind fun t115 => (if x9.length < 17592186044416 then (span_Columns.l0 k x2 x3 (x9 ++ [t115]) (wrap64 (x10 + 1)) x110000 x110001) else (none))) else (none)) else (none)) else (none)) else (none)) else (some x9)
def span_Columns.f (k : Nat) (l0_0 : List (S61)) (l0_1 : List Int) (a1 : Int) (a2 : Int) (a3 : Int) : Option (List Int) := span_Columns.l0 k a2 a3 (([0] : List Int)) a1 l0_0 l0_1
theorem span_Columns.mono_l : ∀ k, (∀ y0 y1 y2 y3 y4 y5, LeO (span_Columns.l0 k y0 y1 y2 y3 y4 y5) (span_Columns.l0 (k + 1) y0 y1 y2 y3 y4 y5))
 | 0 => fun _ _ _ _ _ _ r h => by simp [span_Columns.l0] at h
 | k + 1 => by
  have ih0 := span_Columns.mono_l k
  ·intro y0 y1 y2 y3 y4 y5
   unfold span_Columns.l0
   repeat' (with_reducible first | exact ih0 _ _ _ _ _ _ | exact LeO.refl _ | exact LeO.none _ | refine LeO.ite ?_ ?_ | refine LeO.bind ?_ (fun _ => ?_))
theorem span_Columns.mono : ∀ a0 a1 a2 a3 a4 k, LeO (span_Columns.f k a0 a1 a2 a3 a4) (span_Columns.f (k + 1) a0 a1 a2 a3 a4) := by
 intro a0 a1 a2 a3 a4 k
 have ih0 := span_Columns.mono_l k; unfold span_Columns.f
 repeat' (with_reducible first | exact ih0 _ _ _ _ _ _ | exact LeO.refl _ | exact LeO.none _ | refine LeO.ite ?_ ?_ | refine LeO.bind ?_ (fun _ => ?_))
def span_Columns.T5 : Bool × List (List Nat × List Nat) := (true, [([], []), ([], []), ([1], [1]), ([], []), ([2, 3], [2, 3]), ([4], [4]), ([], []), ([], []), ([7], [7]), ([8], [8]), ([6, 9], [6, 9]), ([10], [10]), ([], []), ([5, 11, 12], [5, 11, 12]), ([13], [13]), ([0, 14, 13], [0, 14]), ([15, 15, 0, 1, 2, 3, 4, 5, 6, 7, 8, 9, 10, 11, 12, 13, 14, 15], [0, 6, 7, 15])])
def span_Columns.B5 : List Nat := [0, 0, 2, 0, 14, 30, 0, 0, 128, 384, 960, 1984, 0, 8190, 16382, 32767, 65535]
theorem span_Columns.tab5 : rtab .any (opsOf Try.f33 5) = span_Columns.T5 := by kernel_rfl
theorem span_Columns.bits5 : waitsOk span_Columns.T5.2 span_Columns.B5 = true := by kernel_rfl
set_option maxHeartbeats 8000000 in
set_option maxRecDepth 100000 in
theorem span_Columns.calls (k : Nat) (A0_0 : Option Addr) (c0_0 : Nat) (l0_0 : List (S61)) (A0_1 : Option Addr) (c0_1 : Nat) (l0_1 : List Int) (a1 : Int) (a2 : Int) (a3 : Int) (r : List Int) (w : World) (hr0_0 : Kd.C k61 w A0_0 l0_0.length l0_0) (hc0_0 : l0_0.length ≤ c0_0) (hr0_1 : Kd.C (Kd.int .u8) w A0_1 l0_1.length l0_1) (hc0_1 : l0_1.length ≤ c0_1) (h : span_Columns.f k l0_0 l0_1 a1 a2 a3 = some r) :
  Calls Try.prog 33 #[.agg #[.slice A0_0 l0_0.length c0_0, .slice A0_1 l0_1.length c0_1], .int .i64 a1, .int .i64 a2, .int .i64 a3] w fun e w' => ∃ v0_ : Value, e = .returned (v0_) ∧ Kd.R (Kd.int .i64) 3 w' w.heap.size (fun _ => True) v0_ r ∧ Below w.heap.size w w' := by
 have hu31 := Try.underlying31; have hu61 := Try.underlying61; have HR0_0 := zA.mk hr0_0; have HC0_0 := zA.mk hc0_0; clear hr0_0 hc0_0; have HR0_1 := zA.mk hr0_1; have HC0_1 := zA.mk hc0_1; clear hr0_1 hc0_1; have HB := zA.mk (Below.refl w.heap.size w); have H : (span_Columns.l0 k a2 a3 (([0] : List Int)) a1 l0_0 l0_1) = some r := h
 clear h; obtain ⟨y110, hy110⟩ : ∃ y_ : List Int, y_ = (([0] : List Int)) := ⟨_, rfl⟩; replace H : (span_Columns.l0 k a2 a3 y110 a1 l0_0 l0_1) = some r := by first | (rw [hy110]; with_reducible exact H) | (have H2_ := (Option.bind_some _ _).symm.trans H; rw [hy110]; with_reducible exact H2_) | (have H2_ := (Option.bind_some _ _).symm.trans H; with_reducible exact H2_) | with_reducible exact H | (rw [hy110]; exact H) | exact H
 have Ny110 := zA.mk hy110; clear hy110; have H' := zA.mk H
 clear H; go_enter Try.func33, Try.ntmps33
 go_wp2_with (first | ((with_reducible refine gate_dst (N := 4) rfl ?_); refine box_event ?hg (N := 4) ?hd (cs := #[.slice A0_0 l0_0.length c0_0, .slice A0_1 l0_1.length c0_1]) (t := 31) ?hr ?_; (case hd => rfl); (case hg => rfl); (case hr => first | (go_simp; done) | (go_simp; rfl)); intro gb109 hg w5 hbox hb; have BK109 := zA.mk (hbox); have GW109 := zA.mk ((by rw [hg]; exact (below_size (aL HB)) : w.heap.size ≤ gb109)); replace HB := zA.mk (below_step (aL HB) hb); have GE109 := GW109; clear hb hbox hg) | ((with_reducible refine gate_dst (N := 11) rfl ?_); refine Kd.R_lit (Kd.int .i64) _ 3 ?hg (N := 11) ?hd (xs := ([0] : List Int)) (inner := [.int .i64 0]) (ok := fun _ => True) (okp := fun _ => True) ?hr ?hp (fun _ hk => hk) trivial (Below.refl _ _) (Nat.le_refl _) (by simp) ?_; (case hd => rfl); (case hg => rfl); (case hr => first | (go_simp; done) | (go_simp; rfl)); (case hp => exact (Reps.one (show Kd.M (Kd.int .i64) _ _ _ 0 [.int .i64 0] from rfl) (Reps.none _ _))); intro v111 w6 ho7 hb hg_ hnew_; clear hg_ hnew_; (first | rw [← Ny110.out] at ho7 | (simp only [Int.reduceToNat] at ho7; rw [← Ny110.out] at ho7)); have HO112 := zA.mk (Kd.zP ho7 (below_size (aL HB))); replace BK109 := zA.mk (blk_below (aB BK109) hb); replace HB := zA.mk (below_step (aL HB) hb); clear hb ho7))
 go_loopg [9, 10] k (fun kq v9 v10 w' => ∃ (x9_1 : List Int) (x10_1 : Int), v10 = .int .i64 x10_1 ∧ zA (span_Columns.l0 kq a2 a3 x9_1 x10_1 l0_0 l0_1 = some r) ∧ zA (kq ≤ k) ∧ zA (Kd.R (Kd.int .i64) 3 w' w.heap.size (fun _ => True) v9 x9_1) ∧ zA (w'.heap[gb109]? = some (.cells #[(.slice A0_0 l0_0.length c0_0), (.slice A0_1 l0_1.length c0_1)] 31 (0, 0))) ∧ zA (Below w.heap.size w w'))
 case atStart => exact ⟨(y110), (a1), aZ, H', ⟨Nat.le_refl _⟩, ⟨aR HO112⟩, ⟨aB BK109⟩, ⟨aL HB⟩⟩
 clear H'; obtain ⟨x9_1, x10_1, rfl, HA, HK1, HO_9, BK109, HB⟩ := hrel; cases gk with
 | zero => exact absurd HA.out (by simp [span_Columns.l0])
 | succ k1 =>
  have H := HA.out; clear HA; simp only [span_Columns.l0] at H; by_cases c8 : x10_1 < a2
  rotate_left
  ·rw [if_neg c8] at H
   have c8b0 : decide (x10_1 < a2) = false := decide_eq_false c8
   clear c8; obtain rfl := Option.some.inj H
   go_wp2
   go_ret
   exact ⟨_, aX, aR HO_9, aL HB⟩
  rw [if_pos c8] at H; have c8b0 : decide (x10_1 < a2) = true := decide_eq_true c8
  clear c8; by_cases c9 : 0 ≤ x10_1
  rotate_left
  ·rw [if_neg c9] at H
   exact absurd H (by simp)
  rw [if_pos c9] at H; have c9b0 : decide (0 ≤ x10_1) = true := decide_eq_true c9
  clear c9; by_cases c10 : x10_1 < (l0_0.length : Int)
  rotate_left
  ·rw [if_neg c10] at H
   exact absurd H (by simp)
  rw [if_pos c10] at H; have c10b0 : decide (x10_1 < (l0_0.length : Int)) = true := decide_eq_true c10
  clear c10; obtain ⟨ji11, hji11⟩ : ∃ j_ : Int, (wrap64 ((x9_1.length : Int) - 1)) = j_ := ⟨_, rfl⟩; replace H : (if 0 ≤ (ji11) then (if (ji11) < (x9_1.length : Int) then ((span_Next.f ((rd_T61 l0_0 x10_1).f0) ((rd_T61 l0_0 x10_1).f1) ((rd_T61 l0_0 x10_1).f2) ((rd_T61 l0_0 x10_1).f3) (rd x9_1 (ji11)) a3).bind fun t115 => (if x9_1.length < 17592186044416 then (span_Columns.l0 k1 a2 a3 (x9_1 ++ [t115]) (wrap64 (x10_1 + 1)) l0_0 l0_1) else (none))) else (none)) else (none)) = some r := by first | (rw [hji11] at H; exact H) | (simp only [hji11] at H ⊢; exact H)
  have hji11w : (IntKind.i64.wrap ((x9_1.length : Int) - 1)) = ji11 := (i64_w _).trans hji11
  by_cases c12 : 0 ≤ (ji11)
  rotate_left
  ·rw [if_neg c12] at H
   exact absurd H (by simp)
  rw [if_pos c12] at H; have c12b0 : decide (0 ≤ (ji11)) = true := decide_eq_true c12
  clear c12; by_cases c13 : (ji11) < (x9_1.length : Int)
  rotate_left
  ·rw [if_neg c13] at H
   exact absurd H (by simp)
  rw [if_pos c13] at H; have c13b0 : decide ((ji11) < (x9_1.length : Int)) = true := decide_eq_true c13
  clear c13; replace H := Option.bind_eq_some_iff.mp H; obtain ⟨t115, A140, H⟩ := H; replace H : (if x9_1.length < 17592186044416 then (span_Columns.l0 k1 a2 a3 (x9_1 ++ [t115]) (wrap64 (x10_1 + 1)) l0_0 l0_1) else (none)) = some r := H; have A14 := zA.mk A140; clear A140; by_cases c15 : x9_1.length < 17592186044416
  rotate_left
  ·rw [if_neg c15] at H
   exact absurd H (by simp)
  rw [if_pos c15] at H; have LMc15 := zA.mk c15; clear c15; obtain ⟨y116, hy116⟩ : ∃ y_ : List Int, y_ = (x9_1 ++ [t115]) := ⟨_, rfl⟩; replace H : (span_Columns.l0 k1 a2 a3 y116 (wrap64 (x10_1 + 1)) l0_0 l0_1) = some r := by first | (rw [hy116]; with_reducible exact H) | (have H2_ := (Option.bind_some _ _).symm.trans H; rw [hy116]; with_reducible exact H2_) | (have H2_ := (Option.bind_some _ _).symm.trans H; with_reducible exact H2_) | with_reducible exact H | (rw [hy116]; exact H) | exact H
  have Ny116 := zA.mk hy116; clear hy116; have H' := zA.mk H
  clear H; try go_wp2
  replace HO_9 := zA.mk (Kd.zG HO_9.out); replace BK109 := zA.mk (zD BK109.out); replace HB := zA.mk (below_drew1 HB.out); have p113 : 0 ≤ (x10_1 : Int) := aD
  have q113 : x10_1 < (l0_0.length : Int) := aD
  obtain ⟨ad113, e113, hx113_0, hx113_1, hx113_2, hx113_3⟩ := at_T61 HR0_0.out x10_1 p113 q113; have hw113_3 := hx113_3; have hw113_2 := hx113_2; have hw113_1 := hx113_1; have hw113_0 := hx113_0; cases e113
  replace hx113_0 := (HB.out.cell (World.block_lt_of_cell? w _ hx113_0)).trans hx113_0; replace hx113_1 := (HB.out.cell (World.block_lt_of_cell? w _ hx113_1)).trans hx113_1; replace hx113_2 := (HB.out.cell (World.block_lt_of_cell? w _ hx113_2)).trans hx113_2; replace hx113_3 := (HB.out.cell (World.block_lt_of_cell? w _ hx113_3)).trans hx113_3; replace p113 := eq_true p113; replace q113 := eq_true q113; obtain ⟨Ao17, co17, eo17⟩ := Kd.zO HO_9.out; (first | subst eo17 | (injection eo17 with f1_ f2_ f3_; have f4_ := f1_.symm; have f5_ := f3_.symm; clear f1_ f2_ f3_; subst f4_; subst f5_))
  have p114 : 0 ≤ ((ji11) : Int) := aD
  have q114 : (ji11) < (x9_1.length : Int) := aD
  obtain ⟨ad114, e114, hx114_0⟩ := Kd.at_int (Kd.zL HO_9.out).2.2 (ji11) p114 q114; cases e114
  replace p114 := eq_true p114; replace q114 := eq_true q114; refine start_ (n := 17) (S := fun w' => w'.cell? ⟨gb109, 0, none⟩ = some (.slice (some ad113) l0_0.length c0_0) ∧ w'.cell? ⟨gb109, 1, none⟩ = some (.slice A0_1 l0_1.length c0_1) ∧ w'.cell? (ad113.add ((x10_1).toNat * 4)) = some (.int .i64 ((rd_T61 l0_0 x10_1).f0)) ∧ w'.cell? ⟨(ad113.add ((x10_1).toNat * 4)).block, (ad113.add ((x10_1).toNat * 4)).off + 1, none⟩ = some (.int .i64 ((rd_T61 l0_0 x10_1).f1)) ∧ w'.cell? ⟨(ad113.add ((x10_1).toNat * 4)).block, (ad113.add ((x10_1).toNat * 4)).off + 2, none⟩ = some (.int .i64 ((rd_T61 l0_0 x10_1).f2)) ∧ w'.cell? ⟨(ad113.add ((x10_1).toNat * 4)).block, (ad113.add ((x10_1).toNat * 4)).off + 3, none⟩ = some (.int .u8 ((rd_T61 l0_0 x10_1).f3)) ∧ w'.cell? (ad114.add ((ji11)).toNat) = some (.int .i64 (rd x9_1 (ji11)))) (ds := [14, 15]) #[false, false, false, false, false, false, false, false, false, false, false, false, false, false, false, false, false] (by kernel_rfl) rfl rfl ⟨(blk_cell BK109.out 0).trans rfl, (blk_cell BK109.out 1).trans rfl, ((HB.out.cell (World.block_lt_of_cell? w _ hw113_0)).trans hw113_0), ((HB.out.cell (World.block_lt_of_cell? w _ hw113_1)).trans hw113_1), ((HB.out.cell (World.block_lt_of_cell? w _ hw113_2)).trans hw113_2), ((HB.out.cell (World.block_lt_of_cell? w _ hw113_3)).trans hw113_3), hx114_0⟩ (fun hHeld => ?_); refine with_tabW span_Columns.tab5 span_Columns.bits5 (fun HT_ HW_ => ?_)
  generalize wr.drew = w16 at HO_9 BK109 HB hx113_0 hx113_1 hx113_2 hx113_3 hx114_0 hHeld ⊢
  refine aP 0 (some 18) (tf_ 1 17) HT_ ?_
  refine aP 1 (some 19) (tf_ 2 17) HT_ ?_
  refine aP 3 (some 21) (tb_ 11 17) HT_ ?_
  refine aP 6 (some 24) (tb_ 75 17) HT_ ?_
  refine aP 7 (some 25) (tb_ 203 17) HT_ ?_
  refine aP 8 (some 26) (tb_ 459 17) HT_ ?_
  refine aP 9 (some 27) (tb_ 971 17) HT_ ?_
  refine aP 10 (some 28) (tb_ 1995 17) HT_ ?_
  refine aP 12 (some 30) (tb_ 6091 17) HT_ ?_
  refine take_ (i := 2) (N := some 20) (v := ?_) (a' := ?_) (tb_ 6095 17) rfl rfl (take_ofW HT_.out HW_.out (by kernel_rfl)) (fun _ _ _ h => h) (Or.inl ⟨by rfl, ?_⟩) hHeld ?_ ?_
  rotate_left
  ·rintro w' ⟨s0, s1, s2, s3, s4, s5, s6⟩
   go_simp
   with_reducible rfl
  rotate_left
  ·simp only [Act.put, sA_, sB_, sC_, i64_w, i32_w]
   rfl
  refine aP 4 (some 22) (tb_ 6111 17) HT_ ?_
  refine take_ (i := 5) (N := some 23) (v := ?_) (a' := ?_) (tb_ 6143 17) rfl rfl (take_ofW HT_.out HW_.out (by kernel_rfl)) (fun _ _ _ h => h) (Or.inl ⟨by rfl, ?_⟩) hHeld ?_ ?_
  rotate_left
  ·rintro w' ⟨s0, s1, s2, s3, s4, s5, s6⟩
   go_simp
   with_reducible rfl
  rotate_left
  ·simp only [Act.put, sA_, sB_, sC_, i64_w, i32_w]
   rfl
  refine take_ (i := 11) (N := some 29) (v := ?_) (a' := ?_) (tf_ 13 17) rfl rfl (take_ofW HT_.out HW_.out (by kernel_rfl)) (fun _ _ _ h => h) (Or.inl ⟨by rfl, ?_⟩) hHeld ?_ ?_
  rotate_left
  ·rintro w' ⟨s0, s1, s2, s3, s4, s5, s6⟩
   go_simp
   with_reducible rfl
  rotate_left
  ·simp only [Act.put, sA_, sB_, sC_, i64_w, i32_w]
   rfl
  refine one_ (i := 13) (N := some 31) (tb_ 16383 17) rfl rfl (one_of HT_.out (by kernel_rfl)) (by decide) (fun K hK => ?_)
  refine goes_ Try.func40 (by kernel_rfl) rfl #[.agg #[.int .i64 ((rd_T61 l0_0 x10_1).f0), .int .i64 ((rd_T61 l0_0 x10_1).f1), .int .i64 ((rd_T61 l0_0 x10_1).f2), .int .u8 ((rd_T61 l0_0 x10_1).f3)], .int .i64 (rd x9_1 (ji11)), .int .i64 a3] (by rfl) rfl rfl (by (try simp only [List.map_toArray, List.map_cons, List.map_nil]); first | done | (simp only [hji11]; rfl) | rfl | (simp only [List.length_drop, List.length_take]; rfl)) ?_
  with_reducible refine (span_Next.calls ((rd_T61 l0_0 x10_1).f0) ((rd_T61 l0_0 x10_1).f1) ((rd_T61 l0_0 x10_1).f2) ((rd_T61 l0_0 x10_1).f3) (rd x9_1 (ji11)) a3 t115 _ A14.out).mono ?_
  rintro e w18 ⟨rfl, hb⟩
  have HS6_ := (hb.cell (World.block_lt_of_cell? _ _ (hHeld.2.2.2.2.2.2))).trans (hHeld.2.2.2.2.2.2); refine ⟨_, rfl, ?_⟩
  replace HO_9 := zA.mk (Kd.zM (aR HO_9) hb); replace BK109 := zA.mk (blk_below (aB BK109) hb); replace HB := zA.mk (below_step (aL HB) hb); (try clear hb)
  (try clear hb2)
  (try clear hk)
  (try clear hi)
  refine hK.out _ _ ⟨(blk_cell BK109.out 0).trans rfl, (blk_cell BK109.out 1).trans rfl, ((HB.out.cell (World.block_lt_of_cell? w _ hw113_0)).trans hw113_0), ((HB.out.cell (World.block_lt_of_cell? w _ hw113_1)).trans hw113_1), ((HB.out.cell (World.block_lt_of_cell? w _ hw113_2)).trans hw113_2), ((HB.out.cell (World.block_lt_of_cell? w _ hw113_3)).trans hw113_3), HS6_⟩ (fun hHeld => ?_)
  clear hK K; refine norm_ (a' := ?_) ?_ ?_
  rotate_left
  ·show Act.put _ (some 31) _ = _
   simp only [Act.put, sA_, sB_, sC_, i64_w, i32_w]; rfl
  refine last_ (i := 14) (N := some 32) (tb_ 32767 17) rfl rfl (one_of HT_.out (by kernel_rfl)) (by decide) (fun K hK => ?_)
  refine value_ (w1 := ?_) (v := ?_) (by rfl) rfl ?_ ?_
  rotate_left 2
  ·go_simp
   constructor
   ·rfl
   rfl
  refine hK.out _ _ ?_
  clear hK K; refine norm_ (a' := ?_) ?_ ?_
  rotate_left
  ·show Act.put _ (some 32) _ = _
   simp only [Act.put, sA_, sB_, sC_, i64_w, i32_w]; rfl
  refine last_ (i := 15) (N := some 33) (tb_ 65535 17) rfl rfl (one_of HT_.out (by kernel_rfl)) (by decide) (fun K hK => ?_)
  refine Kd.R_append_step (Kd.int .i64) (w0 := w) w.heap.size (by rfl) (.tmp 18) (.tmp 32) 37 3 (.int .i64 0) 8 rfl Try.underlying37 info3 rfl (by decide) (by omega) (.slice (some ad114) x9_1.length co17) x9_1 t115 [.int .i64 t115] (fun _ => True) (fun _ => False) rfl rfl ?aP (fun _ hk => hk.elim) ?aF ?aO ?aB ?aS ?aL ?_
  (case aP => exact rfl)
  (case aB => exact (aL HB))
  (case aF => exact (fun _ _ => trivial))
  (case aO => exact (aR HO_9))
  (case aS => exact (below_size (aL HB)))
  (case aL => have := LMc15.out; omega)
  intro v117 w19 ho hb hg hat
  rw [← Ny116.out] at ho; replace BK109 := zA.mk (blk_grown (g := gb109) (o := .cells #[.slice (some ad113) l0_0.length c0_0, .slice A0_1 l0_1.length c0_1] 31 (0, 0)) (aB BK109) hg (Kd.R_ne HO_9.out BK109.out (by decide)))
  replace HB := zA.mk (hb); have HO118 := zA.mk (ho); clear HO_9; clear ho hb hg hat; refine hK.out _ _ ?_
  clear hK K; refine norm_ (a' := ?_) ?_ ?_
  rotate_left
  ·show Act.put _ (some 33) _ = _
   simp only [Act.put, sA_, sB_, sC_, i64_w, i32_w]; rfl
  refine aP 16 (some 9) (tb_ 131071 17) HT_ ?_
  refine done_ (done_of HT_.out (by kernel_rfl)) ?_
  try go_wp2
  go_roundg k1
  case measure => have := HK1.out; omega
  case rel => exact ⟨(y116), (wrap64 (x10_1 + 1)), aZ, H', ⟨by have := HK1.out; omega⟩, ⟨aR HO118⟩, ⟨aB BK109⟩, ⟨aL HB⟩⟩
def span_Cells.f (k : Nat) (l0_0 : List (S61)) (l0_1 : List Int) (a1 : Int) (a2 : Int) (a3 : Int) (a4 : Int) : Option (Int) := (span_Trim.f k l0_0 l0_1 a1 a2).bind fun t120 => ((span_Columns.f k l0_0 l0_1 a1 t120 a4).bind fun t121 => (if 0 ≤ (wrap64 ((t121.length : Int) - 1)) then (if (wrap64 ((t121.length : Int) - 1)) < (t121.length : Int) then (if a3 = 3 then (some (wrap64 ((rd t121 (wrap64 ((t121.length : Int) - 1))) + 1))) else (some (rd t121 (wrap64 ((t121.length : Int) - 1))))) else (none)) else (none)))
theorem span_Cells.mono : ∀ a0 a1 a2 a3 a4 a5 k, LeO (span_Cells.f k a0 a1 a2 a3 a4 a5) (span_Cells.f (k + 1) a0 a1 a2 a3 a4 a5) := by
 intro a0 a1 a2 a3 a4 a5 k
 unfold span_Cells.f
 repeat' (with_reducible first | exact span_Columns.mono _ _ _ _ _ _ | exact span_Trim.mono _ _ _ _ _ | exact LeO.refl _ | exact LeO.none _ | refine LeO.ite ?_ ?_ | refine LeO.bind ?_ (fun _ => ?_))
def span_Cells.T1 : Bool × List (List Nat × List Nat) := (true, [([], []), ([], []), ([], []), ([], []), ([], []), ([2, 3, 4], [2, 3, 4]), ([], []), ([0, 1, 5, 6, 5], [0, 1, 5, 6]), ([7, 7, 0, 1, 2, 3, 4, 5, 6, 7], [7])])
def span_Cells.B1 : List Nat := [0, 0, 0, 0, 0, 28, 0, 127, 255]
theorem span_Cells.tab1 : rtab .any (opsOf Try.f20 1) = span_Cells.T1 := by kernel_rfl
theorem span_Cells.bits1 : waitsOk span_Cells.T1.2 span_Cells.B1 = true := by kernel_rfl
set_option maxHeartbeats 8000000 in
set_option maxRecDepth 100000 in
theorem span_Cells.calls (k : Nat) (A0_0 : Option Addr) (c0_0 : Nat) (l0_0 : List (S61)) (A0_1 : Option Addr) (c0_1 : Nat) (l0_1 : List Int) (a1 : Int) (a2 : Int) (a3 : Int) (a4 : Int) (r : Int) (w : World) (hr0_0 : Kd.C k61 w A0_0 l0_0.length l0_0) (hc0_0 : l0_0.length ≤ c0_0) (hr0_1 : Kd.C (Kd.int .u8) w A0_1 l0_1.length l0_1) (hc0_1 : l0_1.length ≤ c0_1) (h : span_Cells.f k l0_0 l0_1 a1 a2 a3 a4 = some r) :
  Calls Try.prog 20 #[.agg #[.slice A0_0 l0_0.length c0_0, .slice A0_1 l0_1.length c0_1], .int .i64 a1, .int .i64 a2, .int .u8 a3, .int .i64 a4] w fun e w' => e = .returned (.int .i64 r) ∧ Below w.heap.size w w' := by
 have hu31 := Try.underlying31; have HR0_0 := zA.mk hr0_0; have HC0_0 := zA.mk hc0_0; clear hr0_0 hc0_0; have HR0_1 := zA.mk hr0_1; have HC0_1 := zA.mk hc0_1; clear hr0_1 hc0_1; have HB := zA.mk (Below.refl w.heap.size w); have H : ((span_Trim.f k l0_0 l0_1 a1 a2).bind fun t120 => ((span_Columns.f k l0_0 l0_1 a1 t120 a4).bind fun t121 => (if 0 ≤ (wrap64 ((t121.length : Int) - 1)) then (if (wrap64 ((t121.length : Int) - 1)) < (t121.length : Int) then (if a3 = 3 then (some (wrap64 ((rd t121 (wrap64 ((t121.length : Int) - 1))) + 1))) else (some (rd t121 (wrap64 ((t121.length : Int) - 1))))) else (none)) else (none)))) = some r := h
 clear h; replace H := Option.bind_eq_some_iff.mp H; obtain ⟨t120, A60, H⟩ := H; replace H : ((span_Columns.f k l0_0 l0_1 a1 t120 a4).bind fun t121 => (if 0 ≤ (wrap64 ((t121.length : Int) - 1)) then (if (wrap64 ((t121.length : Int) - 1)) < (t121.length : Int) then (if a3 = 3 then (some (wrap64 ((rd t121 (wrap64 ((t121.length : Int) - 1))) + 1))) else (some (rd t121 (wrap64 ((t121.length : Int) - 1))))) else (none)) else (none))) = some r := H
 have A6 := zA.mk A60; clear A60; replace H := Option.bind_eq_some_iff.mp H; obtain ⟨t121, A70, H⟩ := H; replace H : (if 0 ≤ (wrap64 ((t121.length : Int) - 1)) then (if (wrap64 ((t121.length : Int) - 1)) < (t121.length : Int) then (if a3 = 3 then (some (wrap64 ((rd t121 (wrap64 ((t121.length : Int) - 1))) + 1))) else (some (rd t121 (wrap64 ((t121.length : Int) - 1))))) else (none)) else (none)) = some r := H; have A7 := zA.mk A70; clear A70; obtain ⟨ji8, hji8⟩ : ∃ j_ : Int, (wrap64 ((t121.length : Int) - 1)) = j_ := ⟨_, rfl⟩; replace H : (if 0 ≤ (ji8) then (if (ji8) < (t121.length : Int) then (if a3 = 3 then (some (wrap64 ((rd t121 (ji8)) + 1))) else (some (rd t121 (ji8)))) else (none)) else (none)) = some r := by first | (rw [hji8] at H; exact H) | (simp only [hji8] at H ⊢; exact H)
 (try rw [hji8] at A6)
 (try rw [hji8] at A7)
 have hji8w : (IntKind.i64.wrap ((t121.length : Int) - 1)) = ji8 := (i64_w _).trans hji8
 by_cases c9 : 0 ≤ (ji8)
 rotate_left
 ·rw [if_neg c9] at H
  exact absurd H (by simp)
 rw [if_pos c9] at H; have c9b0 : decide (0 ≤ (ji8)) = true := decide_eq_true c9
 clear c9; by_cases c10 : (ji8) < (t121.length : Int)
 rotate_left
 ·rw [if_neg c10] at H
  exact absurd H (by simp)
 rw [if_pos c10] at H; have c10b0 : decide ((ji8) < (t121.length : Int)) = true := decide_eq_true c10
 clear c10; by_cases c11 : a3 = 3
 ·rw [if_pos c11] at H
  have c11b0 : (a3 == 3) = true := beq_iff_eq.mpr c11
  have c11b1 : (a3 != 3) = false := bne_eq_false_iff_eq.mpr c11
  clear c11; obtain rfl := Option.some.inj H
  go_enter Try.func20, Try.ntmps20
  try go_wp2_with (first | ((with_reducible refine gate_dst (N := 5) rfl ?_); refine box_event ?hg (N := 5) ?hd (cs := #[.slice A0_0 l0_0.length c0_0, .slice A0_1 l0_1.length c0_1]) (t := 31) ?hr ?_; (case hd => rfl); (case hg => rfl); (case hr => first | (go_simp; done) | (go_simp; rfl)); intro gb119 hg w12 hbox hb; have BK119 := zA.mk (hbox); have GW119 := zA.mk ((by rw [hg]; exact (below_size (aL HB)) : w.heap.size ≤ gb119)); replace HB := zA.mk (below_step (aL HB) hb); have GE119 := GW119; clear hb hbox hg))
  replace BK119 := zA.mk (zD BK119.out); replace HB := zA.mk (below_drew1 HB.out); refine start_ (n := 9) (S := fun w' => w'.cell? ⟨gb119, 0, none⟩ = some (.slice A0_0 l0_0.length c0_0) ∧ w'.cell? ⟨gb119, 1, none⟩ = some (.slice A0_1 l0_1.length c0_1)) (ds := []) #[false, false, false, false, false, false, false, false, false] (by kernel_rfl) rfl rfl ⟨(blk_cell BK119.out 0).trans rfl, (blk_cell BK119.out 1).trans rfl⟩ (fun hHeld => ?_); refine with_tabW span_Cells.tab1 span_Cells.bits1 (fun HT_ HW_ => ?_)
  generalize w12.drew = w13 at BK119 HB hHeld ⊢
  refine aP 1 (some 14) (tb_ 2 9) HT_ ?_
  refine aP 3 (some 16) (tb_ 10 9) HT_ ?_
  refine aP 4 (some 17) (tb_ 26 9) HT_ ?_
  refine aP 6 (some 19) (tb_ 90 9) HT_ ?_
  refine take_ (i := 0) (N := some 13) (v := ?_) (a' := ?_) (tb_ 91 9) rfl rfl (take_ofW HT_.out HW_.out (by kernel_rfl)) (fun _ _ _ h => h) (Or.inl ⟨by rfl, ?_⟩) hHeld ?_ ?_
  rotate_left
  ·rintro w' ⟨s0, s1⟩
   go_simp
   with_reducible rfl
  rotate_left
  ·simp only [Act.put, sA_, sB_, sC_, i64_w, i32_w]
   rfl
  refine take_ (i := 2) (N := some 15) (v := ?_) (a' := ?_) (tb_ 95 9) rfl rfl (take_ofW HT_.out HW_.out (by kernel_rfl)) (fun _ _ _ h => h) (Or.inl ⟨by rfl, ?_⟩) hHeld ?_ ?_
  rotate_left
  ·rintro w' ⟨s0, s1⟩
   go_simp
   with_reducible rfl
  rotate_left
  ·simp only [Act.put, sA_, sB_, sC_, i64_w, i32_w]
   rfl
  refine one_ (i := 5) (N := some 18) (tb_ 127 9) rfl rfl (one_of HT_.out (by kernel_rfl)) (by decide) (fun K hK => ?_)
  refine goes_ Try.func19 (by kernel_rfl) rfl #[.agg #[.slice A0_0 l0_0.length c0_0, .slice A0_1 l0_1.length c0_1], .int .i64 a1, .int .i64 a2] (by rfl) rfl rfl aT ?_
  with_reducible refine (span_Trim.calls k _ _ l0_0 _ _ l0_1 a1 a2 t120 _ ?side1 ?side2 ?side3 ?side4 A6.out).mono ?_
  (case side1 => exact aA HR0_0 HB)
  (case side2 => exact HC0_0.out)
  (case side3 => exact aA HR0_1 HB)
  (case side4 => exact HC0_1.out)
  rintro e w14 ⟨rfl, hb⟩
  refine ⟨_, rfl, ?_⟩
  replace BK119 := zA.mk (blk_below (aB BK119) hb); replace HB := zA.mk (below_step (aL HB) hb); (try clear hb)
  (try clear hb2)
  (try clear hk)
  (try clear hi)
  refine hK.out _ _ ⟨(blk_cell BK119.out 0).trans rfl, (blk_cell BK119.out 1).trans rfl⟩ (fun hHeld => ?_)
  clear hK K; refine norm_ (a' := ?_) ?_ ?_
  rotate_left
  ·show Act.put _ (some 18) _ = _
   simp only [Act.put, sA_, sB_, sC_, i64_w, i32_w]; rfl
  refine one_ (i := 7) (N := some 20) (tb_ 255 9) rfl rfl (one_of HT_.out (by kernel_rfl)) (by decide) (fun K hK => ?_)
  refine goes_ Try.func33 (by kernel_rfl) rfl #[.agg #[.slice A0_0 l0_0.length c0_0, .slice A0_1 l0_1.length c0_1], .int .i64 a1, .int .i64 t120, .int .i64 a4] (by rfl) rfl rfl aT ?_
  with_reducible refine (span_Columns.calls k _ _ l0_0 _ _ l0_1 a1 t120 a4 t121 _ ?side1 ?side2 ?side3 ?side4 A7.out).mono ?_
  (case side1 => exact aA HR0_0 HB)
  (case side2 => exact HC0_0.out)
  (case side3 => exact aA HR0_1 HB)
  (case side4 => exact HC0_1.out)
  rintro e w15 ⟨v122, rfl, ho0, hb⟩
  refine ⟨_, rfl, ?_⟩
  have HO123 := zA.mk (Kd.zP ho0 (below_size (aL HB))); replace BK119 := zA.mk (blk_below (aB BK119) hb); replace HB := zA.mk (below_step (aL HB) hb); (try clear hb)
  (try clear hb2)
  (try clear hk)
  (try clear hi)
  (try clear ho0)
  refine hK.out _ _ ⟨(blk_cell BK119.out 0).trans rfl, (blk_cell BK119.out 1).trans rfl⟩ (fun hHeld => ?_)
  clear hK K; refine norm_ (a' := ?_) ?_ ?_
  rotate_left
  ·show Act.put _ (some 20) _ = _
   simp only [Act.put, sA_, sB_, sC_, i64_w, i32_w]; rfl
  refine aP 8 (some 11) (tb_ 511 9) HT_ ?_
  refine done_ (done_of HT_.out (by kernel_rfl)) ?_
  obtain ⟨Ao16, co16, eo16⟩ := Kd.zO HO123.out; subst eo16; have p124 : 0 ≤ ((ji8) : Int) := aD
  have q124 : (ji8) < (t121.length : Int) := aD
  obtain ⟨ad124, e124, hx124_0⟩ := Kd.at_int (Kd.zL HO123.out).2.2 (ji8) p124 q124; cases e124
  replace p124 := eq_true p124; replace q124 := eq_true q124; try go_wp2
  go_ret
  exact ⟨by first | rfl | (simp [errW_none, errW_some] <;> rfl) | (simp only [← hji8]; first | rfl | (simp [errW_none, errW_some] <;> rfl)) | (simp [*, errW_none, errW_some] <;> rfl), aL HB⟩
 rw [if_neg c11] at H; have c11b0 : (a3 == 3) = false := beq_eq_false_iff_ne.mpr c11
 have c11b1 : (a3 != 3) = true := bne_iff_ne.mpr c11
 obtain rfl := Option.some.inj H
 go_enter Try.func20, Try.ntmps20
 try go_wp2_with (first | ((with_reducible refine gate_dst (N := 5) rfl ?_); refine box_event ?hg (N := 5) ?hd (cs := #[.slice A0_0 l0_0.length c0_0, .slice A0_1 l0_1.length c0_1]) (t := 31) ?hr ?_; (case hd => rfl); (case hg => rfl); (case hr => first | (go_simp; done) | (go_simp; rfl)); intro gb119 hg w17 hbox hb; have BK119 := zA.mk (hbox); have GW119 := zA.mk ((by rw [hg]; exact (below_size (aL HB)) : w.heap.size ≤ gb119)); replace HB := zA.mk (below_step (aL HB) hb); have GE119 := GW119; clear hb hbox hg))
 replace BK119 := zA.mk (zD BK119.out); replace HB := zA.mk (below_drew1 HB.out); refine start_ (n := 9) (S := fun w' => w'.cell? ⟨gb119, 0, none⟩ = some (.slice A0_0 l0_0.length c0_0) ∧ w'.cell? ⟨gb119, 1, none⟩ = some (.slice A0_1 l0_1.length c0_1)) (ds := []) #[false, false, false, false, false, false, false, false, false] (by kernel_rfl) rfl rfl ⟨(blk_cell BK119.out 0).trans rfl, (blk_cell BK119.out 1).trans rfl⟩ (fun hHeld => ?_); refine with_tabW span_Cells.tab1 span_Cells.bits1 (fun HT_ HW_ => ?_)
 generalize w17.drew = w18 at BK119 HB hHeld ⊢
 refine aP 1 (some 14) (tb_ 2 9) HT_ ?_
 refine aP 3 (some 16) (tb_ 10 9) HT_ ?_
 refine aP 4 (some 17) (tb_ 26 9) HT_ ?_
 refine aP 6 (some 19) (tb_ 90 9) HT_ ?_
 refine take_ (i := 0) (N := some 13) (v := ?_) (a' := ?_) (tb_ 91 9) rfl rfl (take_ofW HT_.out HW_.out (by kernel_rfl)) (fun _ _ _ h => h) (Or.inl ⟨by rfl, ?_⟩) hHeld ?_ ?_
 rotate_left
 ·rintro w' ⟨s0, s1⟩
  go_simp
  with_reducible rfl
 rotate_left
 ·simp only [Act.put, sA_, sB_, sC_, i64_w, i32_w]
  rfl
 refine take_ (i := 2) (N := some 15) (v := ?_) (a' := ?_) (tb_ 95 9) rfl rfl (take_ofW HT_.out HW_.out (by kernel_rfl)) (fun _ _ _ h => h) (Or.inl ⟨by rfl, ?_⟩) hHeld ?_ ?_
 rotate_left
 ·rintro w' ⟨s0, s1⟩
  go_simp
  with_reducible rfl
 rotate_left
 ·simp only [Act.put, sA_, sB_, sC_, i64_w, i32_w]
  rfl
 refine one_ (i := 5) (N := some 18) (tb_ 127 9) rfl rfl (one_of HT_.out (by kernel_rfl)) (by decide) (fun K hK => ?_)
 refine goes_ Try.func19 (by kernel_rfl) rfl #[.agg #[.slice A0_0 l0_0.length c0_0, .slice A0_1 l0_1.length c0_1], .int .i64 a1, .int .i64 a2] (by rfl) rfl rfl aT ?_
 with_reducible refine (span_Trim.calls k _ _ l0_0 _ _ l0_1 a1 a2 t120 _ ?side1 ?side2 ?side3 ?side4 A6.out).mono ?_
 (case side1 => exact aA HR0_0 HB)
 (case side2 => exact HC0_0.out)
 (case side3 => exact aA HR0_1 HB)
 (case side4 => exact HC0_1.out)
 rintro e w19 ⟨rfl, hb⟩
 refine ⟨_, rfl, ?_⟩
 replace BK119 := zA.mk (blk_below (aB BK119) hb); replace HB := zA.mk (below_step (aL HB) hb); (try clear hb)
 (try clear hb2)
 (try clear hk)
 (try clear hi)
 refine hK.out _ _ ⟨(blk_cell BK119.out 0).trans rfl, (blk_cell BK119.out 1).trans rfl⟩ (fun hHeld => ?_)
 clear hK K; refine norm_ (a' := ?_) ?_ ?_
 rotate_left
 ·show Act.put _ (some 18) _ = _
  simp only [Act.put, sA_, sB_, sC_, i64_w, i32_w]; rfl
 refine one_ (i := 7) (N := some 20) (tb_ 255 9) rfl rfl (one_of HT_.out (by kernel_rfl)) (by decide) (fun K hK => ?_)
 refine goes_ Try.func33 (by kernel_rfl) rfl #[.agg #[.slice A0_0 l0_0.length c0_0, .slice A0_1 l0_1.length c0_1], .int .i64 a1, .int .i64 t120, .int .i64 a4] (by rfl) rfl rfl aT ?_
 with_reducible refine (span_Columns.calls k _ _ l0_0 _ _ l0_1 a1 t120 a4 t121 _ ?side1 ?side2 ?side3 ?side4 A7.out).mono ?_
 (case side1 => exact aA HR0_0 HB)
 (case side2 => exact HC0_0.out)
 (case side3 => exact aA HR0_1 HB)
 (case side4 => exact HC0_1.out)
 rintro e w20 ⟨v122, rfl, ho0, hb⟩
 refine ⟨_, rfl, ?_⟩
 have HO123 := zA.mk (Kd.zP ho0 (below_size (aL HB))); replace BK119 := zA.mk (blk_below (aB BK119) hb); replace HB := zA.mk (below_step (aL HB) hb); (try clear hb)
 (try clear hb2)
 (try clear hk)
 (try clear hi)
 (try clear ho0)
 refine hK.out _ _ ⟨(blk_cell BK119.out 0).trans rfl, (blk_cell BK119.out 1).trans rfl⟩ (fun hHeld => ?_)
 clear hK K; refine norm_ (a' := ?_) ?_ ?_
 rotate_left
 ·show Act.put _ (some 20) _ = _
  simp only [Act.put, sA_, sB_, sC_, i64_w, i32_w]; rfl
 refine aP 8 (some 11) (tb_ 511 9) HT_ ?_
 refine done_ (done_of HT_.out (by kernel_rfl)) ?_
 obtain ⟨Ao21, co21, eo21⟩ := Kd.zO HO123.out; subst eo21; have p124 : 0 ≤ ((ji8) : Int) := aD
 have q124 : (ji8) < (t121.length : Int) := aD
 obtain ⟨ad124, e124, hx124_0⟩ := Kd.at_int (Kd.zL HO123.out).2.2 (ji8) p124 q124; cases e124
 replace p124 := eq_true p124; replace q124 := eq_true q124; try go_wp2
 go_ret
 exact ⟨by first | rfl | (simp [errW_none, errW_some] <;> rfl) | (simp only [← hji8]; first | rfl | (simp [errW_none, errW_some] <;> rfl)) | (simp [*, errW_none, errW_some] <;> rfl), aL HB⟩
def span_Make.f (k : Nat) (l0_0 : List (S61)) (l0_1 : List Int) (a1 : Int) (a2 : Int) (a3 : Int) (a4 : Int) : Option (Int × Int × Int × Int) := (span_Cells.f k l0_0 l0_1 a1 a2 a3 a4).bind fun t127 => (some (a1, a2, t127, a3))
theorem span_Make.mono : ∀ a0 a1 a2 a3 a4 a5 k, LeO (span_Make.f k a0 a1 a2 a3 a4 a5) (span_Make.f (k + 1) a0 a1 a2 a3 a4 a5) := by
 intro a0 a1 a2 a3 a4 a5 k
 unfold span_Make.f
 repeat' (with_reducible first | exact span_Cells.mono _ _ _ _ _ _ _ | exact LeO.refl _ | exact LeO.none _ | refine LeO.ite ?_ ?_ | refine LeO.bind ?_ (fun _ => ?_))
set_option maxHeartbeats 8000000 in
set_option maxRecDepth 100000 in
theorem span_Make.calls (k : Nat) (A0_0 : Option Addr) (c0_0 : Nat) (l0_0 : List (S61)) (A0_1 : Option Addr) (c0_1 : Nat) (l0_1 : List Int) (a1 : Int) (a2 : Int) (a3 : Int) (a4 : Int) (r1 : Int) (r2 : Int) (r3 : Int) (r4 : Int) (w : World) (hr0_0 : Kd.C k61 w A0_0 l0_0.length l0_0) (hc0_0 : l0_0.length ≤ c0_0) (hr0_1 : Kd.C (Kd.int .u8) w A0_1 l0_1.length l0_1) (hc0_1 : l0_1.length ≤ c0_1) (h : span_Make.f k l0_0 l0_1 a1 a2 a3 a4 = some (r1, r2, r3, r4)) :
  Calls Try.prog 42 #[.agg #[.slice A0_0 l0_0.length c0_0, .slice A0_1 l0_1.length c0_1], .int .i64 a1, .int .i64 a2, .int .u8 a3, .int .i64 a4] w fun e w' => e = .returned (.agg #[.int .i64 r1, .int .i64 r2, .int .i64 r3, .int .u8 r4]) ∧ Below w.heap.size w w' := by
 have hu31 := Try.underlying31; have hu45 := Try.underlying45; have HR0_0 := zA.mk hr0_0; have HC0_0 := zA.mk hc0_0; clear hr0_0 hc0_0; have HR0_1 := zA.mk hr0_1; have HC0_1 := zA.mk hc0_1; clear hr0_1 hc0_1; have HB := zA.mk (Below.refl w.heap.size w); have H : ((span_Cells.f k l0_0 l0_1 a1 a2 a3 a4).bind fun t127 => (some (a1, a2, t127, a3))) = some (r1, r2, r3, r4) := h
 clear h; replace H := Option.bind_eq_some_iff.mp H; obtain ⟨t127, A60, H⟩ := H; replace H : (some (a1, a2, t127, a3)) = some (r1, r2, r3, r4) := H; have A6 := zA.mk A60; clear A60; simp only [Option.some.injEq, Prod.mk.injEq] at H; obtain ⟨rfl, rfl, rfl, rfl⟩ := H; go_enter Try.func42, Try.ntmps42
 go_wp2_with (first | ((with_reducible refine gate_dst (N := 5) rfl ?_); refine box_event ?hg (N := 5) ?hd (cs := #[.slice A0_0 l0_0.length c0_0, .slice A0_1 l0_1.length c0_1]) (t := 31) ?hr ?_; (case hd => rfl); (case hg => rfl); (case hr => first | (go_simp; done) | (go_simp; rfl)); intro gb125 hg w7 hbox hb; have BK125 := zA.mk (hbox); have GW125 := zA.mk ((by rw [hg]; exact (below_size (aL HB)) : w.heap.size ≤ gb125)); replace HB := zA.mk (below_step (aL HB) hb); have GE125 := GW125; clear hb hbox hg) | ((with_reducible refine gate_dst (N := 10) rfl ?_); refine box_event ?hg (N := 10) ?hd (cs := #[.int .i64 0, .int .i64 0, .int .i64 0, .int .u8 0]) (t := 45) ?hr ?_; (case hd => rfl); (case hg => rfl); (case hr => first | (go_simp; done) | (go_simp; rfl)); intro gb126 hg w8 hbox hb; have BK126 := zA.mk (hbox); have GW126 := zA.mk ((by rw [hg]; exact (below_size (aL HB)) : w.heap.size ≤ gb126)); replace HB := zA.mk (below_step (aL HB) hb); have GE126 := GW126; have NB125_126 := zA.mk ((by rw [hg]; exact Nat.ne_of_lt (blk_lt (aB BK125)) : gb125 ≠ gb126)); have NB126_125 := zA.mk ((by rw [hg]; exact Nat.ne_of_gt (blk_lt (g := gb125) (o := .cells #[.slice A0_0 l0_0.length c0_0, .slice A0_1 l0_1.length c0_1] 31 (0, 0)) (aB BK125)) : gb126 ≠ gb125)); replace BK125 := zA.mk (blk_below (aB BK125) hb); clear hb hbox hg; have hnb9 := NB125_126.out; have hnc9 := NB126_125.out; obtain ⟨hcz10_0, hcz10_1, hfz10_0, hfz10_1⟩ := aC2 BK125) | ((with_reducible refine gate_callee (f := 20) rfl ?_); refine goesL_ (some 18) rfl rfl Try.func20 (by kernel_rfl) rfl #[.agg #[.slice A0_0 l0_0.length c0_0, .slice A0_1 l0_1.length c0_1], .int .i64 a1, .int .i64 a2, .int .u8 a3, .int .i64 a4] rfl aT ?_; (with_reducible refine (span_Cells.calls k _ _ l0_0 _ _ l0_1 a1 a2 a3 a4 t127 _ ?side1 ?side2 ?side3 ?side4 A6.out).mono ?_); (case side1 => exact aA HR0_0 HB); (case side2 => exact HC0_0.out); (case side3 => exact aA HR0_1 HB); (case side4 => exact HC0_1.out); rintro e w11 ⟨rfl, hb⟩; refine ⟨_, rfl, ?_⟩; replace BK125 := zA.mk (blk_below (aB BK125) hb); replace BK126 := zA.mk (blk_below (aB BK126) hb); replace HB := zA.mk (below_step (aL HB) hb); (try clear hb); (try clear hb2); (try clear hk); (try clear hi); obtain ⟨hcz12_0, hcz12_1, hcz12_2, hcz12_3, hfz12_0, hfz12_1, hfz12_2, hfz12_3⟩ := aC4 BK126) | ((with_reducible refine gate_store (t := 45) (p := 10) rfl ?_); refine store_event (t := 45) (p := 10) (v := ?vo_w13) (w1 := ((((w11.setCell ⟨gb126, 0, none⟩ (.int .i64 a1)).setCell ⟨gb126, 1, none⟩ (.int .i64 a2)).setCell ⟨gb126, 2, none⟩ (.int .i64 t127)).setCell ⟨gb126, 3, none⟩ (.int .u8 a3))) ?hg ?ho ?hn ?hr ?_; (case ho => rfl); (case hg => rfl); (case hn => rfl); (case hr => first | (go_simp; done) | (go_simp; rfl)); intro w13 hw; have n0_ : zA (w13.heap[gb125]? = some (.cells #[.slice A0_0 l0_0.length c0_0, .slice A0_1 l0_1.length c0_1] 31 (0, 0))) := ⟨(by rw [hw]; exact (aB BK125))⟩; have n1_ : zA (w13.heap[gb126]? = some (.cells #[.int .i64 a1, .int .i64 a2, .int .i64 t127, .int .u8 a3] 45 (0, 0))) := ⟨(by rw [hw]; exact (by (with_reducible repeat (first | refine zB ?_ _ | refine zD ?_ | refine zC ?_ _)); refine blk_put (cs := #[.int .i64 a1, .int .i64 a2, .int .i64 t127, .int .u8 0]) ?_ 3 _ rfl; (with_reducible repeat (first | refine zB ?_ _ | refine zD ?_ | refine zC ?_ _)); refine blk_put (cs := #[.int .i64 a1, .int .i64 a2, .int .i64 0, .int .u8 0]) ?_ 2 _ rfl; (with_reducible repeat (first | refine zB ?_ _ | refine zD ?_ | refine zC ?_ _)); refine blk_put (cs := #[.int .i64 a1, .int .i64 0, .int .i64 0, .int .u8 0]) ?_ 1 _ rfl; (with_reducible repeat (first | refine zB ?_ _ | refine zD ?_ | refine zC ?_ _)); refine blk_put (cs := #[.int .i64 0, .int .i64 0, .int .i64 0, .int .u8 0]) ?_ 0 _ rfl; (with_reducible repeat (first | refine zB ?_ _ | refine zD ?_ | refine zC ?_ _)); exact BK126.out))⟩; have n2_ : zA (Below w.heap.size w w13) := ⟨(by rw [hw]; exact (aL HB))⟩; clear hw; clear BK125; clear BK126; clear HB; have BK125 := n0_; have BK126 := n1_; have HB := n2_; clear n0_ n1_ n2_))
 refine bodyPost_ret (results_cell_row rfl _ _ gb126 45 #[.int .i64 a1, .int .i64 a2, .int .i64 t127, .int .u8 a3] (0, 0) _ rfl (aB BK126) Try.underlying45 rfl (by kernel_rfl)) rfl ?_
 exact ⟨aX, aL HB⟩
mutual
def first_one.j2 : Nat → Int → Int → Int → Int → List (S61) → List Int → Int → Int → Int → Int → Int → Nat → Option (Int × Int × Int × Int)
 | 0, _, _, _, _, _, _, _, _, _, _, _, _ => none
 | k + 1, x1, x2, x9, x10, x129000, x129001, x130000, x130001, x130002, x130003, x130004, x130005 => if x9 ≥ 0 then (if 0 ≤ x9 then (if x9 < (x129001.length : Int) then ((span_Make.f k x129000 x129001 x1 x9 (rd x129001 x9) x130001).bind fun bt138 => (some (bt138.1, bt138.2.1, bt138.2.2.1, bt138.2.2.2))) else (none)) else (none)) else (if x10 = x2 then (if 0 ≤ x2 then (if x2 < (x129001.length : Int) then (if x10 < x2 then (if 0 ≤ x10 then (if x10 < (x129001.length : Int) then (if (rd x129001 x10) = 1 then ((span_Make.f k x129000 x129001 x1 x10 1 x130001).bind fun bt144 => (some (bt144.1, bt144.2.1, bt144.2.2.1, bt144.2.2.2))) else ((span_Make.f k x129000 x129001 x1 x10 (rd x129001 x2) x130001).bind fun bt148 => (some (bt148.1, bt148.2.1, bt148.2.2.1, bt148.2.2.2)))) else (none)) else (none)) else ((span_Make.f k x129000 x129001 x1 x10 (rd x129001 x2) x130001).bind fun bt152 => (some (bt152.1, bt152.2.1, bt152.2.2.1, bt152.2.2.2)))) else (none)) else (none)) else (if x10 < x2 then (if 0 ≤ x10 then (if x10 < (x129001.length : Int) then (if (rd x129001 x10) = 1 then ((span_Make.f k x129000 x129001 x1 x10 1 x130001).bind fun bt157 => (some (bt157.1, bt157.2.1, bt157.2.2.1, bt157.2.2.2))) else ((span_Make.f k x129000 x129001 x1 x10 4 x130001).bind fun bt161 => (some (bt161.1, bt161.2.1, bt161.2.2.1, bt161.2.2.2)))) else (none)) else (none)) else ((span_Make.f k x129000 x129001 x1 x10 4 x130001).bind fun bt165 => (some (bt165.1, bt165.2.1, bt165.2.2.1, bt165.2.2.2)))))
def first_one.l0 : Nat → Int → Int → Int → Int → Int → Int → Int → List (S61) → List Int → Int → Int → Int → Int → Int → Nat → Option (Int × Int × Int × Int)
 | 0, _, _, _, _, _, _, _, _, _, _, _, _, _, _, _ => none
 | k + 1, x1, x2, x9, x10, x11, x12, x13, x129000, x129001, x130000, x130001, x130002, x130003, x130004, x130005 => if x13 ≤ x2 then (if 0 ≤ (wrap64 (x13 - 1)) then (if (wrap64 (x13 - 1)) < (x129000.length : Int) then ((span_Next.f ((rd_T61 x129000 (wrap64 (x13 - 1))).f0) ((rd_T61 x129000 (wrap64 (x13 - 1))).f1) ((rd_T61 x129000 (wrap64 (x13 - 1))).f2) ((rd_T61 x129000 (wrap64 (x13 - 1))).f3) x11 x130001).bind fun t133 => ((span_Trim.f k x129000 x129001 (wrap64 (x13 - 1)) x13).bind fun t134 => (if t134 = x13 then (first_one.j1 k x1 x2 x9 x10 t133 t133 x13 x129000 x129001 x130000 x130001 x130002 x130003 x130004 x130005) else (first_one.j1 k x1 x2 x9 x10 t133 x12 x13 x129000 x129001 x130000 x130001 x130002 x130003 x130004 x130005)))) else (none)) else (none)) else (first_one.j2 k x1 x2 x9 x10 x129000 x129001 x130000 x130001 x130002 x130003 x130004 x130005)
def first_one.j1 : Nat → Int → Int → Int → Int → Int → Int → Int → List (S61) → List Int → Int → Int → Int → Int → Int → Nat → Option (Int × Int × Int × Int)
 | 0, _, _, _, _, _, _, _, _, _, _, _, _, _, _, _ => none
 | k + 1, x1, x2, x9, x10, x11, x12, x13, x129000, x129001, x130000, x130001, x130002, x130003, x130004, x130005 => if x12 > x130000 then (first_one.j2 k x1 x2 x9 x10 x129000 x129001 x130000 x130001 x130002 x130003 x130004 x130005) else ((span_Ends.f x129000 x129001 x13).bind fun bt135 => (if bt135.2 = true then (if bt135.1 = 3 then (if x12 < x130000 then (first_one.l0 k x1 x2 x13 x13 x11 x12 (wrap64 (x13 + 1)) x129000 x129001 x130000 x130001 x130002 x130003 x130004 x130005) else (first_one.l0 k x1 x2 x9 x13 x11 x12 (wrap64 (x13 + 1)) x129000 x129001 x130000 x130001 x130002 x130003 x130004 x130005)) else (first_one.l0 k x1 x2 x13 x13 x11 x12 (wrap64 (x13 + 1)) x129000 x129001 x130000 x130001 x130002 x130003 x130004 x130005)) else (first_one.l0 k x1 x2 x9 x13 x11 x12 (wrap64 (x13 + 1)) x129000 x129001 x130000 x130001 x130002 x130003 x130004 x130005)))
end
def first_one.f (k : Nat) (l0_0 : List (S61)) (l0_1 : List Int) (a1 : Int) (a2 : Int) (a3_0 : Int) (a3_1 : Int) (a3_2 : Int) (a3_3 : Int) (a3_4 : Int) (a3_5 : Nat) : Option (Int × Int × Int × Int) := first_one.l0 k a1 a2 (-1) (wrap64 (a1 + 1)) 0 0 (wrap64 (a1 + 1)) l0_0 l0_1 a3_0 a3_1 a3_2 a3_3 a3_4 a3_5
theorem first_one.mono_l : ∀ k, (∀ y0 y1 y2 y3 y4 y5 y6 y7 y8 y9 y10 y11, LeO (first_one.j2 k y0 y1 y2 y3 y4 y5 y6 y7 y8 y9 y10 y11) (first_one.j2 (k + 1) y0 y1 y2 y3 y4 y5 y6 y7 y8 y9 y10 y11)) ∧ (∀ y0 y1 y2 y3 y4 y5 y6 y7 y8 y9 y10 y11 y12 y13 y14, LeO (first_one.l0 k y0 y1 y2 y3 y4 y5 y6 y7 y8 y9 y10 y11 y12 y13 y14) (first_one.l0 (k + 1) y0 y1 y2 y3 y4 y5 y6 y7 y8 y9 y10 y11 y12 y13 y14)) ∧ (∀ y0 y1 y2 y3 y4 y5 y6 y7 y8 y9 y10 y11 y12 y13 y14, LeO (first_one.j1 k y0 y1 y2 y3 y4 y5 y6 y7 y8 y9 y10 y11 y12 y13 y14) (first_one.j1 (k + 1) y0 y1 y2 y3 y4 y5 y6 y7 y8 y9 y10 y11 y12 y13 y14))
 | 0 => ⟨fun _ _ _ _ _ _ _ _ _ _ _ _ r h => by simp [first_one.j2] at h, fun _ _ _ _ _ _ _ _ _ _ _ _ _ _ _ r h => by simp [first_one.l0] at h, fun _ _ _ _ _ _ _ _ _ _ _ _ _ _ _ r h => by simp [first_one.j1] at h⟩
 | k + 1 => by
  obtain ⟨ih0, ih1, ih2⟩ := first_one.mono_l k; refine ⟨?_, ?_, ?_⟩
  ·intro y0 y1 y2 y3 y4 y5 y6 y7 y8 y9 y10 y11
   unfold first_one.j2
   repeat' (with_reducible first | exact ih0 _ _ _ _ _ _ _ _ _ _ _ _ | exact ih1 _ _ _ _ _ _ _ _ _ _ _ _ _ _ _ | exact ih2 _ _ _ _ _ _ _ _ _ _ _ _ _ _ _ | exact span_Make.mono _ _ _ _ _ _ _ | exact span_Trim.mono _ _ _ _ _ | exact LeO.refl _ | exact LeO.none _ | refine LeO.ite ?_ ?_ | refine LeO.bind ?_ (fun _ => ?_))
  ·intro y0 y1 y2 y3 y4 y5 y6 y7 y8 y9 y10 y11 y12 y13 y14
   unfold first_one.l0
   repeat' (with_reducible first | exact ih0 _ _ _ _ _ _ _ _ _ _ _ _ | exact ih1 _ _ _ _ _ _ _ _ _ _ _ _ _ _ _ | exact ih2 _ _ _ _ _ _ _ _ _ _ _ _ _ _ _ | exact span_Make.mono _ _ _ _ _ _ _ | exact span_Trim.mono _ _ _ _ _ | exact LeO.refl _ | exact LeO.none _ | refine LeO.ite ?_ ?_ | refine LeO.bind ?_ (fun _ => ?_))
  ·intro y0 y1 y2 y3 y4 y5 y6 y7 y8 y9 y10 y11 y12 y13 y14
   unfold first_one.j1
   repeat' (with_reducible first | exact ih0 _ _ _ _ _ _ _ _ _ _ _ _ | exact ih1 _ _ _ _ _ _ _ _ _ _ _ _ _ _ _ | exact ih2 _ _ _ _ _ _ _ _ _ _ _ _ _ _ _ | exact span_Make.mono _ _ _ _ _ _ _ | exact span_Trim.mono _ _ _ _ _ | exact LeO.refl _ | exact LeO.none _ | refine LeO.ite ?_ ?_ | refine LeO.bind ?_ (fun _ => ?_))
theorem first_one.mono : ∀ a0 a1 a2 a3 a4 a5 a6 a7 a8 a9 k, LeO (first_one.f k a0 a1 a2 a3 a4 a5 a6 a7 a8 a9) (first_one.f (k + 1) a0 a1 a2 a3 a4 a5 a6 a7 a8 a9) := by
 intro a0 a1 a2 a3 a4 a5 a6 a7 a8 a9 k
 obtain ⟨ih0, ih1, ih2⟩ := first_one.mono_l k; unfold first_one.f
 repeat' (with_reducible first | exact ih0 _ _ _ _ _ _ _ _ _ _ _ _ | exact ih1 _ _ _ _ _ _ _ _ _ _ _ _ _ _ _ | exact ih2 _ _ _ _ _ _ _ _ _ _ _ _ _ _ _ | exact span_Make.mono _ _ _ _ _ _ _ | exact span_Trim.mono _ _ _ _ _ | exact LeO.refl _ | exact LeO.none _ | refine LeO.ite ?_ ?_ | refine LeO.bind ?_ (fun _ => ?_))
def first_one.T16 : Bool × List (List Nat × List Nat) := (true, [([], []), ([], []), ([], []), ([], []), ([3], [3]), ([], []), ([4, 5], [4, 5]), ([6], [6]), ([], []), ([8], [8]), ([0, 1, 2, 7, 9], [0, 1, 2, 7, 9]), ([10, 10, 0, 1, 2, 3, 4, 5, 6, 7, 8, 9, 10], [10])])
def first_one.B16 : List Nat := [0, 0, 0, 0, 8, 0, 56, 120, 0, 256, 1023, 2047]
theorem first_one.tab16 : rtab .any (opsOf Try.f29 16) = first_one.T16 := by kernel_rfl
theorem first_one.bits16 : waitsOk first_one.T16.2 first_one.B16 = true := by kernel_rfl
set_option maxHeartbeats 8000000 in
set_option maxRecDepth 100000 in
theorem first_one.calls (k : Nat) (A0_0 : Option Addr) (c0_0 : Nat) (l0_0 : List (S61)) (A0_1 : Option Addr) (c0_1 : Nat) (l0_1 : List Int) (a1 : Int) (a2 : Int) (a3_0 : Int) (a3_1 : Int) (a3_2 : Int) (a3_3 : Int) (a3_4 : Int) (a3_5 : Nat) (r1 : Int) (r2 : Int) (r3 : Int) (r4 : Int) (w : World) (hr0_0 : Kd.C k61 w A0_0 l0_0.length l0_0) (hc0_0 : l0_0.length ≤ c0_0) (hr0_1 : Kd.C (Kd.int .u8) w A0_1 l0_1.length l0_1) (hc0_1 : l0_1.length ≤ c0_1) (h : first_one.f k l0_0 l0_1 a1 a2 a3_0 a3_1 a3_2 a3_3 a3_4 a3_5 = some (r1, r2, r3, r4)) :
  Calls Try.prog 29 #[.agg #[.slice A0_0 l0_0.length c0_0, .slice A0_1 l0_1.length c0_1], .int .i64 a1, .int .i64 a2, .agg #[.int .i64 a3_0, .int .i64 a3_1, .int .u8 a3_2, .int .i64 a3_3, .int .i64 a3_4, .float .f64 a3_5]] w fun e w' => e = .returned (.agg #[.int .i64 r1, .int .i64 r2, .int .i64 r3, .int .u8 r4]) ∧ Below w.heap.size w w' := by
 have hu31 := Try.underlying31; have hu35 := Try.underlying35; have hu45 := Try.underlying45; have hu61 := Try.underlying61; have HR0_0 := zA.mk hr0_0; have HC0_0 := zA.mk hc0_0; clear hr0_0 hc0_0; have HR0_1 := zA.mk hr0_1; have HC0_1 := zA.mk hc0_1; clear hr0_1 hc0_1; have HB := zA.mk (Below.refl w.heap.size w); have H : (first_one.l0 k a1 a2 (-1) (wrap64 (a1 + 1)) 0 0 (wrap64 (a1 + 1)) l0_0 l0_1 a3_0 a3_1 a3_2 a3_3 a3_4 a3_5) = some (r1, r2, r3, r4) := h
 clear h; have HC5 := zA.mk H; clear H; go_enter Try.func29, Try.ntmps29
 go_upto_block 0 with (first | ((with_reducible refine gate_dst (N := 4) rfl ?_); refine box_event ?hg (N := 4) ?hd (cs := #[.slice A0_0 l0_0.length c0_0, .slice A0_1 l0_1.length c0_1]) (t := 31) ?hr ?_; (case hd => rfl); (case hg => rfl); (case hr => first | (go_simp; done) | (go_simp; rfl)); intro gb128 hg w6 hbox hb; have BK128 := zA.mk (hbox); have GW128 := zA.mk ((by rw [hg]; exact (below_size (aL HB)) : w.heap.size ≤ gb128)); replace HB := zA.mk (below_step (aL HB) hb); have GE128 := GW128; clear hb hbox hg) | ((with_reducible refine gate_dst (N := 7) rfl ?_); refine box_event ?hg (N := 7) ?hd (cs := #[.int .i64 a3_0, .int .i64 a3_1, .int .u8 a3_2, .int .i64 a3_3, .int .i64 a3_4, .float .f64 a3_5]) (t := 35) ?hr ?_; (case hd => rfl); (case hg => rfl); (case hr => first | (go_simp; done) | (go_simp; rfl)); intro gb129 hg w7 hbox hb; have BK129 := zA.mk (hbox); have GW129 := zA.mk ((by rw [hg]; exact (below_size (aL HB)) : w.heap.size ≤ gb129)); replace HB := zA.mk (below_step (aL HB) hb); have GE129 := GW129; have NB128_129 := zA.mk ((by rw [hg]; exact Nat.ne_of_lt (blk_lt (aB BK128)) : gb128 ≠ gb129)); have NB129_128 := zA.mk ((by rw [hg]; exact Nat.ne_of_gt (blk_lt (g := gb128) (o := .cells #[.slice A0_0 l0_0.length c0_0, .slice A0_1 l0_1.length c0_1] 31 (0, 0)) (aB BK128)) : gb129 ≠ gb128)); replace BK128 := zA.mk (blk_below (aB BK128) hb); clear hb hbox hg) | ((with_reducible refine gate_dst (N := 8) rfl ?_); refine box_event ?hg (N := 8) ?hd (cs := #[.int .i64 0, .int .i64 0, .int .i64 0, .int .u8 0]) (t := 45) ?hr ?_; (case hd => rfl); (case hg => rfl); (case hr => first | (go_simp; done) | (go_simp; rfl)); intro gb130 hg w8 hbox hb; have BK130 := zA.mk (hbox); have GW130 := zA.mk ((by rw [hg]; exact (below_size (aL HB)) : w.heap.size ≤ gb130)); replace HB := zA.mk (below_step (aL HB) hb); have GE130 := GW130; have NB128_130 := zA.mk ((by rw [hg]; exact Nat.ne_of_lt (blk_lt (aB BK128)) : gb128 ≠ gb130)); have NB130_128 := zA.mk ((by rw [hg]; exact Nat.ne_of_gt (blk_lt (g := gb128) (o := .cells #[.slice A0_0 l0_0.length c0_0, .slice A0_1 l0_1.length c0_1] 31 (0, 0)) (aB BK128)) : gb130 ≠ gb128)); replace BK128 := zA.mk (blk_below (aB BK128) hb); have NB129_130 := zA.mk ((by rw [hg]; exact Nat.ne_of_lt (blk_lt (aB BK129)) : gb129 ≠ gb130)); have NB130_129 := zA.mk ((by rw [hg]; exact Nat.ne_of_gt (blk_lt (g := gb129) (o := .cells #[.int .i64 a3_0, .int .i64 a3_1, .int .u8 a3_2, .int .i64 a3_3, .int .i64 a3_4, .float .f64 a3_5] 35 (0, 0)) (aB BK129)) : gb130 ≠ gb129)); replace BK129 := zA.mk (blk_below (aB BK129) hb); clear hb hbox hg))
 (try simp only [Act.put, sA_, sB_, sC_])
 go_cut [9, 10] (fun v9 v10 wc => ∃ (kq : Nat) (x9_4 : Int) (x10_4 : Int), v9 = .int .i64 x9_4 ∧ v10 = .int .i64 x10_4 ∧ zA (first_one.j2 kq a1 a2 x9_4 x10_4 l0_0 l0_1 a3_0 a3_1 a3_2 a3_3 a3_4 a3_5 = some (r1, r2, r3, r4)) ∧ zA (kq ≤ k) ∧ zA (wc.heap[gb128]? = some (.cells #[(.slice A0_0 l0_0.length c0_0), (.slice A0_1 l0_1.length c0_1)] 31 (0, 0))) ∧ zA (wc.heap[gb129]? = some (.cells #[.int .i64 a3_0, .int .i64 a3_1, .int .u8 a3_2, .int .i64 a3_3, .int .i64 a3_4, .float .f64 a3_5] 35 (0, 0))) ∧ zA (wc.heap[gb130]? = some (.cells #[.int .i64 0, .int .i64 0, .int .i64 0, .int .u8 0] 45 (0, 0))) ∧ zA (Below w.heap.size w wc))
 case first =>
  have H := HC5.out; clear HC5; have H' := zA.mk H
  clear H; go_wp2
  go_loopg [9, 10, 11, 12, 13] k (fun kq v9 v10 v11 v12 v13 w' => ∃ (x9_1 : Int) (x10_1 : Int) (x11_1 : Int) (x12_1 : Int) (x13_1 : Int), v9 = .int .i64 x9_1 ∧ v10 = .int .i64 x10_1 ∧ v11 = .int .i64 x11_1 ∧ v12 = .int .i64 x12_1 ∧ v13 = .int .i64 x13_1 ∧ zA (first_one.l0 kq a1 a2 x9_1 x10_1 x11_1 x12_1 x13_1 l0_0 l0_1 a3_0 a3_1 a3_2 a3_3 a3_4 a3_5 = some (r1, r2, r3, r4)) ∧ zA (kq ≤ k) ∧ zA (w'.heap[gb128]? = some (.cells #[(.slice A0_0 l0_0.length c0_0), (.slice A0_1 l0_1.length c0_1)] 31 (0, 0))) ∧ zA (w'.heap[gb129]? = some (.cells #[.int .i64 a3_0, .int .i64 a3_1, .int .u8 a3_2, .int .i64 a3_3, .int .i64 a3_4, .float .f64 a3_5] 35 (0, 0))) ∧ zA (w'.heap[gb130]? = some (.cells #[.int .i64 0, .int .i64 0, .int .i64 0, .int .u8 0] 45 (0, 0))) ∧ zA (Below w.heap.size w w'))
  case atStart => exact ⟨((-1)), (wrap64 (a1 + 1)), (0), (0), (wrap64 (a1 + 1)), aZ, aZ, aZ, aZ, aZ, H', ⟨Nat.le_refl _⟩, ⟨aB BK128⟩, ⟨aB BK129⟩, ⟨aB BK130⟩, ⟨aL HB⟩⟩
  clear H'; obtain ⟨x9_1, x10_1, x11_1, x12_1, x13_1, rfl, rfl, rfl, rfl, rfl, HA, HK1, BK128, BK129, BK130, HB⟩ := hrel; cases gk with
  | zero => exact absurd HA.out (by simp [first_one.l0])
  | succ k1 =>
   have H := HA.out; clear HA; simp only [first_one.l0] at H; by_cases c9 : x13_1 ≤ a2
   rotate_left
   ·rw [if_neg c9] at H
    have c9b0 : decide (x13_1 ≤ a2) = false := decide_eq_false c9
    clear c9; (first | rw [c9b0] | (simp only [i64_w, i32_w]; rw [c9b0]) | skip)
    have H' := zA.mk H
    clear H; go_wp2
    go_meet
    case rel => exact ⟨_, (x9_1), (x10_1), aZ, aZ, H', ⟨by have := HK1.out; first | omega | exact Nat.le_refl _⟩, ⟨aB BK128⟩, ⟨aB BK129⟩, ⟨aB BK130⟩, ⟨aL HB⟩⟩
   rw [if_pos c9] at H; have c9b0 : decide (x13_1 ≤ a2) = true := decide_eq_true c9
   clear c9; (first | rw [c9b0] | (simp only [i64_w, i32_w]; rw [c9b0]) | skip)
   obtain ⟨ji10, hji10⟩ : ∃ j_ : Int, (wrap64 (x13_1 - 1)) = j_ := ⟨_, rfl⟩; replace H : (if 0 ≤ (ji10) then (if (ji10) < (l0_0.length : Int) then ((span_Next.f ((rd_T61 l0_0 (ji10)).f0) ((rd_T61 l0_0 (ji10)).f1) ((rd_T61 l0_0 (ji10)).f2) ((rd_T61 l0_0 (ji10)).f3) x11_1 a3_1).bind fun t133 => ((span_Trim.f k1 l0_0 l0_1 (ji10) x13_1).bind fun t134 => (if t134 = x13_1 then (first_one.j1 k1 a1 a2 x9_1 x10_1 t133 t133 x13_1 l0_0 l0_1 a3_0 a3_1 a3_2 a3_3 a3_4 a3_5) else (first_one.j1 k1 a1 a2 x9_1 x10_1 t133 x12_1 x13_1 l0_0 l0_1 a3_0 a3_1 a3_2 a3_3 a3_4 a3_5)))) else (none)) else (none)) = some (r1, r2, r3, r4) := by first | (rw [hji10] at H; exact H) | (simp only [hji10] at H ⊢; exact H)
   have hji10w : (IntKind.i64.wrap (x13_1 - 1)) = ji10 := (i64_w _).trans hji10
   by_cases c11 : 0 ≤ (ji10)
   rotate_left
   ·rw [if_neg c11] at H
    exact absurd H (by simp)
   rw [if_pos c11] at H; have c11b0 : decide (0 ≤ (ji10)) = true := decide_eq_true c11
   clear c11; by_cases c12 : (ji10) < (l0_0.length : Int)
   rotate_left
   ·rw [if_neg c12] at H
    exact absurd H (by simp)
   rw [if_pos c12] at H; have c12b0 : decide ((ji10) < (l0_0.length : Int)) = true := decide_eq_true c12
   clear c12; replace H := Option.bind_eq_some_iff.mp H; obtain ⟨t133, A130, H⟩ := H; replace H : ((span_Trim.f k1 l0_0 l0_1 (ji10) x13_1).bind fun t134 => (if t134 = x13_1 then (first_one.j1 k1 a1 a2 x9_1 x10_1 t133 t133 x13_1 l0_0 l0_1 a3_0 a3_1 a3_2 a3_3 a3_4 a3_5) else (first_one.j1 k1 a1 a2 x9_1 x10_1 t133 x12_1 x13_1 l0_0 l0_1 a3_0 a3_1 a3_2 a3_3 a3_4 a3_5))) = some (r1, r2, r3, r4) := H
   have A13 := zA.mk A130; clear A130; replace H := Option.bind_eq_some_iff.mp H; obtain ⟨t134, A140, H⟩ := H; replace H : (if t134 = x13_1 then (first_one.j1 k1 a1 a2 x9_1 x10_1 t133 t133 x13_1 l0_0 l0_1 a3_0 a3_1 a3_2 a3_3 a3_4 a3_5) else (first_one.j1 k1 a1 a2 x9_1 x10_1 t133 x12_1 x13_1 l0_0 l0_1 a3_0 a3_1 a3_2 a3_3 a3_4 a3_5)) = some (r1, r2, r3, r4) := H; have A14 := zA.mk A140; clear A140; have HC15 := zA.mk H; clear H; have hnb16 := NB128_129.out; have hnc16 := NB129_128.out; have hnb17 := NB128_130.out; have hnc17 := NB130_128.out; obtain ⟨hcz18_0, hcz18_1, hfz18_0, hfz18_1⟩ := aC2 BK128; have p131 : 0 ≤ ((ji10) : Int) := aD
   have q131 : (ji10) < (l0_0.length : Int) := aD
   obtain ⟨ad131, e131, hx131_0, hx131_1, hx131_2, hx131_3⟩ := at_T61 HR0_0.out (ji10) p131 q131; cases e131
   replace hx131_0 := (HB.out.cell (World.block_lt_of_cell? w _ hx131_0)).trans hx131_0; replace hx131_1 := (HB.out.cell (World.block_lt_of_cell? w _ hx131_1)).trans hx131_1; replace hx131_2 := (HB.out.cell (World.block_lt_of_cell? w _ hx131_2)).trans hx131_2; replace hx131_3 := (HB.out.cell (World.block_lt_of_cell? w _ hx131_3)).trans hx131_3; replace p131 := eq_true p131; replace q131 := eq_true q131; go_upto_if 44 with (first | ((with_reducible refine gate_dst (N := 14) rfl ?_); refine box_event ?hg (N := 14) ?hd (cs := #[.int .i64 0, .int .i64 0, .int .i64 0, .int .u8 0]) (t := 61) ?hr ?_; (case hd => rfl); (case hg => rfl); (case hr => first | (go_simp; done) | (go_simp; rfl)); intro gb132 hg w19 hbox hb; have BK132 := zA.mk (hbox); have GW132 := zA.mk ((by rw [hg]; exact (below_size (aL HB)) : w.heap.size ≤ gb132)); replace HB := zA.mk (below_step (aL HB) hb); have GE132 := GW132; have NB128_132 := zA.mk ((by rw [hg]; exact Nat.ne_of_lt (blk_lt (aB BK128)) : gb128 ≠ gb132)); have NB132_128 := zA.mk ((by rw [hg]; exact Nat.ne_of_gt (blk_lt (g := gb128) (o := .cells #[.slice (some ad131) l0_0.length c0_0, .slice A0_1 l0_1.length c0_1] 31 (0, 0)) (aB BK128)) : gb132 ≠ gb128)); replace BK128 := zA.mk (blk_below (aB BK128) hb); have NB129_132 := zA.mk ((by rw [hg]; exact Nat.ne_of_lt (blk_lt (aB BK129)) : gb129 ≠ gb132)); have NB132_129 := zA.mk ((by rw [hg]; exact Nat.ne_of_gt (blk_lt (g := gb129) (o := .cells #[.int .i64 a3_0, .int .i64 a3_1, .int .u8 a3_2, .int .i64 a3_3, .int .i64 a3_4, .float .f64 a3_5] 35 (0, 0)) (aB BK129)) : gb132 ≠ gb129)); replace BK129 := zA.mk (blk_below (aB BK129) hb); have NB130_132 := zA.mk ((by rw [hg]; exact Nat.ne_of_lt (blk_lt (aB BK130)) : gb130 ≠ gb132)); have NB132_130 := zA.mk ((by rw [hg]; exact Nat.ne_of_gt (blk_lt (g := gb130) (o := .cells #[.int .i64 0, .int .i64 0, .int .i64 0, .int .u8 0] 45 (0, 0)) (aB BK130)) : gb132 ≠ gb130)); replace BK130 := zA.mk (blk_below (aB BK130) hb); clear hb hbox hg; have hnb20 := NB132_128.out; have hnc20 := NB128_132.out; have hnb21 := NB132_129.out; have hnc21 := NB129_132.out; have hnb22 := NB132_130.out; have hnc22 := NB130_132.out; obtain ⟨hcz23_0, hcz23_1, hcz23_2, hcz23_3, hfz23_0, hfz23_1, hfz23_2, hfz23_3⟩ := aC4 BK132) | ((with_reducible refine gate_store (t := 61) (p := 14) rfl ?_); refine store_event (t := 61) (p := 14) (v := ?vo_w24) (w1 := ((((w19.setCell ⟨gb132, 0, none⟩ (.int .i64 ((rd_T61 l0_0 (ji10)).f0))).setCell ⟨gb132, 1, none⟩ (.int .i64 ((rd_T61 l0_0 (ji10)).f1))).setCell ⟨gb132, 2, none⟩ (.int .i64 ((rd_T61 l0_0 (ji10)).f2))).setCell ⟨gb132, 3, none⟩ (.int .u8 ((rd_T61 l0_0 (ji10)).f3)))) ?hg ?ho ?hn ?hr ?_; (case ho => rfl); (case hg => rfl); (case hn => rfl); (case hr => first | (go_simp; done) | (go_simp; rfl)); intro w24 hw; have n0_ : zA (w24.heap[gb128]? = some (.cells #[.slice (some ad131) l0_0.length c0_0, .slice A0_1 l0_1.length c0_1] 31 (0, 0))) := ⟨(by rw [hw]; exact (aB BK128))⟩; have n1_ : zA (w24.heap[gb129]? = some (.cells #[.int .i64 a3_0, .int .i64 a3_1, .int .u8 a3_2, .int .i64 a3_3, .int .i64 a3_4, .float .f64 a3_5] 35 (0, 0))) := ⟨(by rw [hw]; exact (aB BK129))⟩; have n2_ : zA (w24.heap[gb130]? = some (.cells #[.int .i64 0, .int .i64 0, .int .i64 0, .int .u8 0] 45 (0, 0))) := ⟨(by rw [hw]; exact (aB BK130))⟩; have n3_ : zA (w24.heap[gb132]? = some (.cells #[.int .i64 ((rd_T61 l0_0 (ji10)).f0), .int .i64 ((rd_T61 l0_0 (ji10)).f1), .int .i64 ((rd_T61 l0_0 (ji10)).f2), .int .u8 ((rd_T61 l0_0 (ji10)).f3)] 61 (0, 0))) := ⟨(by rw [hw]; exact (by (with_reducible repeat (first | refine zB ?_ _ | refine zD ?_ | refine zC ?_ _)); refine blk_put (cs := #[.int .i64 ((rd_T61 l0_0 (ji10)).f0), .int .i64 ((rd_T61 l0_0 (ji10)).f1), .int .i64 ((rd_T61 l0_0 (ji10)).f2), .int .u8 0]) ?_ 3 _ rfl; (with_reducible repeat (first | refine zB ?_ _ | refine zD ?_ | refine zC ?_ _)); refine blk_put (cs := #[.int .i64 ((rd_T61 l0_0 (ji10)).f0), .int .i64 ((rd_T61 l0_0 (ji10)).f1), .int .i64 0, .int .u8 0]) ?_ 2 _ rfl; (with_reducible repeat (first | refine zB ?_ _ | refine zD ?_ | refine zC ?_ _)); refine blk_put (cs := #[.int .i64 ((rd_T61 l0_0 (ji10)).f0), .int .i64 0, .int .i64 0, .int .u8 0]) ?_ 1 _ rfl; (with_reducible repeat (first | refine zB ?_ _ | refine zD ?_ | refine zC ?_ _)); refine blk_put (cs := #[.int .i64 0, .int .i64 0, .int .i64 0, .int .u8 0]) ?_ 0 _ rfl; (with_reducible repeat (first | refine zB ?_ _ | refine zD ?_ | refine zC ?_ _)); exact BK132.out))⟩; have n4_ : zA (Below w.heap.size w w24) := ⟨(by rw [hw]; exact (aL HB))⟩; clear hw; clear BK128; clear BK129; clear BK130; clear BK132; clear HB; have BK128 := n0_; have BK129 := n1_; have BK130 := n2_; have BK132 := n3_; have HB := n4_; clear n0_ n1_ n2_ n3_ n4_; obtain ⟨hcz25_0, hcz25_1, hcz25_2, hcz25_3, hfz25_0, hfz25_1, hfz25_2, hfz25_3⟩ := aC4 BK132; have hnb26 := NB129_130.out; have hnc26 := NB130_129.out; obtain ⟨hcz27_0, hcz27_1, hcz27_2, hcz27_3, hcz27_4, hcz27_5, hfz27_0, hfz27_1, hfz27_2, hfz27_3, hfz27_4, hfz27_5⟩ := aC6 BK129) | ((with_reducible refine gate_callee (f := 40) rfl ?_); refine goesL_ (some 37) rfl rfl Try.func40 (by kernel_rfl) rfl #[.agg #[.int .i64 ((rd_T61 l0_0 (ji10)).f0), .int .i64 ((rd_T61 l0_0 (ji10)).f1), .int .i64 ((rd_T61 l0_0 (ji10)).f2), .int .u8 ((rd_T61 l0_0 (ji10)).f3)], .int .i64 x11_1, .int .i64 a3_1] rfl (by (try simp only [List.map_toArray, List.map_cons, List.map_nil]); first | done | (simp only [hji10]; rfl) | rfl | (simp only [List.length_drop, List.length_take]; rfl)) ?_; (with_reducible refine (span_Next.calls ((rd_T61 l0_0 (ji10)).f0) ((rd_T61 l0_0 (ji10)).f1) ((rd_T61 l0_0 (ji10)).f2) ((rd_T61 l0_0 (ji10)).f3) x11_1 a3_1 t133 _ A13.out).mono ?_); rintro e w28 ⟨rfl, hb⟩; refine ⟨_, rfl, ?_⟩; replace BK128 := zA.mk (blk_below (aB BK128) hb); replace BK129 := zA.mk (blk_below (aB BK129) hb); replace BK130 := zA.mk (blk_below (aB BK130) hb); replace BK132 := zA.mk (blk_below (aB BK132) hb); replace HB := zA.mk (below_step (aL HB) hb); (try clear hb); (try clear hb2); (try clear hk); (try clear hi); obtain ⟨hcz29_0, hcz29_1, hfz29_0, hfz29_1⟩ := aC2 BK128) | ((with_reducible refine gate_callee (f := 19) rfl ?_); refine goesL_ (some 42) rfl rfl Try.func19 (by kernel_rfl) rfl #[.agg #[.slice (some ad131) l0_0.length c0_0, .slice A0_1 l0_1.length c0_1], .int .i64 ji10, .int .i64 x13_1] rfl (by (try simp only [List.map_toArray, List.map_cons, List.map_nil]); first | done | (simp only [hji10]; rfl) | rfl | (simp only [List.length_drop, List.length_take]; rfl)) ?_; (with_reducible refine (span_Trim.calls k1 _ _ l0_0 _ _ l0_1 ji10 x13_1 t134 _ ?side1 ?side2 ?side3 ?side4 A14.out).mono ?_); (case side1 => exact aA HR0_0 HB); (case side2 => exact HC0_0.out); (case side3 => exact aA HR0_1 HB); (case side4 => exact HC0_1.out); rintro e w30 ⟨rfl, hb⟩; refine ⟨_, rfl, ?_⟩; replace BK128 := zA.mk (blk_below (aB BK128) hb); replace BK129 := zA.mk (blk_below (aB BK129) hb); replace BK130 := zA.mk (blk_below (aB BK130) hb); replace BK132 := zA.mk (blk_below (aB BK132) hb); replace HB := zA.mk (below_step (aL HB) hb); (try clear hb); (try clear hb2); (try clear hk); (try clear hi)))
   (try simp only [Act.put, sA_, sB_, sC_])
   go_cut [12] (fun v12 wc => ∃ (kq : Nat) (x12_14 : Int), v12 = .int .i64 x12_14 ∧ zA (first_one.j1 kq a1 a2 x9_1 x10_1 t133 x12_14 x13_1 l0_0 l0_1 a3_0 a3_1 a3_2 a3_3 a3_4 a3_5 = some (r1, r2, r3, r4)) ∧ zA (kq ≤ k1) ∧ zA (wc.heap[gb128]? = some (.cells #[(.slice (some ad131) l0_0.length c0_0), (.slice A0_1 l0_1.length c0_1)] 31 (0, 0))) ∧ zA (wc.heap[gb129]? = some (.cells #[.int .i64 a3_0, .int .i64 a3_1, .int .u8 a3_2, .int .i64 a3_3, .int .i64 a3_4, .float .f64 a3_5] 35 (0, 0))) ∧ zA (wc.heap[gb130]? = some (.cells #[.int .i64 0, .int .i64 0, .int .i64 0, .int .u8 0] 45 (0, 0))) ∧ zA (wc.heap[gb132]? = some (.cells #[.int .i64 ((rd_T61 l0_0 (ji10)).f0), .int .i64 ((rd_T61 l0_0 (ji10)).f1), .int .i64 ((rd_T61 l0_0 (ji10)).f2), .int .u8 ((rd_T61 l0_0 (ji10)).f3)] 61 (0, 0))) ∧ zA (Below w.heap.size w wc))
   case first =>
    have H := HC15.out; clear HC15; by_cases c31 : t134 = x13_1
    ·rw [if_pos c31] at H
     have c31b0 : (t134 == x13_1) = true := beq_iff_eq.mpr c31
     have c31b1 : (t134 != x13_1) = false := bne_eq_false_iff_eq.mpr c31
     clear c31; (first | rw [c31b0] | (simp only [i64_w, i32_w]; rw [c31b0]) | skip)
     have H' := zA.mk H
     clear H; go_wp2
     go_meet
     case rel => exact ⟨_, (t133), aZ, H', ⟨by have := HK1.out; first | omega | exact Nat.le_refl _⟩, ⟨aB BK128⟩, ⟨aB BK129⟩, ⟨aB BK130⟩, ⟨aB BK132⟩, ⟨aL HB⟩⟩
    rw [if_neg c31] at H; have c31b0 : (t134 == x13_1) = false := beq_eq_false_iff_ne.mpr c31
    have c31b1 : (t134 != x13_1) = true := bne_iff_ne.mpr c31
    (first | rw [c31b0] | (simp only [i64_w, i32_w]; rw [c31b0]) | skip)
    have H' := zA.mk H
    clear H; go_wp2
    go_meet
    case rel => exact ⟨_, (x12_1), aZ, H', ⟨by have := HK1.out; first | omega | exact Nat.le_refl _⟩, ⟨aB BK128⟩, ⟨aB BK129⟩, ⟨aB BK130⟩, ⟨aB BK132⟩, ⟨aL HB⟩⟩
   clear HC15; obtain ⟨kq, x12_14, rfl, HA, HJ14, BK128, BK129, BK130, BK132, HB⟩ := hcut; cases kq with
   | zero => exact absurd HA.out (by simp [first_one.j1])
   | succ kj14 =>
    have H := HA.out; clear HA; simp only [first_one.j1] at H; by_cases c32 : x12_14 > a3_0
    ·rw [if_pos c32] at H
     have c32b0 : decide (a3_0 < x12_14) = true := decide_eq_true c32
     clear c32; have H' := zA.mk H
     clear H; have hnb33 := NB129_128.out; have hnc33 := NB128_129.out; have hnb34 := NB129_130.out; have hnc34 := NB130_129.out; have hnb35 := NB129_132.out; have hnc35 := NB132_129.out; obtain ⟨hcz36_0, hcz36_1, hcz36_2, hcz36_3, hcz36_4, hcz36_5, hfz36_0, hfz36_1, hfz36_2, hfz36_3, hfz36_4, hfz36_5⟩ := aC6 BK129; go_wp2
     go_meet
     case rel => exact ⟨_, (x9_1), (x10_1), aZ, aZ, H', ⟨by have := HK1.out; have := HJ14.out; first | omega | exact Nat.le_refl _⟩, ⟨aB BK128⟩, ⟨aB BK129⟩, ⟨aB BK130⟩, ⟨aL HB⟩⟩
    rw [if_neg c32] at H; have c32b0 : decide (a3_0 < x12_14) = false := decide_eq_false c32
    clear c32; replace H := Option.bind_eq_some_iff.mp H; obtain ⟨⟨t135, t136⟩, A370, H⟩ := H; replace H : (if t136 = true then (if t135 = 3 then (if x12_14 < a3_0 then (first_one.l0 kj14 a1 a2 x13_1 x13_1 t133 x12_14 (wrap64 (x13_1 + 1)) l0_0 l0_1 a3_0 a3_1 a3_2 a3_3 a3_4 a3_5) else (first_one.l0 kj14 a1 a2 x9_1 x13_1 t133 x12_14 (wrap64 (x13_1 + 1)) l0_0 l0_1 a3_0 a3_1 a3_2 a3_3 a3_4 a3_5)) else (first_one.l0 kj14 a1 a2 x13_1 x13_1 t133 x12_14 (wrap64 (x13_1 + 1)) l0_0 l0_1 a3_0 a3_1 a3_2 a3_3 a3_4 a3_5)) else (first_one.l0 kj14 a1 a2 x9_1 x13_1 t133 x12_14 (wrap64 (x13_1 + 1)) l0_0 l0_1 a3_0 a3_1 a3_2 a3_3 a3_4 a3_5)) = some (r1, r2, r3, r4) := H; have A37 := zA.mk A370; clear A370; by_cases c38 : t136 = true
    rotate_left
    ·replace c38 := Bool.eq_false_iff.mpr c38
     subst c38; have H1 : (first_one.l0 kj14 a1 a2 x9_1 x13_1 t133 x12_14 (wrap64 (x13_1 + 1)) l0_0 l0_1 a3_0 a3_1 a3_2 a3_3 a3_4 a3_5) = some (r1, r2, r3, r4) := by rw [if_neg (show ¬ (false = true) by decide)] at H; exact H
     clear H; have H := H1; clear H1; have H' := zA.mk H
     clear H; have hnb67 := NB129_128.out; have hnc67 := NB128_129.out; have hnb68 := NB129_130.out; have hnc68 := NB130_129.out; have hnb69 := NB129_132.out; have hnc69 := NB132_129.out; obtain ⟨hcz70_0, hcz70_1, hcz70_2, hcz70_3, hcz70_4, hcz70_5, hfz70_0, hfz70_1, hfz70_2, hfz70_3, hfz70_4, hfz70_5⟩ := aC6 BK129; have hnb71 := NB128_130.out; have hnc71 := NB130_128.out; have hnb72 := NB128_132.out; have hnc72 := NB132_128.out; obtain ⟨hcz73_0, hcz73_1, hfz73_0, hfz73_1⟩ := aC2 BK128; go_wp2_with (first | ((with_reducible refine gate_callee (f := 41) rfl ?_); refine goesL_ (some 54) rfl rfl Try.func41 (by kernel_rfl) rfl #[.agg #[.slice (some ad131) l0_0.length c0_0, .slice A0_1 l0_1.length c0_1], .int .i64 x13_1] rfl aT ?_; (with_reducible refine (span_Ends.calls _ _ l0_0 _ _ l0_1 x13_1 t135 false _ ?side1 ?side2 ?side3 ?side4 A37.out).mono ?_); (case side1 => exact aA HR0_0 HB); (case side2 => exact HC0_0.out); (case side3 => exact aA HR0_1 HB); (case side4 => exact HC0_1.out); rintro e w74 ⟨rfl, hb⟩; refine ⟨_, rfl, ?_⟩; replace BK128 := zA.mk (blk_below (aB BK128) hb); replace BK129 := zA.mk (blk_below (aB BK129) hb); replace BK130 := zA.mk (blk_below (aB BK130) hb); replace BK132 := zA.mk (blk_below (aB BK132) hb); replace HB := zA.mk (below_step (aL HB) hb); (try clear hb); (try clear hb2); (try clear hk); (try clear hi)))
     go_roundg kj14
     case measure => have := HK1.out; have := HJ14.out; omega
     case rel => exact ⟨(x9_1), (x13_1), (t133), (x12_14), (wrap64 (x13_1 + 1)), aZ, aZ, aZ, aZ, aZ, H', ⟨by have := HK1.out; have := HJ14.out; omega⟩, ⟨aB BK128⟩, ⟨aB BK129⟩, ⟨aB BK130⟩, ⟨aL HB⟩⟩
    subst c38; have H1 : (if t135 = 3 then (if x12_14 < a3_0 then (first_one.l0 kj14 a1 a2 x13_1 x13_1 t133 x12_14 (wrap64 (x13_1 + 1)) l0_0 l0_1 a3_0 a3_1 a3_2 a3_3 a3_4 a3_5) else (first_one.l0 kj14 a1 a2 x9_1 x13_1 t133 x12_14 (wrap64 (x13_1 + 1)) l0_0 l0_1 a3_0 a3_1 a3_2 a3_3 a3_4 a3_5)) else (first_one.l0 kj14 a1 a2 x13_1 x13_1 t133 x12_14 (wrap64 (x13_1 + 1)) l0_0 l0_1 a3_0 a3_1 a3_2 a3_3 a3_4 a3_5)) = some (r1, r2, r3, r4) := by rw [if_pos rfl] at H; exact H
    clear H; have H := H1; clear H1; by_cases c39 : t135 = 3
    rotate_left
    ·rw [if_neg c39] at H
     have c39b0 : (t135 == 3) = false := beq_eq_false_iff_ne.mpr c39
     have c39b1 : (t135 != 3) = true := bne_iff_ne.mpr c39
     have H' := zA.mk H
     clear H; have hnb59 := NB129_128.out; have hnc59 := NB128_129.out; have hnb60 := NB129_130.out; have hnc60 := NB130_129.out; have hnb61 := NB129_132.out; have hnc61 := NB132_129.out; obtain ⟨hcz62_0, hcz62_1, hcz62_2, hcz62_3, hcz62_4, hcz62_5, hfz62_0, hfz62_1, hfz62_2, hfz62_3, hfz62_4, hfz62_5⟩ := aC6 BK129; have hnb63 := NB128_130.out; have hnc63 := NB130_128.out; have hnb64 := NB128_132.out; have hnc64 := NB132_128.out; obtain ⟨hcz65_0, hcz65_1, hfz65_0, hfz65_1⟩ := aC2 BK128; go_wp2_with (first | ((with_reducible refine gate_callee (f := 41) rfl ?_); refine goesL_ (some 54) rfl rfl Try.func41 (by kernel_rfl) rfl #[.agg #[.slice (some ad131) l0_0.length c0_0, .slice A0_1 l0_1.length c0_1], .int .i64 x13_1] rfl aT ?_; (with_reducible refine (span_Ends.calls _ _ l0_0 _ _ l0_1 x13_1 t135 true _ ?side1 ?side2 ?side3 ?side4 A37.out).mono ?_); (case side1 => exact aA HR0_0 HB); (case side2 => exact HC0_0.out); (case side3 => exact aA HR0_1 HB); (case side4 => exact HC0_1.out); rintro e w66 ⟨rfl, hb⟩; refine ⟨_, rfl, ?_⟩; replace BK128 := zA.mk (blk_below (aB BK128) hb); replace BK129 := zA.mk (blk_below (aB BK129) hb); replace BK130 := zA.mk (blk_below (aB BK130) hb); replace BK132 := zA.mk (blk_below (aB BK132) hb); replace HB := zA.mk (below_step (aL HB) hb); (try clear hb); (try clear hb2); (try clear hk); (try clear hi)))
     go_roundg kj14
     case measure => have := HK1.out; have := HJ14.out; omega
     case rel => exact ⟨(x13_1), (x13_1), (t133), (x12_14), (wrap64 (x13_1 + 1)), aZ, aZ, aZ, aZ, aZ, H', ⟨by have := HK1.out; have := HJ14.out; omega⟩, ⟨aB BK128⟩, ⟨aB BK129⟩, ⟨aB BK130⟩, ⟨aL HB⟩⟩
    rw [if_pos c39] at H; have c39b0 : (t135 == 3) = true := beq_iff_eq.mpr c39
    have c39b1 : (t135 != 3) = false := bne_eq_false_iff_eq.mpr c39
    clear c39; by_cases c40 : x12_14 < a3_0
    ·rw [if_pos c40] at H
     have c40b0 : decide (x12_14 < a3_0) = true := decide_eq_true c40
     clear c40; have H' := zA.mk H
     clear H; have hnb41 := NB129_128.out; have hnc41 := NB128_129.out; have hnb42 := NB129_130.out; have hnc42 := NB130_129.out; have hnb43 := NB129_132.out; have hnc43 := NB132_129.out; obtain ⟨hcz44_0, hcz44_1, hcz44_2, hcz44_3, hcz44_4, hcz44_5, hfz44_0, hfz44_1, hfz44_2, hfz44_3, hfz44_4, hfz44_5⟩ := aC6 BK129; have hnb45 := NB128_130.out; have hnc45 := NB130_128.out; have hnb46 := NB128_132.out; have hnc46 := NB132_128.out; obtain ⟨hcz47_0, hcz47_1, hfz47_0, hfz47_1⟩ := aC2 BK128; go_wp2_with (first | ((with_reducible refine gate_callee (f := 41) rfl ?_); refine goesL_ (some 54) rfl rfl Try.func41 (by kernel_rfl) rfl #[.agg #[.slice (some ad131) l0_0.length c0_0, .slice A0_1 l0_1.length c0_1], .int .i64 x13_1] rfl aT ?_; (with_reducible refine (span_Ends.calls _ _ l0_0 _ _ l0_1 x13_1 t135 true _ ?side1 ?side2 ?side3 ?side4 A37.out).mono ?_); (case side1 => exact aA HR0_0 HB); (case side2 => exact HC0_0.out); (case side3 => exact aA HR0_1 HB); (case side4 => exact HC0_1.out); rintro e w48 ⟨rfl, hb⟩; refine ⟨_, rfl, ?_⟩; replace BK128 := zA.mk (blk_below (aB BK128) hb); replace BK129 := zA.mk (blk_below (aB BK129) hb); replace BK130 := zA.mk (blk_below (aB BK130) hb); replace BK132 := zA.mk (blk_below (aB BK132) hb); replace HB := zA.mk (below_step (aL HB) hb); (try clear hb); (try clear hb2); (try clear hk); (try clear hi); obtain ⟨hcz49_0, hcz49_1, hcz49_2, hcz49_3, hcz49_4, hcz49_5, hfz49_0, hfz49_1, hfz49_2, hfz49_3, hfz49_4, hfz49_5⟩ := aC6 BK129))
     go_roundg kj14
     case measure => have := HK1.out; have := HJ14.out; omega
     case rel => exact ⟨(x13_1), (x13_1), (t133), (x12_14), (wrap64 (x13_1 + 1)), aZ, aZ, aZ, aZ, aZ, H', ⟨by have := HK1.out; have := HJ14.out; omega⟩, ⟨aB BK128⟩, ⟨aB BK129⟩, ⟨aB BK130⟩, ⟨aL HB⟩⟩
    rw [if_neg c40] at H; have c40b0 : decide (x12_14 < a3_0) = false := decide_eq_false c40
    clear c40; have H' := zA.mk H
    clear H; have hnb50 := NB129_128.out; have hnc50 := NB128_129.out; have hnb51 := NB129_130.out; have hnc51 := NB130_129.out; have hnb52 := NB129_132.out; have hnc52 := NB132_129.out; obtain ⟨hcz53_0, hcz53_1, hcz53_2, hcz53_3, hcz53_4, hcz53_5, hfz53_0, hfz53_1, hfz53_2, hfz53_3, hfz53_4, hfz53_5⟩ := aC6 BK129; have hnb54 := NB128_130.out; have hnc54 := NB130_128.out; have hnb55 := NB128_132.out; have hnc55 := NB132_128.out; obtain ⟨hcz56_0, hcz56_1, hfz56_0, hfz56_1⟩ := aC2 BK128; go_wp2_with (first | ((with_reducible refine gate_callee (f := 41) rfl ?_); refine goesL_ (some 54) rfl rfl Try.func41 (by kernel_rfl) rfl #[.agg #[.slice (some ad131) l0_0.length c0_0, .slice A0_1 l0_1.length c0_1], .int .i64 x13_1] rfl aT ?_; (with_reducible refine (span_Ends.calls _ _ l0_0 _ _ l0_1 x13_1 t135 true _ ?side1 ?side2 ?side3 ?side4 A37.out).mono ?_); (case side1 => exact aA HR0_0 HB); (case side2 => exact HC0_0.out); (case side3 => exact aA HR0_1 HB); (case side4 => exact HC0_1.out); rintro e w57 ⟨rfl, hb⟩; refine ⟨_, rfl, ?_⟩; replace BK128 := zA.mk (blk_below (aB BK128) hb); replace BK129 := zA.mk (blk_below (aB BK129) hb); replace BK130 := zA.mk (blk_below (aB BK130) hb); replace BK132 := zA.mk (blk_below (aB BK132) hb); replace HB := zA.mk (below_step (aL HB) hb); (try clear hb); (try clear hb2); (try clear hk); (try clear hi); obtain ⟨hcz58_0, hcz58_1, hcz58_2, hcz58_3, hcz58_4, hcz58_5, hfz58_0, hfz58_1, hfz58_2, hfz58_3, hfz58_4, hfz58_5⟩ := aC6 BK129))
    go_roundg kj14
    case measure => have := HK1.out; have := HJ14.out; omega
    case rel => exact ⟨(x9_1), (x13_1), (t133), (x12_14), (wrap64 (x13_1 + 1)), aZ, aZ, aZ, aZ, aZ, H', ⟨by have := HK1.out; have := HJ14.out; omega⟩, ⟨aB BK128⟩, ⟨aB BK129⟩, ⟨aB BK130⟩, ⟨aL HB⟩⟩
 clear HC5; obtain ⟨kq, x9_4, x10_4, rfl, rfl, HA, HJ4, BK128, BK129, BK130, HB⟩ := hcut; cases kq with
 | zero => exact absurd HA.out (by simp [first_one.j2])
 | succ kj4 =>
  have H := HA.out; clear HA; simp only [first_one.j2] at H; by_cases c75 : x9_4 ≥ 0
  ·rw [if_pos c75] at H
   have c75b0 : decide (0 ≤ x9_4) = true := decide_eq_true c75
   clear c75; by_cases c76 : 0 ≤ x9_4
   rotate_left
   ·rw [if_neg c76] at H
    exact absurd H (by simp)
   rw [if_pos c76] at H; have c76b0 : decide (0 ≤ x9_4) = true := decide_eq_true c76
   clear c76; by_cases c77 : x9_4 < (l0_1.length : Int)
   rotate_left
   ·rw [if_neg c77] at H
    exact absurd H (by simp)
   rw [if_pos c77] at H; have c77b0 : decide (x9_4 < (l0_1.length : Int)) = true := decide_eq_true c77
   clear c77; replace H := Option.bind_eq_some_iff.mp H; obtain ⟨⟨t138, t139, t140, t141⟩, A780, H⟩ := H; replace H : (some (t138, t139, t140, t141)) = some (r1, r2, r3, r4) := H; have A78 := zA.mk A780; clear A780; simp only [Option.some.injEq, Prod.mk.injEq] at H; obtain ⟨rfl, rfl, rfl, rfl⟩ := H; try go_wp2
   replace BK128 := zA.mk (zD BK128.out); replace BK129 := zA.mk (zD BK129.out); replace BK130 := zA.mk (zD BK130.out); replace HB := zA.mk (below_drew1 HB.out); have p137 : 0 ≤ (x9_4 : Int) := aD
   have q137 : x9_4 < (l0_1.length : Int) := aD
   obtain ⟨ad137, e137, hx137_0⟩ := Kd.at_int HR0_1.out x9_4 p137 q137; have hw137_0 := hx137_0; cases e137
   replace hx137_0 := (HB.out.cell (World.block_lt_of_cell? w _ hx137_0)).trans hx137_0; replace p137 := eq_true p137; replace q137 := eq_true q137; refine start_ (n := 12) (S := fun w' => w'.cell? ⟨gb128, 0, none⟩ = some (.slice A0_0 l0_0.length c0_0) ∧ w'.cell? ⟨gb128, 1, none⟩ = some (.slice (some ad137) l0_1.length c0_1) ∧ w'.cell? ⟨gb129, 0, none⟩ = some (.int .i64 a3_0) ∧ w'.cell? ⟨gb129, 1, none⟩ = some (.int .i64 a3_1) ∧ w'.cell? ⟨gb129, 2, none⟩ = some (.int .u8 a3_2) ∧ w'.cell? ⟨gb129, 3, none⟩ = some (.int .i64 a3_3) ∧ w'.cell? ⟨gb129, 4, none⟩ = some (.int .i64 a3_4) ∧ w'.cell? ⟨gb129, 5, none⟩ = some (.float .f64 a3_5) ∧ w'.cell? (ad137.add (x9_4).toNat) = some (.int .u8 (rd l0_1 x9_4))) (ds := []) #[false, false, false, false, false, false, false, false, false, false, false, false] (by kernel_rfl) rfl rfl ⟨(blk_cell BK128.out 0).trans rfl, (blk_cell BK128.out 1).trans rfl, (blk_cell BK129.out 0).trans rfl, (blk_cell BK129.out 1).trans rfl, (blk_cell BK129.out 2).trans rfl, (blk_cell BK129.out 3).trans rfl, (blk_cell BK129.out 4).trans rfl, (blk_cell BK129.out 5).trans rfl, ((HB.out.cell (World.block_lt_of_cell? w _ hw137_0)).trans hw137_0)⟩ (fun hHeld => ?_); refine with_tabW first_one.tab16 first_one.bits16 (fun HT_ HW_ => ?_)
   generalize wc.drew = w79 at BK128 BK129 BK130 HB hx137_0 hHeld ⊢
   refine aP 1 (some 72) (tb_ 2 12) HT_ ?_
   refine aP 2 (some 73) (tb_ 6 12) HT_ ?_
   refine aP 3 (some 74) (tb_ 14 12) HT_ ?_
   refine aP 5 (some 76) (tb_ 46 12) HT_ ?_
   refine aP 8 (some 79) (tb_ 302 12) HT_ ?_
   refine take_ (i := 0) (N := some 71) (v := ?_) (a' := ?_) (tb_ 303 12) rfl rfl (take_ofW HT_.out HW_.out (by kernel_rfl)) (fun _ _ _ h => h) (Or.inl ⟨by rfl, ?_⟩) hHeld ?_ ?_
   rotate_left
   ·rintro w' ⟨s0, s1, s2, s3, s4, s5, s6, s7, s8⟩
    go_simp
    with_reducible rfl
   rotate_left
   ·simp only [Act.put, sA_, sB_, sC_, i64_w, i32_w]
    rfl
   refine take_ (i := 4) (N := some 75) (v := ?_) (a' := ?_) (tb_ 319 12) rfl rfl (take_ofW HT_.out HW_.out (by kernel_rfl)) (fun _ _ _ h => h) (Or.inl ⟨by rfl, ?_⟩) hHeld ?_ ?_
   rotate_left
   ·rintro w' ⟨s0, s1, s2, s3, s4, s5, s6, s7, s8⟩
    go_simp
    with_reducible rfl
   rotate_left
   ·simp only [Act.put, sA_, sB_, sC_, i64_w, i32_w]
    rfl
   refine aP 6 (some 77) (tb_ 383 12) HT_ ?_
   refine take_ (i := 7) (N := some 78) (v := ?_) (a' := ?_) (tf_ 9 12) rfl rfl (take_ofW HT_.out HW_.out (by kernel_rfl)) (fun _ _ _ h => h) (Or.inl ⟨by rfl, ?_⟩) hHeld ?_ ?_
   rotate_left
   ·rintro w' ⟨s0, s1, s2, s3, s4, s5, s6, s7, s8⟩
    go_simp
    with_reducible rfl
   rotate_left
   ·simp only [Act.put, sA_, sB_, sC_, i64_w, i32_w]
    rfl
   refine take_ (i := 9) (N := some 80) (v := ?_) (a' := ?_) (tf_ 10 12) rfl rfl (take_ofW HT_.out HW_.out (by kernel_rfl)) (fun _ _ _ h => h) (Or.inl ⟨by rfl, ?_⟩) hHeld ?_ ?_
   rotate_left
   ·rintro w' ⟨s0, s1, s2, s3, s4, s5, s6, s7, s8⟩
    go_simp
    with_reducible rfl
   rotate_left
   ·simp only [Act.put, sA_, sB_, sC_, i64_w, i32_w]
    rfl
   refine one_ (i := 10) (N := some 81) (tb_ 2047 12) rfl rfl (one_of HT_.out (by kernel_rfl)) (by decide) (fun K hK => ?_)
   refine goes_ Try.func42 (by kernel_rfl) rfl #[.agg #[.slice A0_0 l0_0.length c0_0, .slice (some ad137) l0_1.length c0_1], .int .i64 a1, .int .i64 x9_4, .int .u8 (rd l0_1 x9_4), .int .i64 a3_1] (by rfl) rfl rfl aT ?_
   with_reducible refine (span_Make.calls kj4 _ _ l0_0 _ _ l0_1 a1 x9_4 (rd l0_1 x9_4) a3_1 t138 t139 t140 t141 _ ?side1 ?side2 ?side3 ?side4 A78.out).mono ?_
   (case side1 => exact aA HR0_0 HB)
   (case side2 => exact HC0_0.out)
   (case side3 => exact aA HR0_1 HB)
   (case side4 => exact HC0_1.out)
   rintro e w80 ⟨rfl, hb⟩
   refine ⟨_, rfl, ?_⟩
   replace BK128 := zA.mk (blk_below (aB BK128) hb); replace BK129 := zA.mk (blk_below (aB BK129) hb); replace BK130 := zA.mk (blk_below (aB BK130) hb); replace HB := zA.mk (below_step (aL HB) hb); (try clear hb)
   (try clear hb2)
   (try clear hk)
   (try clear hi)
   refine hK.out _ _ ⟨(blk_cell BK128.out 0).trans rfl, (blk_cell BK128.out 1).trans rfl, (blk_cell BK129.out 0).trans rfl, (blk_cell BK129.out 1).trans rfl, (blk_cell BK129.out 2).trans rfl, (blk_cell BK129.out 3).trans rfl, (blk_cell BK129.out 4).trans rfl, (blk_cell BK129.out 5).trans rfl, ((HB.out.cell (World.block_lt_of_cell? w _ hw137_0)).trans hw137_0)⟩ (fun hHeld => ?_)
   clear hK K; refine norm_ (a' := ?_) ?_ ?_
   rotate_left
   ·show Act.put _ (some 81) _ = _
    simp only [Act.put, sA_, sB_, sC_, i64_w, i32_w]; rfl
   refine one_ (i := 11) (N := none) (tb_ 4095 12) rfl rfl (one_of HT_.out (by kernel_rfl)) (by decide) (fun K hK => ?_)
   have hs81 : w80.cell? ⟨gb130, 0, none⟩ = some (.int .i64 0) := (blk_cell BK130.out 0).trans rfl
   have hfs81 := blk_frozen BK130.out 0; have hns81_0 := NB128_130.out; have hns81_1 := NB129_130.out; have hms81_0 := NB130_128.out; have hms81_1 := NB130_129.out; have hs82 : w80.cell? ⟨gb130, 1, none⟩ = some (.int .i64 0) := (blk_cell BK130.out 1).trans rfl
   have hfs82 := blk_frozen BK130.out 1; have hns82_0 := NB128_130.out; have hns82_1 := NB129_130.out; have hms82_0 := NB130_128.out; have hms82_1 := NB130_129.out; have hs83 : w80.cell? ⟨gb130, 2, none⟩ = some (.int .i64 0) := (blk_cell BK130.out 2).trans rfl
   have hfs83 := blk_frozen BK130.out 2; have hns83_0 := NB128_130.out; have hns83_1 := NB129_130.out; have hms83_0 := NB130_128.out; have hms83_1 := NB130_129.out; have hs84 : w80.cell? ⟨gb130, 3, none⟩ = some (.int .u8 0) := (blk_cell BK130.out 3).trans rfl
   have hfs84 := blk_frozen BK130.out 3; have hns84_0 := NB128_130.out; have hns84_1 := NB129_130.out; have hms84_0 := NB130_128.out; have hms84_1 := NB130_129.out; refine skip_ (w1 := ?_) (by rfl) rfl ?_ ?_
   rotate_left
   ·go_simp
    rfl
   refine hK.out _ _ ⟨((cell_far (p := ⟨gb130, _, none⟩) NB128_130.out _).trans (((cell_far (p := ⟨gb130, _, none⟩) NB128_130.out _).trans (((cell_far (p := ⟨gb130, _, none⟩) NB128_130.out _).trans (((cell_far (p := ⟨gb130, _, none⟩) NB128_130.out _).trans (hHeld.1)))))))), ((cell_far (p := ⟨gb130, _, none⟩) NB128_130.out _).trans (((cell_far (p := ⟨gb130, _, none⟩) NB128_130.out _).trans (((cell_far (p := ⟨gb130, _, none⟩) NB128_130.out _).trans (((cell_far (p := ⟨gb130, _, none⟩) NB128_130.out _).trans (hHeld.2.1)))))))), ((cell_far (p := ⟨gb130, _, none⟩) NB129_130.out _).trans (((cell_far (p := ⟨gb130, _, none⟩) NB129_130.out _).trans (((cell_far (p := ⟨gb130, _, none⟩) NB129_130.out _).trans (((cell_far (p := ⟨gb130, _, none⟩) NB129_130.out _).trans (hHeld.2.2.1)))))))), ((cell_far (p := ⟨gb130, _, none⟩) NB129_130.out _).trans (((cell_far (p := ⟨gb130, _, none⟩) NB129_130.out _).trans (((cell_far (p := ⟨gb130, _, none⟩) NB129_130.out _).trans (((cell_far (p := ⟨gb130, _, none⟩) NB129_130.out _).trans (hHeld.2.2.2.1)))))))), ((cell_far (p := ⟨gb130, _, none⟩) NB129_130.out _).trans (((cell_far (p := ⟨gb130, _, none⟩) NB129_130.out _).trans (((cell_far (p := ⟨gb130, _, none⟩) NB129_130.out _).trans (((cell_far (p := ⟨gb130, _, none⟩) NB129_130.out _).trans (hHeld.2.2.2.2.1)))))))), ((cell_far (p := ⟨gb130, _, none⟩) NB129_130.out _).trans (((cell_far (p := ⟨gb130, _, none⟩) NB129_130.out _).trans (((cell_far (p := ⟨gb130, _, none⟩) NB129_130.out _).trans (((cell_far (p := ⟨gb130, _, none⟩) NB129_130.out _).trans (hHeld.2.2.2.2.2.1)))))))), ((cell_far (p := ⟨gb130, _, none⟩) NB129_130.out _).trans (((cell_far (p := ⟨gb130, _, none⟩) NB129_130.out _).trans (((cell_far (p := ⟨gb130, _, none⟩) NB129_130.out _).trans (((cell_far (p := ⟨gb130, _, none⟩) NB129_130.out _).trans (hHeld.2.2.2.2.2.2.1)))))))), ((cell_far (p := ⟨gb130, _, none⟩) NB129_130.out _).trans (((cell_far (p := ⟨gb130, _, none⟩) NB129_130.out _).trans (((cell_far (p := ⟨gb130, _, none⟩) NB129_130.out _).trans (((cell_far (p := ⟨gb130, _, none⟩) NB129_130.out _).trans (hHeld.2.2.2.2.2.2.2.1)))))))), ((cell_far (p := ⟨gb130, _, none⟩) (aE hw137_0 GW130) _).trans (((cell_far (p := ⟨gb130, _, none⟩) (aE hw137_0 GW130) _).trans (((cell_far (p := ⟨gb130, _, none⟩) (aE hw137_0 GW130) _).trans (((cell_far (p := ⟨gb130, _, none⟩) (aE hw137_0 GW130) _).trans (hHeld.2.2.2.2.2.2.2.2))))))))⟩ (fun hHeld => ?_)
   clear hK K; refine done_ (done_of HT_.out (by kernel_rfl)) ?_
   try go_wp2
   refine bodyPost_ret (results_cell_row rfl _ _ gb130 45 #[.int .i64 t138, .int .i64 t139, .int .i64 t140, .int .u8 t141] (0, 0) _ rfl (by (with_reducible repeat (first | refine zB ?_ _ | refine zD ?_ | refine zC ?_ _)); refine blk_put (cs := #[.int .i64 t138, .int .i64 t139, .int .i64 t140, .int .u8 0]) ?_ 3 _ rfl; (with_reducible repeat (first | refine zB ?_ _ | refine zD ?_ | refine zC ?_ _)); refine blk_put (cs := #[.int .i64 t138, .int .i64 t139, .int .i64 0, .int .u8 0]) ?_ 2 _ rfl; (with_reducible repeat (first | refine zB ?_ _ | refine zD ?_ | refine zC ?_ _)); refine blk_put (cs := #[.int .i64 t138, .int .i64 0, .int .i64 0, .int .u8 0]) ?_ 1 _ rfl; (with_reducible repeat (first | refine zB ?_ _ | refine zD ?_ | refine zC ?_ _)); refine blk_put (cs := #[.int .i64 0, .int .i64 0, .int .i64 0, .int .u8 0]) ?_ 0 _ rfl; (with_reducible repeat (first | refine zB ?_ _ | refine zD ?_ | refine zC ?_ _)); exact BK130.out) Try.underlying45 rfl (by kernel_rfl)) rfl ?_
   exact ⟨aX, aL HB⟩
  rw [if_neg c75] at H; have c75b0 : decide (0 ≤ x9_4) = false := decide_eq_false c75
  clear c75; by_cases c85 : x10_4 = a2
  rotate_left
  ·rw [if_neg c85] at H
   have c85b0 : (x10_4 == a2) = false := beq_eq_false_iff_ne.mpr c85
   have c85b1 : (x10_4 != a2) = true := bne_iff_ne.mpr c85
   by_cases c119 : x10_4 < a2
   rotate_left
   ·rw [if_neg c119] at H
    have c119b0 : decide (x10_4 < a2) = false := decide_eq_false c119
    clear c119; replace H := Option.bind_eq_some_iff.mp H; obtain ⟨⟨t165, t166, t167, t168⟩, A1410, H⟩ := H; replace H : (some (t165, t166, t167, t168)) = some (r1, r2, r3, r4) := H; have A141 := zA.mk A1410; clear A1410; simp only [Option.some.injEq, Prod.mk.injEq] at H; obtain ⟨rfl, rfl, rfl, rfl⟩ := H; have hnb142 := NB128_129.out; have hnc142 := NB129_128.out; have hnb143 := NB128_130.out; have hnc143 := NB130_128.out; obtain ⟨hcz144_0, hcz144_1, hfz144_0, hfz144_1⟩ := aC2 BK128; have hnb145 := NB129_130.out; have hnc145 := NB130_129.out; obtain ⟨hcz146_0, hcz146_1, hcz146_2, hcz146_3, hcz146_4, hcz146_5, hfz146_0, hfz146_1, hfz146_2, hfz146_3, hfz146_4, hfz146_5⟩ := aC6 BK129; go_wp2_with (first | ((with_reducible refine gate_callee (f := 42) rfl ?_); refine goesL_ (some 107) rfl rfl Try.func42 (by kernel_rfl) rfl #[.agg #[.slice A0_0 l0_0.length c0_0, .slice A0_1 l0_1.length c0_1], .int .i64 a1, .int .i64 x10_4, .int .u8 4, .int .i64 a3_1] rfl aT ?_; (with_reducible refine (span_Make.calls kj4 _ _ l0_0 _ _ l0_1 a1 x10_4 4 a3_1 t165 t166 t167 t168 _ ?side1 ?side2 ?side3 ?side4 A141.out).mono ?_); (case side1 => exact aA HR0_0 HB); (case side2 => exact HC0_0.out); (case side3 => exact aA HR0_1 HB); (case side4 => exact HC0_1.out); rintro e w147 ⟨rfl, hb⟩; refine ⟨_, rfl, ?_⟩; replace BK128 := zA.mk (blk_below (aB BK128) hb); replace BK129 := zA.mk (blk_below (aB BK129) hb); replace BK130 := zA.mk (blk_below (aB BK130) hb); replace HB := zA.mk (below_step (aL HB) hb); (try clear hb); (try clear hb2); (try clear hk); (try clear hi); obtain ⟨hcz148_0, hcz148_1, hcz148_2, hcz148_3, hfz148_0, hfz148_1, hfz148_2, hfz148_3⟩ := aC4 BK130) | ((with_reducible refine gate_store (t := 45) (p := 8) rfl ?_); refine store_event (t := 45) (p := 8) (v := ?vo_w149) (w1 := ((((w147.setCell ⟨gb130, 0, none⟩ (.int .i64 t165)).setCell ⟨gb130, 1, none⟩ (.int .i64 t166)).setCell ⟨gb130, 2, none⟩ (.int .i64 t167)).setCell ⟨gb130, 3, none⟩ (.int .u8 t168))) ?hg ?ho ?hn ?hr ?_; (case ho => rfl); (case hg => rfl); (case hn => rfl); (case hr => first | (go_simp; done) | (go_simp; rfl)); intro w149 hw; have n0_ : zA (w149.heap[gb128]? = some (.cells #[.slice A0_0 l0_0.length c0_0, .slice A0_1 l0_1.length c0_1] 31 (0, 0))) := ⟨(by rw [hw]; exact (aB BK128))⟩; have n1_ : zA (w149.heap[gb129]? = some (.cells #[.int .i64 a3_0, .int .i64 a3_1, .int .u8 a3_2, .int .i64 a3_3, .int .i64 a3_4, .float .f64 a3_5] 35 (0, 0))) := ⟨(by rw [hw]; exact (aB BK129))⟩; have n2_ : zA (w149.heap[gb130]? = some (.cells #[.int .i64 t165, .int .i64 t166, .int .i64 t167, .int .u8 t168] 45 (0, 0))) := ⟨(by rw [hw]; exact (by (with_reducible repeat (first | refine zB ?_ _ | refine zD ?_ | refine zC ?_ _)); refine blk_put (cs := #[.int .i64 t165, .int .i64 t166, .int .i64 t167, .int .u8 0]) ?_ 3 _ rfl; (with_reducible repeat (first | refine zB ?_ _ | refine zD ?_ | refine zC ?_ _)); refine blk_put (cs := #[.int .i64 t165, .int .i64 t166, .int .i64 0, .int .u8 0]) ?_ 2 _ rfl; (with_reducible repeat (first | refine zB ?_ _ | refine zD ?_ | refine zC ?_ _)); refine blk_put (cs := #[.int .i64 t165, .int .i64 0, .int .i64 0, .int .u8 0]) ?_ 1 _ rfl; (with_reducible repeat (first | refine zB ?_ _ | refine zD ?_ | refine zC ?_ _)); refine blk_put (cs := #[.int .i64 0, .int .i64 0, .int .i64 0, .int .u8 0]) ?_ 0 _ rfl; (with_reducible repeat (first | refine zB ?_ _ | refine zD ?_ | refine zC ?_ _)); exact BK130.out))⟩; have n3_ : zA (Below w.heap.size w w149) := ⟨(by rw [hw]; exact (aL HB))⟩; clear hw; clear BK128; clear BK129; clear BK130; clear HB; have BK128 := n0_; have BK129 := n1_; have BK130 := n2_; have HB := n3_; clear n0_ n1_ n2_ n3_))
    refine bodyPost_ret (results_cell_row rfl _ _ gb130 45 #[.int .i64 t165, .int .i64 t166, .int .i64 t167, .int .u8 t168] (0, 0) _ rfl (aB BK130) Try.underlying45 rfl (by kernel_rfl)) rfl ?_
    exact ⟨aX, aL HB⟩
   rw [if_pos c119] at H; have c119b0 : decide (x10_4 < a2) = true := decide_eq_true c119
   clear c119; by_cases c120 : 0 ≤ x10_4
   rotate_left
   ·rw [if_neg c120] at H
    exact absurd H (by simp)
   rw [if_pos c120] at H; have c120b0 : decide (0 ≤ x10_4) = true := decide_eq_true c120
   clear c120; by_cases c121 : x10_4 < (l0_1.length : Int)
   rotate_left
   ·rw [if_neg c121] at H
    exact absurd H (by simp)
   rw [if_pos c121] at H; have c121b0 : decide (x10_4 < (l0_1.length : Int)) = true := decide_eq_true c121
   clear c121; by_cases c122 : (rd l0_1 x10_4) = 1
   ·rw [if_pos c122] at H
    have c122b0 : ((rd l0_1 x10_4) == 1) = true := beq_iff_eq.mpr c122
    have c122b1 : ((rd l0_1 x10_4) != 1) = false := bne_eq_false_iff_eq.mpr c122
    clear c122; replace H := Option.bind_eq_some_iff.mp H; obtain ⟨⟨t157, t158, t159, t160⟩, A1230, H⟩ := H; replace H : (some (t157, t158, t159, t160)) = some (r1, r2, r3, r4) := H; have A123 := zA.mk A1230; clear A1230; simp only [Option.some.injEq, Prod.mk.injEq] at H; obtain ⟨rfl, rfl, rfl, rfl⟩ := H; have hnb124 := NB128_129.out; have hnc124 := NB129_128.out; have hnb125 := NB128_130.out; have hnc125 := NB130_128.out; obtain ⟨hcz126_0, hcz126_1, hfz126_0, hfz126_1⟩ := aC2 BK128; have p156 : 0 ≤ (x10_4 : Int) := aD
    have q156 : x10_4 < (l0_1.length : Int) := aD
    obtain ⟨ad156, e156, hx156_0⟩ := Kd.at_int HR0_1.out x10_4 p156 q156; cases e156
    replace hx156_0 := (HB.out.cell (World.block_lt_of_cell? w _ hx156_0)).trans hx156_0; replace p156 := eq_true p156; replace q156 := eq_true q156; have hnb127 := NB129_130.out; have hnc127 := NB130_129.out; obtain ⟨hcz128_0, hcz128_1, hcz128_2, hcz128_3, hcz128_4, hcz128_5, hfz128_0, hfz128_1, hfz128_2, hfz128_3, hfz128_4, hfz128_5⟩ := aC6 BK129; go_wp2_with (first | ((with_reducible refine gate_callee (f := 42) rfl ?_); refine goesL_ (some 107) rfl rfl Try.func42 (by kernel_rfl) rfl #[.agg #[.slice A0_0 l0_0.length c0_0, .slice (some ad156) l0_1.length c0_1], .int .i64 a1, .int .i64 x10_4, .int .u8 1, .int .i64 a3_1] rfl aT ?_; (with_reducible refine (span_Make.calls kj4 _ _ l0_0 _ _ l0_1 a1 x10_4 1 a3_1 t157 t158 t159 t160 _ ?side1 ?side2 ?side3 ?side4 A123.out).mono ?_); (case side1 => exact aA HR0_0 HB); (case side2 => exact HC0_0.out); (case side3 => exact aA HR0_1 HB); (case side4 => exact HC0_1.out); rintro e w129 ⟨rfl, hb⟩; refine ⟨_, rfl, ?_⟩; replace BK128 := zA.mk (blk_below (aB BK128) hb); replace BK129 := zA.mk (blk_below (aB BK129) hb); replace BK130 := zA.mk (blk_below (aB BK130) hb); replace HB := zA.mk (below_step (aL HB) hb); (try clear hb); (try clear hb2); (try clear hk); (try clear hi); obtain ⟨hcz130_0, hcz130_1, hcz130_2, hcz130_3, hfz130_0, hfz130_1, hfz130_2, hfz130_3⟩ := aC4 BK130) | ((with_reducible refine gate_store (t := 45) (p := 8) rfl ?_); refine store_event (t := 45) (p := 8) (v := ?vo_w131) (w1 := ((((w129.setCell ⟨gb130, 0, none⟩ (.int .i64 t157)).setCell ⟨gb130, 1, none⟩ (.int .i64 t158)).setCell ⟨gb130, 2, none⟩ (.int .i64 t159)).setCell ⟨gb130, 3, none⟩ (.int .u8 t160))) ?hg ?ho ?hn ?hr ?_; (case ho => rfl); (case hg => rfl); (case hn => rfl); (case hr => first | (go_simp; done) | (go_simp; rfl)); intro w131 hw; have n0_ : zA (w131.heap[gb128]? = some (.cells #[.slice A0_0 l0_0.length c0_0, .slice (some ad156) l0_1.length c0_1] 31 (0, 0))) := ⟨(by rw [hw]; exact (aB BK128))⟩; have n1_ : zA (w131.heap[gb129]? = some (.cells #[.int .i64 a3_0, .int .i64 a3_1, .int .u8 a3_2, .int .i64 a3_3, .int .i64 a3_4, .float .f64 a3_5] 35 (0, 0))) := ⟨(by rw [hw]; exact (aB BK129))⟩; have n2_ : zA (w131.heap[gb130]? = some (.cells #[.int .i64 t157, .int .i64 t158, .int .i64 t159, .int .u8 t160] 45 (0, 0))) := ⟨(by rw [hw]; exact (by (with_reducible repeat (first | refine zB ?_ _ | refine zD ?_ | refine zC ?_ _)); refine blk_put (cs := #[.int .i64 t157, .int .i64 t158, .int .i64 t159, .int .u8 0]) ?_ 3 _ rfl; (with_reducible repeat (first | refine zB ?_ _ | refine zD ?_ | refine zC ?_ _)); refine blk_put (cs := #[.int .i64 t157, .int .i64 t158, .int .i64 0, .int .u8 0]) ?_ 2 _ rfl; (with_reducible repeat (first | refine zB ?_ _ | refine zD ?_ | refine zC ?_ _)); refine blk_put (cs := #[.int .i64 t157, .int .i64 0, .int .i64 0, .int .u8 0]) ?_ 1 _ rfl; (with_reducible repeat (first | refine zB ?_ _ | refine zD ?_ | refine zC ?_ _)); refine blk_put (cs := #[.int .i64 0, .int .i64 0, .int .i64 0, .int .u8 0]) ?_ 0 _ rfl; (with_reducible repeat (first | refine zB ?_ _ | refine zD ?_ | refine zC ?_ _)); exact BK130.out))⟩; have n3_ : zA (Below w.heap.size w w131) := ⟨(by rw [hw]; exact (aL HB))⟩; clear hw; clear BK128; clear BK129; clear BK130; clear HB; have BK128 := n0_; have BK129 := n1_; have BK130 := n2_; have HB := n3_; clear n0_ n1_ n2_ n3_))
    refine bodyPost_ret (results_cell_row rfl _ _ gb130 45 #[.int .i64 t157, .int .i64 t158, .int .i64 t159, .int .u8 t160] (0, 0) _ rfl (aB BK130) Try.underlying45 rfl (by kernel_rfl)) rfl ?_
    exact ⟨aX, aL HB⟩
   rw [if_neg c122] at H; have c122b0 : ((rd l0_1 x10_4) == 1) = false := beq_eq_false_iff_ne.mpr c122
   have c122b1 : ((rd l0_1 x10_4) != 1) = true := bne_iff_ne.mpr c122
   replace H := Option.bind_eq_some_iff.mp H; obtain ⟨⟨t161, t162, t163, t164⟩, A1320, H⟩ := H; replace H : (some (t161, t162, t163, t164)) = some (r1, r2, r3, r4) := H; have A132 := zA.mk A1320; clear A1320; simp only [Option.some.injEq, Prod.mk.injEq] at H; obtain ⟨rfl, rfl, rfl, rfl⟩ := H; have hnb133 := NB128_129.out; have hnc133 := NB129_128.out; have hnb134 := NB128_130.out; have hnc134 := NB130_128.out; obtain ⟨hcz135_0, hcz135_1, hfz135_0, hfz135_1⟩ := aC2 BK128; have p156 : 0 ≤ (x10_4 : Int) := aD
   have q156 : x10_4 < (l0_1.length : Int) := aD
   obtain ⟨ad156, e156, hx156_0⟩ := Kd.at_int HR0_1.out x10_4 p156 q156; cases e156
   replace hx156_0 := (HB.out.cell (World.block_lt_of_cell? w _ hx156_0)).trans hx156_0; replace p156 := eq_true p156; replace q156 := eq_true q156; have hnb136 := NB129_130.out; have hnc136 := NB130_129.out; obtain ⟨hcz137_0, hcz137_1, hcz137_2, hcz137_3, hcz137_4, hcz137_5, hfz137_0, hfz137_1, hfz137_2, hfz137_3, hfz137_4, hfz137_5⟩ := aC6 BK129; go_wp2_with (first | ((with_reducible refine gate_callee (f := 42) rfl ?_); refine goesL_ (some 107) rfl rfl Try.func42 (by kernel_rfl) rfl #[.agg #[.slice A0_0 l0_0.length c0_0, .slice (some ad156) l0_1.length c0_1], .int .i64 a1, .int .i64 x10_4, .int .u8 4, .int .i64 a3_1] rfl aT ?_; (with_reducible refine (span_Make.calls kj4 _ _ l0_0 _ _ l0_1 a1 x10_4 4 a3_1 t161 t162 t163 t164 _ ?side1 ?side2 ?side3 ?side4 A132.out).mono ?_); (case side1 => exact aA HR0_0 HB); (case side2 => exact HC0_0.out); (case side3 => exact aA HR0_1 HB); (case side4 => exact HC0_1.out); rintro e w138 ⟨rfl, hb⟩; refine ⟨_, rfl, ?_⟩; replace BK128 := zA.mk (blk_below (aB BK128) hb); replace BK129 := zA.mk (blk_below (aB BK129) hb); replace BK130 := zA.mk (blk_below (aB BK130) hb); replace HB := zA.mk (below_step (aL HB) hb); (try clear hb); (try clear hb2); (try clear hk); (try clear hi); obtain ⟨hcz139_0, hcz139_1, hcz139_2, hcz139_3, hfz139_0, hfz139_1, hfz139_2, hfz139_3⟩ := aC4 BK130) | ((with_reducible refine gate_store (t := 45) (p := 8) rfl ?_); refine store_event (t := 45) (p := 8) (v := ?vo_w140) (w1 := ((((w138.setCell ⟨gb130, 0, none⟩ (.int .i64 t161)).setCell ⟨gb130, 1, none⟩ (.int .i64 t162)).setCell ⟨gb130, 2, none⟩ (.int .i64 t163)).setCell ⟨gb130, 3, none⟩ (.int .u8 t164))) ?hg ?ho ?hn ?hr ?_; (case ho => rfl); (case hg => rfl); (case hn => rfl); (case hr => first | (go_simp; done) | (go_simp; rfl)); intro w140 hw; have n0_ : zA (w140.heap[gb128]? = some (.cells #[.slice A0_0 l0_0.length c0_0, .slice (some ad156) l0_1.length c0_1] 31 (0, 0))) := ⟨(by rw [hw]; exact (aB BK128))⟩; have n1_ : zA (w140.heap[gb129]? = some (.cells #[.int .i64 a3_0, .int .i64 a3_1, .int .u8 a3_2, .int .i64 a3_3, .int .i64 a3_4, .float .f64 a3_5] 35 (0, 0))) := ⟨(by rw [hw]; exact (aB BK129))⟩; have n2_ : zA (w140.heap[gb130]? = some (.cells #[.int .i64 t161, .int .i64 t162, .int .i64 t163, .int .u8 t164] 45 (0, 0))) := ⟨(by rw [hw]; exact (by (with_reducible repeat (first | refine zB ?_ _ | refine zD ?_ | refine zC ?_ _)); refine blk_put (cs := #[.int .i64 t161, .int .i64 t162, .int .i64 t163, .int .u8 0]) ?_ 3 _ rfl; (with_reducible repeat (first | refine zB ?_ _ | refine zD ?_ | refine zC ?_ _)); refine blk_put (cs := #[.int .i64 t161, .int .i64 t162, .int .i64 0, .int .u8 0]) ?_ 2 _ rfl; (with_reducible repeat (first | refine zB ?_ _ | refine zD ?_ | refine zC ?_ _)); refine blk_put (cs := #[.int .i64 t161, .int .i64 0, .int .i64 0, .int .u8 0]) ?_ 1 _ rfl; (with_reducible repeat (first | refine zB ?_ _ | refine zD ?_ | refine zC ?_ _)); refine blk_put (cs := #[.int .i64 0, .int .i64 0, .int .i64 0, .int .u8 0]) ?_ 0 _ rfl; (with_reducible repeat (first | refine zB ?_ _ | refine zD ?_ | refine zC ?_ _)); exact BK130.out))⟩; have n3_ : zA (Below w.heap.size w w140) := ⟨(by rw [hw]; exact (aL HB))⟩; clear hw; clear BK128; clear BK129; clear BK130; clear HB; have BK128 := n0_; have BK129 := n1_; have BK130 := n2_; have HB := n3_; clear n0_ n1_ n2_ n3_))
   refine bodyPost_ret (results_cell_row rfl _ _ gb130 45 #[.int .i64 t161, .int .i64 t162, .int .i64 t163, .int .u8 t164] (0, 0) _ rfl (aB BK130) Try.underlying45 rfl (by kernel_rfl)) rfl ?_
   exact ⟨aX, aL HB⟩
  rw [if_pos c85] at H; have c85b0 : (x10_4 == a2) = true := beq_iff_eq.mpr c85
  have c85b1 : (x10_4 != a2) = false := bne_eq_false_iff_eq.mpr c85
  clear c85; by_cases c86 : 0 ≤ a2
  rotate_left
  ·rw [if_neg c86] at H
   exact absurd H (by simp)
  rw [if_pos c86] at H; have c86b0 : decide (0 ≤ a2) = true := decide_eq_true c86
  clear c86; by_cases c87 : a2 < (l0_1.length : Int)
  rotate_left
  ·rw [if_neg c87] at H
   exact absurd H (by simp)
  rw [if_pos c87] at H; have c87b0 : decide (a2 < (l0_1.length : Int)) = true := decide_eq_true c87
  clear c87; by_cases c88 : x10_4 < a2
  rotate_left
  ·rw [if_neg c88] at H
   have c88b0 : decide (x10_4 < a2) = false := decide_eq_false c88
   clear c88; replace H := Option.bind_eq_some_iff.mp H; obtain ⟨⟨t152, t153, t154, t155⟩, A1100, H⟩ := H; replace H : (some (t152, t153, t154, t155)) = some (r1, r2, r3, r4) := H; have A110 := zA.mk A1100; clear A1100; simp only [Option.some.injEq, Prod.mk.injEq] at H; obtain ⟨rfl, rfl, rfl, rfl⟩ := H; have hnb111 := NB128_129.out; have hnc111 := NB129_128.out; have hnb112 := NB128_130.out; have hnc112 := NB130_128.out; obtain ⟨hcz113_0, hcz113_1, hfz113_0, hfz113_1⟩ := aC2 BK128; have p142 : 0 ≤ (a2 : Int) := aD
   have q142 : a2 < (l0_1.length : Int) := aD
   obtain ⟨ad142, e142, hx142_0⟩ := Kd.at_int HR0_1.out a2 p142 q142; cases e142
   replace hx142_0 := (HB.out.cell (World.block_lt_of_cell? w _ hx142_0)).trans hx142_0; replace p142 := eq_true p142; replace q142 := eq_true q142; have hnb114 := NB129_130.out; have hnc114 := NB130_129.out; obtain ⟨hcz115_0, hcz115_1, hcz115_2, hcz115_3, hcz115_4, hcz115_5, hfz115_0, hfz115_1, hfz115_2, hfz115_3, hfz115_4, hfz115_5⟩ := aC6 BK129; go_wp2_with (first | ((with_reducible refine gate_callee (f := 42) rfl ?_); refine goesL_ (some 107) rfl rfl Try.func42 (by kernel_rfl) rfl #[.agg #[.slice A0_0 l0_0.length c0_0, .slice (some ad142) l0_1.length c0_1], .int .i64 a1, .int .i64 x10_4, .int .u8 (rd l0_1 a2), .int .i64 a3_1] rfl aT ?_; (with_reducible refine (span_Make.calls kj4 _ _ l0_0 _ _ l0_1 a1 x10_4 (rd l0_1 a2) a3_1 t152 t153 t154 t155 _ ?side1 ?side2 ?side3 ?side4 A110.out).mono ?_); (case side1 => exact aA HR0_0 HB); (case side2 => exact HC0_0.out); (case side3 => exact aA HR0_1 HB); (case side4 => exact HC0_1.out); rintro e w116 ⟨rfl, hb⟩; refine ⟨_, rfl, ?_⟩; replace BK128 := zA.mk (blk_below (aB BK128) hb); replace BK129 := zA.mk (blk_below (aB BK129) hb); replace BK130 := zA.mk (blk_below (aB BK130) hb); replace HB := zA.mk (below_step (aL HB) hb); (try clear hb); (try clear hb2); (try clear hk); (try clear hi); obtain ⟨hcz117_0, hcz117_1, hcz117_2, hcz117_3, hfz117_0, hfz117_1, hfz117_2, hfz117_3⟩ := aC4 BK130) | ((with_reducible refine gate_store (t := 45) (p := 8) rfl ?_); refine store_event (t := 45) (p := 8) (v := ?vo_w118) (w1 := ((((w116.setCell ⟨gb130, 0, none⟩ (.int .i64 t152)).setCell ⟨gb130, 1, none⟩ (.int .i64 t153)).setCell ⟨gb130, 2, none⟩ (.int .i64 t154)).setCell ⟨gb130, 3, none⟩ (.int .u8 t155))) ?hg ?ho ?hn ?hr ?_; (case ho => rfl); (case hg => rfl); (case hn => rfl); (case hr => first | (go_simp; done) | (go_simp; rfl)); intro w118 hw; have n0_ : zA (w118.heap[gb128]? = some (.cells #[.slice A0_0 l0_0.length c0_0, .slice (some ad142) l0_1.length c0_1] 31 (0, 0))) := ⟨(by rw [hw]; exact (aB BK128))⟩; have n1_ : zA (w118.heap[gb129]? = some (.cells #[.int .i64 a3_0, .int .i64 a3_1, .int .u8 a3_2, .int .i64 a3_3, .int .i64 a3_4, .float .f64 a3_5] 35 (0, 0))) := ⟨(by rw [hw]; exact (aB BK129))⟩; have n2_ : zA (w118.heap[gb130]? = some (.cells #[.int .i64 t152, .int .i64 t153, .int .i64 t154, .int .u8 t155] 45 (0, 0))) := ⟨(by rw [hw]; exact (by (with_reducible repeat (first | refine zB ?_ _ | refine zD ?_ | refine zC ?_ _)); refine blk_put (cs := #[.int .i64 t152, .int .i64 t153, .int .i64 t154, .int .u8 0]) ?_ 3 _ rfl; (with_reducible repeat (first | refine zB ?_ _ | refine zD ?_ | refine zC ?_ _)); refine blk_put (cs := #[.int .i64 t152, .int .i64 t153, .int .i64 0, .int .u8 0]) ?_ 2 _ rfl; (with_reducible repeat (first | refine zB ?_ _ | refine zD ?_ | refine zC ?_ _)); refine blk_put (cs := #[.int .i64 t152, .int .i64 0, .int .i64 0, .int .u8 0]) ?_ 1 _ rfl; (with_reducible repeat (first | refine zB ?_ _ | refine zD ?_ | refine zC ?_ _)); refine blk_put (cs := #[.int .i64 0, .int .i64 0, .int .i64 0, .int .u8 0]) ?_ 0 _ rfl; (with_reducible repeat (first | refine zB ?_ _ | refine zD ?_ | refine zC ?_ _)); exact BK130.out))⟩; have n3_ : zA (Below w.heap.size w w118) := ⟨(by rw [hw]; exact (aL HB))⟩; clear hw; clear BK128; clear BK129; clear BK130; clear HB; have BK128 := n0_; have BK129 := n1_; have BK130 := n2_; have HB := n3_; clear n0_ n1_ n2_ n3_))
   refine bodyPost_ret (results_cell_row rfl _ _ gb130 45 #[.int .i64 t152, .int .i64 t153, .int .i64 t154, .int .u8 t155] (0, 0) _ rfl (aB BK130) Try.underlying45 rfl (by kernel_rfl)) rfl ?_
   exact ⟨aX, aL HB⟩
  rw [if_pos c88] at H; have c88b0 : decide (x10_4 < a2) = true := decide_eq_true c88
  clear c88; by_cases c89 : 0 ≤ x10_4
  rotate_left
  ·rw [if_neg c89] at H
   exact absurd H (by simp)
  rw [if_pos c89] at H; have c89b0 : decide (0 ≤ x10_4) = true := decide_eq_true c89
  clear c89; by_cases c90 : x10_4 < (l0_1.length : Int)
  rotate_left
  ·rw [if_neg c90] at H
   exact absurd H (by simp)
  rw [if_pos c90] at H; have c90b0 : decide (x10_4 < (l0_1.length : Int)) = true := decide_eq_true c90
  clear c90; by_cases c91 : (rd l0_1 x10_4) = 1
  ·rw [if_pos c91] at H
   have c91b0 : ((rd l0_1 x10_4) == 1) = true := beq_iff_eq.mpr c91
   have c91b1 : ((rd l0_1 x10_4) != 1) = false := bne_eq_false_iff_eq.mpr c91
   clear c91; replace H := Option.bind_eq_some_iff.mp H; obtain ⟨⟨t144, t145, t146, t147⟩, A920, H⟩ := H; replace H : (some (t144, t145, t146, t147)) = some (r1, r2, r3, r4) := H; have A92 := zA.mk A920; clear A920; simp only [Option.some.injEq, Prod.mk.injEq] at H; obtain ⟨rfl, rfl, rfl, rfl⟩ := H; have hnb93 := NB128_129.out; have hnc93 := NB129_128.out; have hnb94 := NB128_130.out; have hnc94 := NB130_128.out; obtain ⟨hcz95_0, hcz95_1, hfz95_0, hfz95_1⟩ := aC2 BK128; have p142 : 0 ≤ (a2 : Int) := aD
   have q142 : a2 < (l0_1.length : Int) := aD
   obtain ⟨ad142, e142, hx142_0⟩ := Kd.at_int HR0_1.out a2 p142 q142; cases e142
   replace hx142_0 := (HB.out.cell (World.block_lt_of_cell? w _ hx142_0)).trans hx142_0; replace p142 := eq_true p142; replace q142 := eq_true q142; have p143 : 0 ≤ (x10_4 : Int) := aD
   have q143 : x10_4 < (l0_1.length : Int) := aD
   obtain ⟨ad143, e143, hx143_0⟩ := Kd.at_int HR0_1.out x10_4 p143 q143; obtain rfl : ad142 = ad143 := (by injection e143)
   replace hx143_0 := (HB.out.cell (World.block_lt_of_cell? w _ hx143_0)).trans hx143_0; replace p143 := eq_true p143; replace q143 := eq_true q143; have hnb96 := NB129_130.out; have hnc96 := NB130_129.out; obtain ⟨hcz97_0, hcz97_1, hcz97_2, hcz97_3, hcz97_4, hcz97_5, hfz97_0, hfz97_1, hfz97_2, hfz97_3, hfz97_4, hfz97_5⟩ := aC6 BK129; go_wp2_with (first | ((with_reducible refine gate_callee (f := 42) rfl ?_); refine goesL_ (some 107) rfl rfl Try.func42 (by kernel_rfl) rfl #[.agg #[.slice A0_0 l0_0.length c0_0, .slice (some ad142) l0_1.length c0_1], .int .i64 a1, .int .i64 x10_4, .int .u8 1, .int .i64 a3_1] rfl aT ?_; (with_reducible refine (span_Make.calls kj4 _ _ l0_0 _ _ l0_1 a1 x10_4 1 a3_1 t144 t145 t146 t147 _ ?side1 ?side2 ?side3 ?side4 A92.out).mono ?_); (case side1 => exact aA HR0_0 HB); (case side2 => exact HC0_0.out); (case side3 => exact aA HR0_1 HB); (case side4 => exact HC0_1.out); rintro e w98 ⟨rfl, hb⟩; refine ⟨_, rfl, ?_⟩; replace BK128 := zA.mk (blk_below (aB BK128) hb); replace BK129 := zA.mk (blk_below (aB BK129) hb); replace BK130 := zA.mk (blk_below (aB BK130) hb); replace HB := zA.mk (below_step (aL HB) hb); (try clear hb); (try clear hb2); (try clear hk); (try clear hi); obtain ⟨hcz99_0, hcz99_1, hcz99_2, hcz99_3, hfz99_0, hfz99_1, hfz99_2, hfz99_3⟩ := aC4 BK130) | ((with_reducible refine gate_store (t := 45) (p := 8) rfl ?_); refine store_event (t := 45) (p := 8) (v := ?vo_w100) (w1 := ((((w98.setCell ⟨gb130, 0, none⟩ (.int .i64 t144)).setCell ⟨gb130, 1, none⟩ (.int .i64 t145)).setCell ⟨gb130, 2, none⟩ (.int .i64 t146)).setCell ⟨gb130, 3, none⟩ (.int .u8 t147))) ?hg ?ho ?hn ?hr ?_; (case ho => rfl); (case hg => rfl); (case hn => rfl); (case hr => first | (go_simp; done) | (go_simp; rfl)); intro w100 hw; have n0_ : zA (w100.heap[gb128]? = some (.cells #[.slice A0_0 l0_0.length c0_0, .slice (some ad142) l0_1.length c0_1] 31 (0, 0))) := ⟨(by rw [hw]; exact (aB BK128))⟩; have n1_ : zA (w100.heap[gb129]? = some (.cells #[.int .i64 a3_0, .int .i64 a3_1, .int .u8 a3_2, .int .i64 a3_3, .int .i64 a3_4, .float .f64 a3_5] 35 (0, 0))) := ⟨(by rw [hw]; exact (aB BK129))⟩; have n2_ : zA (w100.heap[gb130]? = some (.cells #[.int .i64 t144, .int .i64 t145, .int .i64 t146, .int .u8 t147] 45 (0, 0))) := ⟨(by rw [hw]; exact (by (with_reducible repeat (first | refine zB ?_ _ | refine zD ?_ | refine zC ?_ _)); refine blk_put (cs := #[.int .i64 t144, .int .i64 t145, .int .i64 t146, .int .u8 0]) ?_ 3 _ rfl; (with_reducible repeat (first | refine zB ?_ _ | refine zD ?_ | refine zC ?_ _)); refine blk_put (cs := #[.int .i64 t144, .int .i64 t145, .int .i64 0, .int .u8 0]) ?_ 2 _ rfl; (with_reducible repeat (first | refine zB ?_ _ | refine zD ?_ | refine zC ?_ _)); refine blk_put (cs := #[.int .i64 t144, .int .i64 0, .int .i64 0, .int .u8 0]) ?_ 1 _ rfl; (with_reducible repeat (first | refine zB ?_ _ | refine zD ?_ | refine zC ?_ _)); refine blk_put (cs := #[.int .i64 0, .int .i64 0, .int .i64 0, .int .u8 0]) ?_ 0 _ rfl; (with_reducible repeat (first | refine zB ?_ _ | refine zD ?_ | refine zC ?_ _)); exact BK130.out))⟩; have n3_ : zA (Below w.heap.size w w100) := ⟨(by rw [hw]; exact (aL HB))⟩; clear hw; clear BK128; clear BK129; clear BK130; clear HB; have BK128 := n0_; have BK129 := n1_; have BK130 := n2_; have HB := n3_; clear n0_ n1_ n2_ n3_))
   refine bodyPost_ret (results_cell_row rfl _ _ gb130 45 #[.int .i64 t144, .int .i64 t145, .int .i64 t146, .int .u8 t147] (0, 0) _ rfl (aB BK130) Try.underlying45 rfl (by kernel_rfl)) rfl ?_
   exact ⟨aX, aL HB⟩
  rw [if_neg c91] at H; have c91b0 : ((rd l0_1 x10_4) == 1) = false := beq_eq_false_iff_ne.mpr c91
  have c91b1 : ((rd l0_1 x10_4) != 1) = true := bne_iff_ne.mpr c91
  replace H := Option.bind_eq_some_iff.mp H; obtain ⟨⟨t148, t149, t150, t151⟩, A1010, H⟩ := H; replace H : (some (t148, t149, t150, t151)) = some (r1, r2, r3, r4) := H; have A101 := zA.mk A1010; clear A1010; simp only [Option.some.injEq, Prod.mk.injEq] at H; obtain ⟨rfl, rfl, rfl, rfl⟩ := H; have hnb102 := NB128_129.out; have hnc102 := NB129_128.out; have hnb103 := NB128_130.out; have hnc103 := NB130_128.out; obtain ⟨hcz104_0, hcz104_1, hfz104_0, hfz104_1⟩ := aC2 BK128; have p142 : 0 ≤ (a2 : Int) := aD
  have q142 : a2 < (l0_1.length : Int) := aD
  obtain ⟨ad142, e142, hx142_0⟩ := Kd.at_int HR0_1.out a2 p142 q142; cases e142
  replace hx142_0 := (HB.out.cell (World.block_lt_of_cell? w _ hx142_0)).trans hx142_0; replace p142 := eq_true p142; replace q142 := eq_true q142; have p143 : 0 ≤ (x10_4 : Int) := aD
  have q143 : x10_4 < (l0_1.length : Int) := aD
  obtain ⟨ad143, e143, hx143_0⟩ := Kd.at_int HR0_1.out x10_4 p143 q143; obtain rfl : ad142 = ad143 := (by injection e143)
  replace hx143_0 := (HB.out.cell (World.block_lt_of_cell? w _ hx143_0)).trans hx143_0; replace p143 := eq_true p143; replace q143 := eq_true q143; have hnb105 := NB129_130.out; have hnc105 := NB130_129.out; obtain ⟨hcz106_0, hcz106_1, hcz106_2, hcz106_3, hcz106_4, hcz106_5, hfz106_0, hfz106_1, hfz106_2, hfz106_3, hfz106_4, hfz106_5⟩ := aC6 BK129; go_wp2_with (first | ((with_reducible refine gate_callee (f := 42) rfl ?_); refine goesL_ (some 107) rfl rfl Try.func42 (by kernel_rfl) rfl #[.agg #[.slice A0_0 l0_0.length c0_0, .slice (some ad142) l0_1.length c0_1], .int .i64 a1, .int .i64 x10_4, .int .u8 (rd l0_1 a2), .int .i64 a3_1] rfl aT ?_; (with_reducible refine (span_Make.calls kj4 _ _ l0_0 _ _ l0_1 a1 x10_4 (rd l0_1 a2) a3_1 t148 t149 t150 t151 _ ?side1 ?side2 ?side3 ?side4 A101.out).mono ?_); (case side1 => exact aA HR0_0 HB); (case side2 => exact HC0_0.out); (case side3 => exact aA HR0_1 HB); (case side4 => exact HC0_1.out); rintro e w107 ⟨rfl, hb⟩; refine ⟨_, rfl, ?_⟩; replace BK128 := zA.mk (blk_below (aB BK128) hb); replace BK129 := zA.mk (blk_below (aB BK129) hb); replace BK130 := zA.mk (blk_below (aB BK130) hb); replace HB := zA.mk (below_step (aL HB) hb); (try clear hb); (try clear hb2); (try clear hk); (try clear hi); obtain ⟨hcz108_0, hcz108_1, hcz108_2, hcz108_3, hfz108_0, hfz108_1, hfz108_2, hfz108_3⟩ := aC4 BK130) | ((with_reducible refine gate_store (t := 45) (p := 8) rfl ?_); refine store_event (t := 45) (p := 8) (v := ?vo_w109) (w1 := ((((w107.setCell ⟨gb130, 0, none⟩ (.int .i64 t148)).setCell ⟨gb130, 1, none⟩ (.int .i64 t149)).setCell ⟨gb130, 2, none⟩ (.int .i64 t150)).setCell ⟨gb130, 3, none⟩ (.int .u8 t151))) ?hg ?ho ?hn ?hr ?_; (case ho => rfl); (case hg => rfl); (case hn => rfl); (case hr => first | (go_simp; done) | (go_simp; rfl)); intro w109 hw; have n0_ : zA (w109.heap[gb128]? = some (.cells #[.slice A0_0 l0_0.length c0_0, .slice (some ad142) l0_1.length c0_1] 31 (0, 0))) := ⟨(by rw [hw]; exact (aB BK128))⟩; have n1_ : zA (w109.heap[gb129]? = some (.cells #[.int .i64 a3_0, .int .i64 a3_1, .int .u8 a3_2, .int .i64 a3_3, .int .i64 a3_4, .float .f64 a3_5] 35 (0, 0))) := ⟨(by rw [hw]; exact (aB BK129))⟩; have n2_ : zA (w109.heap[gb130]? = some (.cells #[.int .i64 t148, .int .i64 t149, .int .i64 t150, .int .u8 t151] 45 (0, 0))) := ⟨(by rw [hw]; exact (by (with_reducible repeat (first | refine zB ?_ _ | refine zD ?_ | refine zC ?_ _)); refine blk_put (cs := #[.int .i64 t148, .int .i64 t149, .int .i64 t150, .int .u8 0]) ?_ 3 _ rfl; (with_reducible repeat (first | refine zB ?_ _ | refine zD ?_ | refine zC ?_ _)); refine blk_put (cs := #[.int .i64 t148, .int .i64 t149, .int .i64 0, .int .u8 0]) ?_ 2 _ rfl; (with_reducible repeat (first | refine zB ?_ _ | refine zD ?_ | refine zC ?_ _)); refine blk_put (cs := #[.int .i64 t148, .int .i64 0, .int .i64 0, .int .u8 0]) ?_ 1 _ rfl; (with_reducible repeat (first | refine zB ?_ _ | refine zD ?_ | refine zC ?_ _)); refine blk_put (cs := #[.int .i64 0, .int .i64 0, .int .i64 0, .int .u8 0]) ?_ 0 _ rfl; (with_reducible repeat (first | refine zB ?_ _ | refine zD ?_ | refine zC ?_ _)); exact BK130.out))⟩; have n3_ : zA (Below w.heap.size w w109) := ⟨(by rw [hw]; exact (aL HB))⟩; clear hw; clear BK128; clear BK129; clear BK130; clear HB; have BK128 := n0_; have BK129 := n1_; have BK130 := n2_; have HB := n3_; clear n0_ n1_ n2_ n3_))
  refine bodyPost_ret (results_cell_row rfl _ _ gb130 45 #[.int .i64 t148, .int .i64 t149, .int .i64 t150, .int .u8 t151] (0, 0) _ rfl (aB BK130) Try.underlying45 rfl (by kernel_rfl)) rfl ?_
  exact ⟨aX, aL HB⟩
def first_Break.l0 : Nat → Int → Int → List (S45) → List (S61) → List Int → Int → Int → Int → Int → Int → Nat → Option ((List (S45)))
 | 0, _, _, _, _, _, _, _, _, _, _, _ => none
 | k + 1, x1, x2, x9, x170000, x170001, x171000, x171001, x171002, x171003, x171004, x171005 => if x1 < x2 then ((first_one.f k x170000 x170001 x1 x2 x171000 x171001 x171002 x171003 x171004 x171005).bind fun bt171 => (if x9.length < 4398046511104 then (first_Break.l0 k bt171.2.1 x2 (x9 ++ [(⟨bt171.1, bt171.2.1, bt171.2.2.1, bt171.2.2.2⟩ : S45)]) x170000 x170001 x171000 x171001 x171002 x171003 x171004 x171005) else (none))) else (some x9)
def first_Break.f (k : Nat) (l0_0 : List (S61)) (l0_1 : List Int) (a1 : Int) (a2 : Int) (a3_0 : Int) (a3_1 : Int) (a3_2 : Int) (a3_3 : Int) (a3_4 : Int) (a3_5 : Nat) : Option ((List (S45))) := first_Break.l0 k a1 a2 ([] : List (S45)) l0_0 l0_1 a3_0 a3_1 a3_2 a3_3 a3_4 a3_5
theorem first_Break.mono_l : ∀ k, (∀ y0 y1 y2 y3 y4 y5 y6 y7 y8 y9 y10, LeO (first_Break.l0 k y0 y1 y2 y3 y4 y5 y6 y7 y8 y9 y10) (first_Break.l0 (k + 1) y0 y1 y2 y3 y4 y5 y6 y7 y8 y9 y10))
 | 0 => fun _ _ _ _ _ _ _ _ _ _ _ r h => by simp [first_Break.l0] at h
 | k + 1 => by
  have ih0 := first_Break.mono_l k
  ·intro y0 y1 y2 y3 y4 y5 y6 y7 y8 y9 y10
   unfold first_Break.l0
   repeat' (with_reducible first | exact ih0 _ _ _ _ _ _ _ _ _ _ _ | exact first_one.mono _ _ _ _ _ _ _ _ _ _ _ | exact LeO.refl _ | exact LeO.none _ | refine LeO.ite ?_ ?_ | refine LeO.bind ?_ (fun _ => ?_))
theorem first_Break.mono : ∀ a0 a1 a2 a3 a4 a5 a6 a7 a8 a9 k, LeO (first_Break.f k a0 a1 a2 a3 a4 a5 a6 a7 a8 a9) (first_Break.f (k + 1) a0 a1 a2 a3 a4 a5 a6 a7 a8 a9) := by
 intro a0 a1 a2 a3 a4 a5 a6 a7 a8 a9 k
 have ih0 := first_Break.mono_l k; unfold first_Break.f
 repeat' (with_reducible first | exact ih0 _ _ _ _ _ _ _ _ _ _ _ | exact first_one.mono _ _ _ _ _ _ _ _ _ _ _ | exact LeO.refl _ | exact LeO.none _ | refine LeO.ite ?_ ?_ | refine LeO.bind ?_ (fun _ => ?_))
set_option maxHeartbeats 8000000 in
set_option maxRecDepth 100000 in
theorem first_Break.calls (k : Nat) (A0_0 : Option Addr) (c0_0 : Nat) (l0_0 : List (S61)) (A0_1 : Option Addr) (c0_1 : Nat) (l0_1 : List Int) (a1 : Int) (a2 : Int) (a3_0 : Int) (a3_1 : Int) (a3_2 : Int) (a3_3 : Int) (a3_4 : Int) (a3_5 : Nat) (r : List (S45)) (w : World) (hr0_0 : Kd.C k61 w A0_0 l0_0.length l0_0) (hc0_0 : l0_0.length ≤ c0_0) (hr0_1 : Kd.C (Kd.int .u8) w A0_1 l0_1.length l0_1) (hc0_1 : l0_1.length ≤ c0_1) (h : first_Break.f k l0_0 l0_1 a1 a2 a3_0 a3_1 a3_2 a3_3 a3_4 a3_5 = some r) :
  Calls Try.prog 17 #[.agg #[.slice A0_0 l0_0.length c0_0, .slice A0_1 l0_1.length c0_1], .int .i64 a1, .int .i64 a2, .agg #[.int .i64 a3_0, .int .i64 a3_1, .int .u8 a3_2, .int .i64 a3_3, .int .i64 a3_4, .float .f64 a3_5]] w fun e w' => ∃ v0_ : Value, e = .returned (v0_) ∧ Kd.R k45 45 w' w.heap.size (fun _ => True) v0_ r ∧ Below w.heap.size w w' := by
 have hu31 := Try.underlying31; have hu35 := Try.underlying35; have hu45 := Try.underlying45; have HR0_0 := zA.mk hr0_0; have HC0_0 := zA.mk hc0_0; clear hr0_0 hc0_0; have HR0_1 := zA.mk hr0_1; have HC0_1 := zA.mk hc0_1; clear hr0_1 hc0_1; have HB := zA.mk (Below.refl w.heap.size w); have H : (first_Break.l0 k a1 a2 ([] : List (S45)) l0_0 l0_1 a3_0 a3_1 a3_2 a3_3 a3_4 a3_5) = some r := h
 clear h; have H' := zA.mk H
 clear H; go_enter Try.func17, Try.ntmps17
 go_wp2_with (first | ((with_reducible refine gate_dst (N := 4) rfl ?_); refine box_event ?hg (N := 4) ?hd (cs := #[.slice A0_0 l0_0.length c0_0, .slice A0_1 l0_1.length c0_1]) (t := 31) ?hr ?_; (case hd => rfl); (case hg => rfl); (case hr => first | (go_simp; done) | (go_simp; rfl)); intro gb169 hg w5 hbox hb; have BK169 := zA.mk (hbox); have GW169 := zA.mk ((by rw [hg]; exact (below_size (aL HB)) : w.heap.size ≤ gb169)); replace HB := zA.mk (below_step (aL HB) hb); have GE169 := GW169; clear hb hbox hg) | ((with_reducible refine gate_dst (N := 7) rfl ?_); refine box_event ?hg (N := 7) ?hd (cs := #[.int .i64 a3_0, .int .i64 a3_1, .int .u8 a3_2, .int .i64 a3_3, .int .i64 a3_4, .float .f64 a3_5]) (t := 35) ?hr ?_; (case hd => rfl); (case hg => rfl); (case hr => first | (go_simp; done) | (go_simp; rfl)); intro gb170 hg w6 hbox hb; have BK170 := zA.mk (hbox); have GW170 := zA.mk ((by rw [hg]; exact (below_size (aL HB)) : w.heap.size ≤ gb170)); replace HB := zA.mk (below_step (aL HB) hb); have GE170 := GW170; have NB169_170 := zA.mk ((by rw [hg]; exact Nat.ne_of_lt (blk_lt (aB BK169)) : gb169 ≠ gb170)); have NB170_169 := zA.mk ((by rw [hg]; exact Nat.ne_of_gt (blk_lt (g := gb169) (o := .cells #[.slice A0_0 l0_0.length c0_0, .slice A0_1 l0_1.length c0_1] 31 (0, 0)) (aB BK169)) : gb170 ≠ gb169)); replace BK169 := zA.mk (blk_below (aB BK169) hb); clear hb hbox hg))
 go_loopg [1, 9] k (fun kq v1 v9 w' => ∃ (x1_1 : Int) (x9_1 : List (S45)), v1 = .int .i64 x1_1 ∧ zA (first_Break.l0 kq x1_1 a2 x9_1 l0_0 l0_1 a3_0 a3_1 a3_2 a3_3 a3_4 a3_5 = some r) ∧ zA (kq ≤ k) ∧ zA (Kd.R k45 45 w' w.heap.size (fun _ => True) v9 x9_1) ∧ zA (w'.heap[gb169]? = some (.cells #[(.slice A0_0 l0_0.length c0_0), (.slice A0_1 l0_1.length c0_1)] 31 (0, 0))) ∧ zA (w'.heap[gb170]? = some (.cells #[.int .i64 a3_0, .int .i64 a3_1, .int .u8 a3_2, .int .i64 a3_3, .int .i64 a3_4, .float .f64 a3_5] 35 (0, 0))) ∧ zA (Below w.heap.size w w'))
 case atStart => exact ⟨(a1), (([] : List (S45))), aZ, H', ⟨Nat.le_refl _⟩, ⟨by first | exact Kd.R_nil _ _ _ _ _ | exact Kd.N_nil _ _ _ _ _ | exact Kd.V_nil _ _ _ _ _ | exact Kd.Q_nil _ _ _ _ _ | exact Kd.S_nil _ _ _ _ _⟩, ⟨aB BK169⟩, ⟨aB BK170⟩, ⟨aL HB⟩⟩
 clear H'; obtain ⟨x1_1, x9_1, rfl, HA, HK1, HO_9, BK169, BK170, HB⟩ := hrel; cases gk with
 | zero => exact absurd HA.out (by simp [first_Break.l0])
 | succ k1 =>
  have H := HA.out; clear HA; simp only [first_Break.l0] at H; by_cases c7 : x1_1 < a2
  rotate_left
  ·rw [if_neg c7] at H
   have c7b0 : decide (x1_1 < a2) = false := decide_eq_false c7
   clear c7; obtain rfl := Option.some.inj H
   go_wp2
   go_ret
   exact ⟨_, aX, aR HO_9, aL HB⟩
  rw [if_pos c7] at H; have c7b0 : decide (x1_1 < a2) = true := decide_eq_true c7
  clear c7; replace H := Option.bind_eq_some_iff.mp H; obtain ⟨⟨t171, t172, t173, t174⟩, A80, H⟩ := H; replace H : (if x9_1.length < 4398046511104 then (first_Break.l0 k1 t172 a2 (x9_1 ++ [(⟨t171, t172, t173, t174⟩ : S45)]) l0_0 l0_1 a3_0 a3_1 a3_2 a3_3 a3_4 a3_5) else (none)) = some r := H; have A8 := zA.mk A80; clear A80; by_cases c9 : x9_1.length < 4398046511104
  rotate_left
  ·rw [if_neg c9] at H
   exact absurd H (by simp)
  rw [if_pos c9] at H; have LMc9 := zA.mk c9; clear c9; obtain ⟨y176, hy176⟩ : ∃ y_ : List (S45), y_ = (x9_1 ++ [(⟨t171, t172, t173, t174⟩ : S45)]) := ⟨_, rfl⟩; replace H : (first_Break.l0 k1 t172 a2 y176 l0_0 l0_1 a3_0 a3_1 a3_2 a3_3 a3_4 a3_5) = some r := by first | (rw [hy176]; with_reducible exact H) | (have H2_ := (Option.bind_some _ _).symm.trans H; rw [hy176]; with_reducible exact H2_) | (have H2_ := (Option.bind_some _ _).symm.trans H; with_reducible exact H2_) | with_reducible exact H | (rw [hy176]; exact H) | exact H
  have Ny176 := zA.mk hy176; clear hy176; have H' := zA.mk H
  clear H; have hnb10 := NB169_170.out; have hnc10 := NB170_169.out; obtain ⟨hcz11_0, hcz11_1, hfz11_0, hfz11_1⟩ := aC2 BK169; obtain ⟨hcz12_0, hcz12_1, hcz12_2, hcz12_3, hcz12_4, hcz12_5, hfz12_0, hfz12_1, hfz12_2, hfz12_3, hfz12_4, hfz12_5⟩ := aC6 BK170; go_wp2_with (first | ((with_reducible refine gate_callee (f := 29) rfl ?_); refine goesL_ (some 18) rfl rfl Try.func29 (by kernel_rfl) rfl #[.agg #[.slice A0_0 l0_0.length c0_0, .slice A0_1 l0_1.length c0_1], .int .i64 x1_1, .int .i64 a2, .agg #[.int .i64 a3_0, .int .i64 a3_1, .int .u8 a3_2, .int .i64 a3_3, .int .i64 a3_4, .float .f64 a3_5]] rfl aT ?_; (with_reducible refine (first_one.calls k1 _ _ l0_0 _ _ l0_1 x1_1 a2 a3_0 a3_1 a3_2 a3_3 a3_4 a3_5 t171 t172 t173 t174 _ ?side1 ?side2 ?side3 ?side4 A8.out).mono ?_); (case side1 => exact aA HR0_0 HB); (case side2 => exact HC0_0.out); (case side3 => exact aA HR0_1 HB); (case side4 => exact HC0_1.out); rintro e w13 ⟨rfl, hb⟩; refine ⟨_, rfl, ?_⟩; replace HO_9 := zA.mk (Kd.zM (aR HO_9) hb); replace BK169 := zA.mk (blk_below (aB BK169) hb); replace BK170 := zA.mk (blk_below (aB BK170) hb); replace HB := zA.mk (below_step (aL HB) hb); (try clear hb); (try clear hb2); (try clear hk); (try clear hi)) | ((with_reducible refine gate_dst (N := 10) rfl ?_); refine box_event ?hg (N := 10) ?hd (cs := #[.int .i64 0, .int .i64 0, .int .i64 0, .int .u8 0]) (t := 45) ?hr ?_; (case hd => rfl); (case hg => rfl); (case hr => first | (go_simp; done) | (go_simp; rfl)); intro gb175 hg w14 hbox hb; replace HO_9 := zA.mk (Kd.zM (Kd.R_elderB (aR HO_9) gb175 (Nat.le_of_eq hg.symm)) hb); have BK175 := zA.mk (hbox); have GW175 := zA.mk ((by rw [hg]; exact (below_size (aL HB)) : w.heap.size ≤ gb175)); replace HB := zA.mk (below_step (aL HB) hb); have GE175 := GW175; have NB169_175 := zA.mk ((by rw [hg]; exact Nat.ne_of_lt (blk_lt (aB BK169)) : gb169 ≠ gb175)); have NB175_169 := zA.mk ((by rw [hg]; exact Nat.ne_of_gt (blk_lt (g := gb169) (o := .cells #[.slice A0_0 l0_0.length c0_0, .slice A0_1 l0_1.length c0_1] 31 (0, 0)) (aB BK169)) : gb175 ≠ gb169)); replace BK169 := zA.mk (blk_below (aB BK169) hb); have NB170_175 := zA.mk ((by rw [hg]; exact Nat.ne_of_lt (blk_lt (aB BK170)) : gb170 ≠ gb175)); have NB175_170 := zA.mk ((by rw [hg]; exact Nat.ne_of_gt (blk_lt (g := gb170) (o := .cells #[.int .i64 a3_0, .int .i64 a3_1, .int .u8 a3_2, .int .i64 a3_3, .int .i64 a3_4, .float .f64 a3_5] 35 (0, 0)) (aB BK170)) : gb175 ≠ gb170)); replace BK170 := zA.mk (blk_below (aB BK170) hb); clear hb hbox hg; have hnb15 := NB175_169.out; have hnc15 := NB169_175.out; have hnb16 := NB175_170.out; have hnc16 := NB170_175.out; obtain ⟨hcz17_0, hcz17_1, hcz17_2, hcz17_3, hfz17_0, hfz17_1, hfz17_2, hfz17_3⟩ := aC4 BK175) | ((with_reducible refine gate_store (t := 45) (p := 10) rfl ?_); refine store_event (t := 45) (p := 10) (v := ?vo_w18) (w1 := ((((w14.setCell ⟨gb175, 0, none⟩ (.int .i64 t171)).setCell ⟨gb175, 1, none⟩ (.int .i64 t172)).setCell ⟨gb175, 2, none⟩ (.int .i64 t173)).setCell ⟨gb175, 3, none⟩ (.int .u8 t174))) ?hg ?ho ?hn ?hr ?_; (case ho => rfl); (case hg => rfl); (case hn => rfl); (case hr => first | (go_simp; done) | (go_simp; rfl)); intro w18 hw; have n0_ : zA (Kd.R k45 45 w18 w.heap.size (fun k_ => k_ ≠ gb175) u9 x9_1) := ⟨(by rw [hw]; exact (by (with_reducible repeat (first | apply Kd.zE | apply Kd.zF | apply Kd.zG)); exact Kd.zQ (Kd.zN (p := ⟨gb175, 3, none⟩) (Kd.zN (p := ⟨gb175, 2, none⟩) (Kd.zN (p := ⟨gb175, 1, none⟩) (Kd.zN (p := ⟨gb175, 0, none⟩) (Kd.zQ HO_9.out (fun k_ hk => (⟨hk, hk.2⟩ : _ ∧ k_ ≠ gb175))) (fun _ hk => hk.2) (.int .i64 t171)) (fun _ hk => hk.2) (.int .i64 t172)) (fun _ hk => hk.2) (.int .i64 t173)) (fun _ hk => hk.2) (.int .u8 t174)) (fun _ hk => hk.1.2)))⟩; have n1_ : zA (w18.heap[gb169]? = some (.cells #[.slice A0_0 l0_0.length c0_0, .slice A0_1 l0_1.length c0_1] 31 (0, 0))) := ⟨(by rw [hw]; exact (aB BK169))⟩; have n2_ : zA (w18.heap[gb170]? = some (.cells #[.int .i64 a3_0, .int .i64 a3_1, .int .u8 a3_2, .int .i64 a3_3, .int .i64 a3_4, .float .f64 a3_5] 35 (0, 0))) := ⟨(by rw [hw]; exact (aB BK170))⟩; have n3_ : zA (w18.heap[gb175]? = some (.cells #[.int .i64 t171, .int .i64 t172, .int .i64 t173, .int .u8 t174] 45 (0, 0))) := ⟨(by rw [hw]; exact (by (with_reducible repeat (first | refine zB ?_ _ | refine zD ?_ | refine zC ?_ _)); refine blk_put (cs := #[.int .i64 t171, .int .i64 t172, .int .i64 t173, .int .u8 0]) ?_ 3 _ rfl; (with_reducible repeat (first | refine zB ?_ _ | refine zD ?_ | refine zC ?_ _)); refine blk_put (cs := #[.int .i64 t171, .int .i64 t172, .int .i64 0, .int .u8 0]) ?_ 2 _ rfl; (with_reducible repeat (first | refine zB ?_ _ | refine zD ?_ | refine zC ?_ _)); refine blk_put (cs := #[.int .i64 t171, .int .i64 0, .int .i64 0, .int .u8 0]) ?_ 1 _ rfl; (with_reducible repeat (first | refine zB ?_ _ | refine zD ?_ | refine zC ?_ _)); refine blk_put (cs := #[.int .i64 0, .int .i64 0, .int .i64 0, .int .u8 0]) ?_ 0 _ rfl; (with_reducible repeat (first | refine zB ?_ _ | refine zD ?_ | refine zC ?_ _)); exact BK175.out))⟩; have n4_ : zA (Below w.heap.size w w18) := ⟨(by rw [hw]; exact (aL HB))⟩; clear hw; clear HO_9; clear BK169; clear BK170; clear BK175; clear HB; have HO_9 := n0_; have BK169 := n1_; have BK170 := n2_; have BK175 := n3_; have HB := n4_; clear n0_ n1_ n2_ n3_ n4_; obtain ⟨hcz19_0, hcz19_1, hcz19_2, hcz19_3, hfz19_0, hfz19_1, hfz19_2, hfz19_3⟩ := aC4 BK175) | ((with_reducible refine gate_builtin (b := .append) (xs := #[.tmp 19, .tmp 21]) rfl ?_); at_builtin; refine Kd.R_append k45 (w0 := w) w.heap.size rfl (.tmp 19) (.tmp 21) 40 45 (.agg #[(.int .i64 0), (.int .i64 0), (.int .i64 0), (.int .u8 0)]) 32 rfl Try.underlying40 info45 rfl (by decide) (by omega) u9 x9_1 (⟨t171, t172, t173, t174⟩ : S45) [.int .i64 t171, .int .i64 t172, .int .i64 t173, .int .u8 t174] (fun k_ => k_ ≠ gb175) (fun _ => False) rfl rfl ?aP (fun _ hk => hk.elim) ?aF ?aO ?aB ?aS ?aL ?_; (case aP => exact k45_mkM _ _ _ (⟨t171, t172, t173, t174⟩ : S45)); (case aB => exact (aL HB)); (case aF => exact (fun k_ hk => Kd.freshB (g := gb175) (o := .cells #[.int .i64 t171, .int .i64 t172, .int .i64 t173, .int .u8 t174] 45 (0, 0)) (aB BK175) k_ hk)); (case aO => exact (aR HO_9)); (case aS => exact (below_size (aL HB))); (case aL => have := LMc9.out; omega); intro v177 w20 ho hb hg hat; rw [← Ny176.out] at ho; replace BK169 := zA.mk (blk_grown (g := gb169) (o := .cells #[.slice A0_0 l0_0.length c0_0, .slice A0_1 l0_1.length c0_1] 31 (0, 0)) (aB BK169) hg (Kd.R_ne HO_9.out BK169.out (by decide))); replace BK170 := zA.mk (blk_grown (g := gb170) (o := .cells #[.int .i64 a3_0, .int .i64 a3_1, .int .u8 a3_2, .int .i64 a3_3, .int .i64 a3_4, .float .f64 a3_5] 35 (0, 0)) (aB BK170) hg (Kd.R_ne HO_9.out BK170.out (by decide))); replace BK175 := zA.mk (blk_grown (g := gb175) (o := .cells #[.int .i64 t171, .int .i64 t172, .int .i64 t173, .int .u8 t174] 45 (0, 0)) (aB BK175) hg (Kd.R_away HO_9.out (fun _ hk => hk))); replace HB := zA.mk (hb); have HO178 := zA.mk (ho); clear HO_9; clear ho hb hg hat; obtain ⟨hcz21_0, hcz21_1, hcz21_2, hcz21_3, hfz21_0, hfz21_1, hfz21_2, hfz21_3⟩ := aC4 BK175))
  go_roundg k1
  case measure => have := HK1.out; omega
  case rel => exact ⟨(t172), (y176), aZ, H', ⟨by have := HK1.out; omega⟩, ⟨by (with_reducible repeat (first | apply Kd.zE | apply Kd.zF | apply Kd.zG)); exact Kd.zQ HO178.out (fun _ hk => trivial)⟩, ⟨aB BK169⟩, ⟨aB BK170⟩, ⟨aL HB⟩⟩
mutual
def h3_Para.j1 : Nat → List (S49) → List (S61) → Option ((List (S61)) × List Int)
 | 0, _, _ => none
 | k + 1, x0, x181000 => h3_Para.l1 k x0 0 x181000 ([] : List Int)
def h3_Para.l1 : Nat → List (S49) → Int → List (S61) → List Int → Option ((List (S61)) × List Int)
 | 0, _, _, _, _ => none
 | k + 1, x0, x8, x181000, x181001 => if x8 < (x181000.length : Int) then (if x8 > 0 then (if 0 ≤ (wrap64 (x8 - 1)) then (if (wrap64 (x8 - 1)) < (x0.length : Int) then (if x181001.length < 140737488355328 then (h3_Para.l1 k x0 (wrap64 (x8 + 1)) x181000 (x181001 ++ [Int.tmod ((rd_T49 x0 (wrap64 (x8 - 1))).f3) 4])) else (none)) else (none)) else (none)) else (if x181001.length < 140737488355328 then (h3_Para.l1 k x0 (wrap64 (x8 + 1)) x181000 (x181001 ++ [0])) else (none))) else (if x181001.length < 140737488355328 then (some (x181000, (x181001 ++ [2]))) else (none))
def h3_Para.l0 : Nat → List (S49) → Int → Int → List (S61) → Option ((List (S61)) × List Int)
 | 0, _, _, _, _ => none
 | k + 1, x0, x4, x5, x181000 => if x5 < (x0.length : Int) then (if x4 < 4000 then (if 0 ≤ x5 then (if x181000.length < 4398046511104 then (h3_Para.l0 k x0 (wrap64 (x4 + (wrap64 (1 + (wrap64 (Int.tmod ((rd_T49 x0 x5).f2) 4)))))) (wrap64 (x5 + 1)) (x181000 ++ [(⟨x4, wrap64 (1 + (wrap64 (Int.tmod ((rd_T49 x0 x5).f2) 4))), wrap64 (Int.tmod ((rd_T49 x0 x5).f0) 3), Int.tmod ((rd_T49 x0 x5).f1) 3⟩ : S61)])) else (none)) else (none)) else (h3_Para.j1 k x0 x181000)) else (h3_Para.j1 k x0 x181000)
end
def h3_Para.f (k : Nat) (l0 : List (S49)) : Option ((List (S61)) × List Int) := h3_Para.l0 k l0 0 0 ([] : List (S61))
theorem h3_Para.mono_l : ∀ k, (∀ y0 y1, LeO (h3_Para.j1 k y0 y1) (h3_Para.j1 (k + 1) y0 y1)) ∧ (∀ y0 y1 y2 y3, LeO (h3_Para.l1 k y0 y1 y2 y3) (h3_Para.l1 (k + 1) y0 y1 y2 y3)) ∧ (∀ y0 y1 y2 y3, LeO (h3_Para.l0 k y0 y1 y2 y3) (h3_Para.l0 (k + 1) y0 y1 y2 y3))
 | 0 => ⟨fun _ _ r h => by simp [h3_Para.j1] at h, fun _ _ _ _ r h => by simp [h3_Para.l1] at h, fun _ _ _ _ r h => by simp [h3_Para.l0] at h⟩
 | k + 1 => by
  obtain ⟨ih0, ih1, ih2⟩ := h3_Para.mono_l k; refine ⟨?_, ?_, ?_⟩
  ·intro y0 y1
   unfold h3_Para.j1
   repeat' (with_reducible first | exact ih0 _ _ | exact ih1 _ _ _ _ | exact ih2 _ _ _ _ | exact LeO.refl _ | exact LeO.none _ | refine LeO.ite ?_ ?_ | refine LeO.bind ?_ (fun _ => ?_))
  ·intro y0 y1 y2 y3
   unfold h3_Para.l1
   repeat' (with_reducible first | exact ih0 _ _ | exact ih1 _ _ _ _ | exact ih2 _ _ _ _ | exact LeO.refl _ | exact LeO.none _ | refine LeO.ite ?_ ?_ | refine LeO.bind ?_ (fun _ => ?_))
  ·intro y0 y1 y2 y3
   unfold h3_Para.l0
   repeat' (with_reducible first | exact ih0 _ _ | exact ih1 _ _ _ _ | exact ih2 _ _ _ _ | exact LeO.refl _ | exact LeO.none _ | refine LeO.ite ?_ ?_ | refine LeO.bind ?_ (fun _ => ?_))
theorem h3_Para.mono : ∀ a0 k, LeO (h3_Para.f k a0) (h3_Para.f (k + 1) a0) := by
 intro a0 k
 obtain ⟨ih0, ih1, ih2⟩ := h3_Para.mono_l k; unfold h3_Para.f
 repeat' (with_reducible first | exact ih0 _ _ | exact ih1 _ _ _ _ | exact ih2 _ _ _ _ | exact LeO.refl _ | exact LeO.none _ | refine LeO.ite ?_ ?_ | refine LeO.bind ?_ (fun _ => ?_))
set_option maxHeartbeats 8000000 in
set_option maxRecDepth 100000 in
theorem h3_Para.calls (k : Nat) (A0 : Option Addr) (c0 : Nat) (l0 : List (S49)) (r1 : List (S61)) (r2 : List Int) (w : World) (hr0 : Kd.C k49 w A0 l0.length l0) (hc0 : l0.length ≤ c0) (h : h3_Para.f k l0 = some (r1, r2)) :
  Calls Try.prog 13 #[.slice A0 l0.length c0] w fun e w' => ∃ v0_ v1_ : Value, e = .returned (.agg #[v0_, v1_]) ∧ Kd.R k61 61 w' w.heap.size (fun _ => True) v0_ r1 ∧ Kd.R (Kd.int .u8) 43 w' w.heap.size (fun _ => True) v1_ r2 ∧ Below w.heap.size w w' := by
 have hu31 := Try.underlying31; have hu49 := Try.underlying49; have hu61 := Try.underlying61; have HR0 := zA.mk hr0; have HC0 := zA.mk hc0; clear hr0 hc0; have HB := zA.mk (Below.refl w.heap.size w); have H : (h3_Para.l0 k l0 0 0 ([] : List (S61))) = some (r1, r2) := h
 clear h; have HC2 := zA.mk H; clear H; go_enter Try.func13, Try.ntmps13
 go_upto_block 0 with (first | ((with_reducible refine gate_dst (N := 2) rfl ?_); refine box_event ?hg (N := 2) ?hd (cs := #[.slice none 0 0, .slice none 0 0]) (t := 31) ?hr ?_; (case hd => rfl); (case hg => rfl); (case hr => first | (go_simp; done) | (go_simp; rfl)); intro gb179 hg w3 hbox hb; have BK179 := zA.mk (hbox); have GW179 := zA.mk ((by rw [hg]; exact (below_size (aL HB)) : w.heap.size ≤ gb179)); replace HB := zA.mk (below_step (aL HB) hb); have GE179 := GW179; clear hb hbox hg) | ((with_reducible refine gate_dst (N := 3) rfl ?_); refine box_event ?hg (N := 3) ?hd (cs := #[.slice none 0 0, .slice none 0 0]) (t := 31) ?hr ?_; (case hd => rfl); (case hg => rfl); (case hr => first | (go_simp; done) | (go_simp; rfl)); intro gb180 hg w4 hbox hb; have BK180 := zA.mk (hbox); have GW180 := zA.mk ((by rw [hg]; exact (below_size (aL HB)) : w.heap.size ≤ gb180)); replace HB := zA.mk (below_step (aL HB) hb); have GE180 := GW180; have NB179_180 := zA.mk ((by rw [hg]; exact Nat.ne_of_lt (blk_lt (aB BK179)) : gb179 ≠ gb180)); have NB180_179 := zA.mk ((by rw [hg]; exact Nat.ne_of_gt (blk_lt (g := gb179) (o := .cells #[.slice none 0 0, .slice none 0 0] 31 (0, 0)) (aB BK179)) : gb180 ≠ gb179)); replace BK179 := zA.mk (blk_below (aB BK179) hb); clear hb hbox hg; have hnb5 := NB180_179.out; have hnc5 := NB179_180.out; obtain ⟨hcz6_0, hcz6_1, hfz6_0, hfz6_1⟩ := aC2 BK180) | ((with_reducible refine gate_store (t := 31) (p := 3) rfl ?_); refine store_event (t := 31) (p := 3) (v := ?vo_w7) (w1 := ((w4.setCell ⟨gb180, 0, none⟩ (.slice none 0 0)).setCell ⟨gb180, 1, none⟩ (.slice none 0 0))) ?hg ?ho ?hn ?hr ?_; (case ho => rfl); (case hg => rfl); (case hn => rfl); (case hr => first | (go_simp; done) | (go_simp; rfl)); intro w7 hw; have n0_ : zA (w7.heap[gb179]? = some (.cells #[.slice none 0 0, .slice none 0 0] 31 (0, 0))) := ⟨(by rw [hw]; exact (aB BK179))⟩; have n1_ : zA (w7.heap[gb180]? = some (.cells #[.slice none 0 0, .slice none 0 0] 31 (0, 0))) := ⟨(by rw [hw]; exact (by (with_reducible repeat (first | refine zB ?_ _ | refine zD ?_ | refine zC ?_ _)); refine blk_put (cs := #[.slice none 0 0, .slice none 0 0]) ?_ 1 _ rfl; (with_reducible repeat (first | refine zB ?_ _ | refine zD ?_ | refine zC ?_ _)); refine blk_put (cs := #[.slice none 0 0, .slice none 0 0]) ?_ 0 _ rfl; (with_reducible repeat (first | refine zB ?_ _ | refine zD ?_ | refine zC ?_ _)); exact BK180.out))⟩; have n2_ : zA (Below w.heap.size w w7) := ⟨(by rw [hw]; exact (aL HB))⟩; clear hw; clear BK179; clear BK180; clear HB; have BK179 := n0_; have BK180 := n1_; have HB := n2_; clear n0_ n1_ n2_))
 (try simp only [Act.put, sA_, sB_, sC_])
 go_cut [] (fun wc => ∃ (kq : Nat) (x181000_1 : List (S61)) (u181000 : Value), zA (h3_Para.j1 kq l0 x181000_1 = some (r1, r2)) ∧ zA (kq ≤ k) ∧ zA (Kd.R k61 61 wc w.heap.size (fun _ => True) u181000 x181000_1) ∧ zA (wc.heap[gb179]? = some (.cells #[(.slice none 0 0), (.slice none 0 0)] 31 (0, 0))) ∧ zA (wc.heap[gb180]? = some (.cells #[u181000, (.slice none 0 0)] 31 (0, 0))) ∧ zA (Below w.heap.size w wc))
 case first =>
  have H := HC2.out; clear HC2; have H' := zA.mk H
  clear H; go_wp2
  go_loopg [4, 5] k (fun kq v4 v5 w' => ∃ (x4_1 : Int) (x5_1 : Int) (x181000_1 : List (S61)) (u181000 : Value), v4 = .int .i64 x4_1 ∧ v5 = .int .i64 x5_1 ∧ zA (h3_Para.l0 kq l0 x4_1 x5_1 x181000_1 = some (r1, r2)) ∧ zA (kq ≤ k) ∧ zA (Kd.R k61 61 w' w.heap.size (fun _ => True) u181000 x181000_1) ∧ zA (w'.heap[gb179]? = some (.cells #[(.slice none 0 0), (.slice none 0 0)] 31 (0, 0))) ∧ zA (w'.heap[gb180]? = some (.cells #[u181000, (.slice none 0 0)] 31 (0, 0))) ∧ zA (Below w.heap.size w w'))
  case atStart => exact ⟨(0), (0), (([] : List (S61))), (.slice none 0 0), aZ, aZ, H', ⟨Nat.le_refl _⟩, ⟨by first | exact Kd.R_nil _ _ _ _ _ | exact Kd.N_nil _ _ _ _ _ | exact Kd.V_nil _ _ _ _ _ | exact Kd.Q_nil _ _ _ _ _ | exact Kd.S_nil _ _ _ _ _⟩, ⟨aB BK179⟩, ⟨aB BK180⟩, ⟨aL HB⟩⟩
  clear H'; obtain ⟨x4_1, x5_1, x181000_1, u181000, rfl, rfl, HA, HK1, HO_181000, BK179, BK180, HB⟩ := hrel; cases gk with
  | zero => exact absurd HA.out (by simp [h3_Para.l0])
  | succ k1 =>
   have H := HA.out; clear HA; simp only [h3_Para.l0] at H; by_cases c8 : x5_1 < (l0.length : Int)
   rotate_left
   ·rw [if_neg c8] at H
    have c8b0 : decide (x5_1 < (l0.length : Int)) = false := decide_eq_false c8
    clear c8; (first | rw [c8b0] | (simp only [i64_w, i32_w]; rw [c8b0]) | skip)
    have H' := zA.mk H
    clear H; go_wp2
    go_meet
    case rel => exact ⟨_, (x181000_1), (u181000), H', ⟨by have := HK1.out; first | omega | exact Nat.le_refl _⟩, ⟨aR HO_181000⟩, ⟨aB BK179⟩, ⟨aB BK180⟩, ⟨aL HB⟩⟩
   rw [if_pos c8] at H; have c8b0 : decide (x5_1 < (l0.length : Int)) = true := decide_eq_true c8
   clear c8; (first | rw [c8b0] | (simp only [i64_w, i32_w]; rw [c8b0]) | skip)
   by_cases c9 : x4_1 < 4000
   rotate_left
   ·rw [if_neg c9] at H
    have c9b0 : decide (x4_1 < 4000) = false := decide_eq_false c9
    clear c9; have H' := zA.mk H
    clear H; go_wp2
    go_meet
    case rel => exact ⟨_, (x181000_1), (u181000), H', ⟨by have := HK1.out; first | omega | exact Nat.le_refl _⟩, ⟨aR HO_181000⟩, ⟨aB BK179⟩, ⟨aB BK180⟩, ⟨aL HB⟩⟩
   rw [if_pos c9] at H; have c9b0 : decide (x4_1 < 4000) = true := decide_eq_true c9
   clear c9; by_cases c10 : 0 ≤ x5_1
   rotate_left
   ·rw [if_neg c10] at H
    exact absurd H (by simp)
   rw [if_pos c10] at H; have c10b0 : decide (0 ≤ x5_1) = true := decide_eq_true c10
   clear c10; by_cases c11 : x181000_1.length < 4398046511104
   rotate_left
   ·rw [if_neg c11] at H
    exact absurd H (by simp)
   rw [if_pos c11] at H; have LMc11 := zA.mk c11; clear c11; obtain ⟨y184, hy184⟩ : ∃ y_ : List (S61), y_ = (x181000_1 ++ [(⟨x4_1, wrap64 (1 + (wrap64 (Int.tmod ((rd_T49 l0 x5_1).f2) 4))), wrap64 (Int.tmod ((rd_T49 l0 x5_1).f0) 3), Int.tmod ((rd_T49 l0 x5_1).f1) 3⟩ : S61)]) := ⟨_, rfl⟩; replace H : (h3_Para.l0 k1 l0 (wrap64 (x4_1 + (wrap64 (1 + (wrap64 (Int.tmod ((rd_T49 l0 x5_1).f2) 4)))))) (wrap64 (x5_1 + 1)) y184) = some (r1, r2) := by first | (rw [hy184]; with_reducible exact H) | (have H2_ := (Option.bind_some _ _).symm.trans H; rw [hy184]; with_reducible exact H2_) | (have H2_ := (Option.bind_some _ _).symm.trans H; with_reducible exact H2_) | with_reducible exact H | (rw [hy184]; exact H) | exact H
   have Ny184 := zA.mk hy184; clear hy184; have H' := zA.mk H
   clear H; have p181 : 0 ≤ (x5_1 : Int) := aD
   have q181 : x5_1 < (l0.length : Int) := aD
   obtain ⟨ad181, e181, hx181_0, hx181_1, hx181_2, hx181_3⟩ := at_T49 HR0.out x5_1 p181 q181; cases e181
   replace hx181_0 := (HB.out.cell (World.block_lt_of_cell? w _ hx181_0)).trans hx181_0; replace hx181_1 := (HB.out.cell (World.block_lt_of_cell? w _ hx181_1)).trans hx181_1; replace hx181_2 := (HB.out.cell (World.block_lt_of_cell? w _ hx181_2)).trans hx181_2; replace hx181_3 := (HB.out.cell (World.block_lt_of_cell? w _ hx181_3)).trans hx181_3; replace p181 := eq_true p181; replace q181 := eq_true q181; go_wp2_with (first | ((with_reducible refine gate_dst (N := 6) rfl ?_); refine box_event ?hg (N := 6) ?hd (cs := #[.int .u8 0, .int .u8 0, .int .u8 0, .int .u8 0]) (t := 49) ?hr ?_; (case hd => rfl); (case hg => rfl); (case hr => first | (go_simp; done) | (go_simp; rfl)); intro gb182 hg w12 hbox hb; replace HO_181000 := zA.mk (Kd.zM (aR HO_181000) hb); have BK182 := zA.mk (hbox); have GW182 := zA.mk ((by rw [hg]; exact (below_size (aL HB)) : w.heap.size ≤ gb182)); replace HB := zA.mk (below_step (aL HB) hb); have GE182 := GW182; have NB179_182 := zA.mk ((by rw [hg]; exact Nat.ne_of_lt (blk_lt (aB BK179)) : gb179 ≠ gb182)); have NB182_179 := zA.mk ((by rw [hg]; exact Nat.ne_of_gt (blk_lt (g := gb179) (o := .cells #[.slice none 0 0, .slice none 0 0] 31 (0, 0)) (aB BK179)) : gb182 ≠ gb179)); replace BK179 := zA.mk (blk_below (aB BK179) hb); have NB180_182 := zA.mk ((by rw [hg]; exact Nat.ne_of_lt (blk_lt (aB BK180)) : gb180 ≠ gb182)); have NB182_180 := zA.mk ((by rw [hg]; exact Nat.ne_of_gt (blk_lt (g := gb180) (o := .cells #[u181000, .slice none 0 0] 31 (0, 0)) (aB BK180)) : gb182 ≠ gb180)); replace BK180 := zA.mk (blk_below (aB BK180) hb); clear hb hbox hg; have hnb13 := NB182_179.out; have hnc13 := NB179_182.out; have hnb14 := NB182_180.out; have hnc14 := NB180_182.out; obtain ⟨hcz15_0, hcz15_1, hcz15_2, hcz15_3, hfz15_0, hfz15_1, hfz15_2, hfz15_3⟩ := aC4 BK182) | ((with_reducible refine gate_store (t := 49) (p := 6) rfl ?_); refine store_event (t := 49) (p := 6) (v := ?vo_w16) (w1 := ((((w12.setCell ⟨gb182, 0, none⟩ (.int .u8 ((rd_T49 l0 x5_1).f0))).setCell ⟨gb182, 1, none⟩ (.int .u8 ((rd_T49 l0 x5_1).f1))).setCell ⟨gb182, 2, none⟩ (.int .u8 ((rd_T49 l0 x5_1).f2))).setCell ⟨gb182, 3, none⟩ (.int .u8 ((rd_T49 l0 x5_1).f3)))) ?hg ?ho ?hn ?hr ?_; (case ho => rfl); (case hg => rfl); (case hn => rfl); (case hr => first | (go_simp; done) | (go_simp; rfl)); intro w16 hw; have n0_ : zA (Kd.R k61 61 w16 w.heap.size (fun _ => True) u181000 x181000_1) := ⟨(by rw [hw]; exact (by (with_reducible repeat (first | apply Kd.zE | apply Kd.zF | apply Kd.zG)); exact Kd.zQ (Kd.zN (p := ⟨gb182, 3, none⟩) (Kd.zN (p := ⟨gb182, 2, none⟩) (Kd.zN (p := ⟨gb182, 1, none⟩) (Kd.zN (p := ⟨gb182, 0, none⟩) (Kd.zR HO_181000.out BK182.out (by decide)) (fun _ hk => hk.2) (.int .u8 ((rd_T49 l0 x5_1).f0))) (fun _ hk => hk.2) (.int .u8 ((rd_T49 l0 x5_1).f1))) (fun _ hk => hk.2) (.int .u8 ((rd_T49 l0 x5_1).f2))) (fun _ hk => hk.2) (.int .u8 ((rd_T49 l0 x5_1).f3))) (fun _ hk => trivial)))⟩; have n1_ : zA (w16.heap[gb179]? = some (.cells #[.slice none 0 0, .slice none 0 0] 31 (0, 0))) := ⟨(by rw [hw]; exact (aB BK179))⟩; have n2_ : zA (w16.heap[gb180]? = some (.cells #[u181000, .slice none 0 0] 31 (0, 0))) := ⟨(by rw [hw]; exact (aB BK180))⟩; have n3_ : zA (w16.heap[gb182]? = some (.cells #[.int .u8 ((rd_T49 l0 x5_1).f0), .int .u8 ((rd_T49 l0 x5_1).f1), .int .u8 ((rd_T49 l0 x5_1).f2), .int .u8 ((rd_T49 l0 x5_1).f3)] 49 (0, 0))) := ⟨(by rw [hw]; exact (by (with_reducible repeat (first | refine zB ?_ _ | refine zD ?_ | refine zC ?_ _)); refine blk_put (cs := #[.int .u8 ((rd_T49 l0 x5_1).f0), .int .u8 ((rd_T49 l0 x5_1).f1), .int .u8 ((rd_T49 l0 x5_1).f2), .int .u8 0]) ?_ 3 _ rfl; (with_reducible repeat (first | refine zB ?_ _ | refine zD ?_ | refine zC ?_ _)); refine blk_put (cs := #[.int .u8 ((rd_T49 l0 x5_1).f0), .int .u8 ((rd_T49 l0 x5_1).f1), .int .u8 0, .int .u8 0]) ?_ 2 _ rfl; (with_reducible repeat (first | refine zB ?_ _ | refine zD ?_ | refine zC ?_ _)); refine blk_put (cs := #[.int .u8 ((rd_T49 l0 x5_1).f0), .int .u8 0, .int .u8 0, .int .u8 0]) ?_ 1 _ rfl; (with_reducible repeat (first | refine zB ?_ _ | refine zD ?_ | refine zC ?_ _)); refine blk_put (cs := #[.int .u8 0, .int .u8 0, .int .u8 0, .int .u8 0]) ?_ 0 _ rfl; (with_reducible repeat (first | refine zB ?_ _ | refine zD ?_ | refine zC ?_ _)); exact BK182.out))⟩; have n4_ : zA (Below w.heap.size w w16) := ⟨(by rw [hw]; exact (aL HB))⟩; clear hw; clear HO_181000; clear BK179; clear BK180; clear BK182; clear HB; have HO_181000 := n0_; have BK179 := n1_; have BK180 := n2_; have BK182 := n3_; have HB := n4_; clear n0_ n1_ n2_ n3_ n4_; obtain ⟨hcz17_0, hcz17_1, hcz17_2, hcz17_3, hfz17_0, hfz17_1, hfz17_2, hfz17_3⟩ := aC4 BK182) | ((with_reducible refine gate_dst (N := 7) rfl ?_); refine box_event ?hg (N := 7) ?hd (cs := #[.int .i64 0, .int .i64 0, .int .i64 0, .int .u8 0]) (t := 61) ?hr ?_; (case hd => rfl); (case hg => rfl); (case hr => first | (go_simp; done) | (go_simp; rfl)); intro gb183 hg w18 hbox hb; replace HO_181000 := zA.mk (Kd.zM (Kd.R_elderB (aR HO_181000) gb183 (Nat.le_of_eq hg.symm)) hb); have BK183 := zA.mk (hbox); have GW183 := zA.mk ((by rw [hg]; exact (below_size (aL HB)) : w.heap.size ≤ gb183)); replace HB := zA.mk (below_step (aL HB) hb); have GE183 := GW183; have NB179_183 := zA.mk ((by rw [hg]; exact Nat.ne_of_lt (blk_lt (aB BK179)) : gb179 ≠ gb183)); have NB183_179 := zA.mk ((by rw [hg]; exact Nat.ne_of_gt (blk_lt (g := gb179) (o := .cells #[.slice none 0 0, .slice none 0 0] 31 (0, 0)) (aB BK179)) : gb183 ≠ gb179)); replace BK179 := zA.mk (blk_below (aB BK179) hb); have NB180_183 := zA.mk ((by rw [hg]; exact Nat.ne_of_lt (blk_lt (aB BK180)) : gb180 ≠ gb183)); have NB183_180 := zA.mk ((by rw [hg]; exact Nat.ne_of_gt (blk_lt (g := gb180) (o := .cells #[u181000, .slice none 0 0] 31 (0, 0)) (aB BK180)) : gb183 ≠ gb180)); replace BK180 := zA.mk (blk_below (aB BK180) hb); have NB182_183 := zA.mk ((by rw [hg]; exact Nat.ne_of_lt (blk_lt (aB BK182)) : gb182 ≠ gb183)); have NB183_182 := zA.mk ((by rw [hg]; exact Nat.ne_of_gt (blk_lt (g := gb182) (o := .cells #[.int .u8 ((rd_T49 l0 x5_1).f0), .int .u8 ((rd_T49 l0 x5_1).f1), .int .u8 ((rd_T49 l0 x5_1).f2), .int .u8 ((rd_T49 l0 x5_1).f3)] 49 (0, 0)) (aB BK182)) : gb183 ≠ gb182)); replace BK182 := zA.mk (blk_below (aB BK182) hb); clear hb hbox hg; have hnb19 := NB183_179.out; have hnc19 := NB179_183.out; have hnb20 := NB183_180.out; have hnc20 := NB180_183.out; have hnb21 := NB183_182.out; have hnc21 := NB182_183.out; obtain ⟨hcz22_0, hcz22_1, hcz22_2, hcz22_3, hfz22_0, hfz22_1, hfz22_2, hfz22_3⟩ := aC4 BK183) | ((with_reducible refine gate_store (t := 61) (p := 7) rfl ?_); refine store_event (t := 61) (p := 7) (v := ?vo_w23) (w1 := ((((w18.setCell ⟨gb183, 0, none⟩ (.int .i64 x4_1)).setCell ⟨gb183, 1, none⟩ (.int .i64 (wrap64 (1 + (wrap64 (Int.tmod ((rd_T49 l0 x5_1).f2) 4)))))).setCell ⟨gb183, 2, none⟩ (.int .i64 (wrap64 (Int.tmod ((rd_T49 l0 x5_1).f0) 3)))).setCell ⟨gb183, 3, none⟩ (.int .u8 (Int.tmod ((rd_T49 l0 x5_1).f1) 3)))) ?hg ?ho ?hn ?hr ?_; (case ho => rfl); (case hg => rfl); (case hn => rfl); (case hr => first | (go_simp; done) | (go_simp; rfl)); intro w23 hw; have n0_ : zA (Kd.R k61 61 w23 w.heap.size (fun k_ => k_ ≠ gb183) u181000 x181000_1) := ⟨(by rw [hw]; exact (by (with_reducible repeat (first | apply Kd.zE | apply Kd.zF | apply Kd.zG)); exact Kd.zQ (Kd.zN (p := ⟨gb183, 3, none⟩) (Kd.zN (p := ⟨gb183, 2, none⟩) (Kd.zN (p := ⟨gb183, 1, none⟩) (Kd.zN (p := ⟨gb183, 0, none⟩) (Kd.zQ HO_181000.out (fun k_ hk => (⟨hk, hk.2⟩ : _ ∧ k_ ≠ gb183))) (fun _ hk => hk.2) (.int .i64 x4_1)) (fun _ hk => hk.2) (.int .i64 (wrap64 (1 + (wrap64 (Int.tmod ((rd_T49 l0 x5_1).f2) 4)))))) (fun _ hk => hk.2) (.int .i64 (wrap64 (Int.tmod ((rd_T49 l0 x5_1).f0) 3)))) (fun _ hk => hk.2) (.int .u8 (Int.tmod ((rd_T49 l0 x5_1).f1) 3))) (fun _ hk => hk.1.2)))⟩; have n1_ : zA (w23.heap[gb179]? = some (.cells #[.slice none 0 0, .slice none 0 0] 31 (0, 0))) := ⟨(by rw [hw]; exact (aB BK179))⟩; have n2_ : zA (w23.heap[gb180]? = some (.cells #[u181000, .slice none 0 0] 31 (0, 0))) := ⟨(by rw [hw]; exact (aB BK180))⟩; have n3_ : zA (w23.heap[gb182]? = some (.cells #[.int .u8 ((rd_T49 l0 x5_1).f0), .int .u8 ((rd_T49 l0 x5_1).f1), .int .u8 ((rd_T49 l0 x5_1).f2), .int .u8 ((rd_T49 l0 x5_1).f3)] 49 (0, 0))) := ⟨(by rw [hw]; exact (aB BK182))⟩; have n4_ : zA (w23.heap[gb183]? = some (.cells #[.int .i64 x4_1, .int .i64 (wrap64 (1 + (wrap64 (Int.tmod ((rd_T49 l0 x5_1).f2) 4)))), .int .i64 (wrap64 (Int.tmod ((rd_T49 l0 x5_1).f0) 3)), .int .u8 (Int.tmod ((rd_T49 l0 x5_1).f1) 3)] 61 (0, 0))) := ⟨(by rw [hw]; exact (by (with_reducible repeat (first | refine zB ?_ _ | refine zD ?_ | refine zC ?_ _)); refine blk_put (cs := #[.int .i64 x4_1, .int .i64 (wrap64 (1 + (wrap64 (Int.tmod ((rd_T49 l0 x5_1).f2) 4)))), .int .i64 (wrap64 (Int.tmod ((rd_T49 l0 x5_1).f0) 3)), .int .u8 0]) ?_ 3 _ rfl; (with_reducible repeat (first | refine zB ?_ _ | refine zD ?_ | refine zC ?_ _)); refine blk_put (cs := #[.int .i64 x4_1, .int .i64 (wrap64 (1 + (wrap64 (Int.tmod ((rd_T49 l0 x5_1).f2) 4)))), .int .i64 0, .int .u8 0]) ?_ 2 _ rfl; (with_reducible repeat (first | refine zB ?_ _ | refine zD ?_ | refine zC ?_ _)); refine blk_put (cs := #[.int .i64 x4_1, .int .i64 0, .int .i64 0, .int .u8 0]) ?_ 1 _ rfl; (with_reducible repeat (first | refine zB ?_ _ | refine zD ?_ | refine zC ?_ _)); refine blk_put (cs := #[.int .i64 0, .int .i64 0, .int .i64 0, .int .u8 0]) ?_ 0 _ rfl; (with_reducible repeat (first | refine zB ?_ _ | refine zD ?_ | refine zC ?_ _)); exact BK183.out))⟩; have n5_ : zA (Below w.heap.size w w23) := ⟨(by rw [hw]; exact (aL HB))⟩; clear hw; clear HO_181000; clear BK179; clear BK180; clear BK182; clear BK183; clear HB; have HO_181000 := n0_; have BK179 := n1_; have BK180 := n2_; have BK182 := n3_; have BK183 := n4_; have HB := n5_; clear n0_ n1_ n2_ n3_ n4_ n5_; obtain ⟨hcz24_0, hcz24_1, hcz24_2, hcz24_3, hfz24_0, hfz24_1, hfz24_2, hfz24_3⟩ := aC4 BK183; have hnb25 := NB180_179.out; have hnc25 := NB179_180.out; obtain ⟨hcz26_0, hcz26_1, hfz26_0, hfz26_1⟩ := aC2 BK180) | ((with_reducible refine gate_builtin (b := .append) (xs := #[.tmp 44, .tmp 46]) rfl ?_); at_builtin; refine Kd.R_append k61 (w0 := w) w.heap.size rfl (.tmp 44) (.tmp 46) 28 61 (.agg #[(.int .i64 0), (.int .i64 0), (.int .i64 0), (.int .u8 0)]) 32 rfl Try.underlying28 info61 rfl (by decide) (by omega) u181000 x181000_1 (⟨x4_1, wrap64 (1 + (wrap64 (Int.tmod ((rd_T49 l0 x5_1).f2) 4))), wrap64 (Int.tmod ((rd_T49 l0 x5_1).f0) 3), Int.tmod ((rd_T49 l0 x5_1).f1) 3⟩ : S61) [.int .i64 x4_1, .int .i64 (wrap64 (1 + (wrap64 (Int.tmod ((rd_T49 l0 x5_1).f2) 4)))), .int .i64 (wrap64 (Int.tmod ((rd_T49 l0 x5_1).f0) 3)), .int .u8 (Int.tmod ((rd_T49 l0 x5_1).f1) 3)] (fun k_ => k_ ≠ gb183) (fun _ => False) rfl rfl ?aP (fun _ hk => hk.elim) ?aF ?aO ?aB ?aS ?aL ?_; (case aP => exact k61_mkM _ _ _ (⟨x4_1, wrap64 (1 + (wrap64 (Int.tmod ((rd_T49 l0 x5_1).f2) 4))), wrap64 (Int.tmod ((rd_T49 l0 x5_1).f0) 3), Int.tmod ((rd_T49 l0 x5_1).f1) 3⟩ : S61)); (case aB => exact (aL HB)); (case aF => exact (fun k_ hk => Kd.freshB (g := gb183) (o := .cells #[.int .i64 x4_1, .int .i64 (wrap64 (1 + (wrap64 (Int.tmod ((rd_T49 l0 x5_1).f2) 4)))), .int .i64 (wrap64 (Int.tmod ((rd_T49 l0 x5_1).f0) 3)), .int .u8 (Int.tmod ((rd_T49 l0 x5_1).f1) 3)] 61 (0, 0)) (aB BK183) k_ hk)); (case aO => exact (aR HO_181000)); (case aS => exact (below_size (aL HB))); (case aL => have := LMc11.out; omega); intro v185 w27 ho hb hg hat; rw [← Ny184.out] at ho; replace BK179 := zA.mk (blk_grown (g := gb179) (o := .cells #[.slice none 0 0, .slice none 0 0] 31 (0, 0)) (aB BK179) hg (Kd.R_ne HO_181000.out BK179.out (by decide))); replace BK180 := zA.mk (blk_grown (g := gb180) (o := .cells #[u181000, .slice none 0 0] 31 (0, 0)) (aB BK180) hg (Kd.R_ne HO_181000.out BK180.out (by decide))); replace BK182 := zA.mk (blk_grown (g := gb182) (o := .cells #[.int .u8 ((rd_T49 l0 x5_1).f0), .int .u8 ((rd_T49 l0 x5_1).f1), .int .u8 ((rd_T49 l0 x5_1).f2), .int .u8 ((rd_T49 l0 x5_1).f3)] 49 (0, 0)) (aB BK182) hg (Kd.R_ne HO_181000.out BK182.out (by decide))); replace BK183 := zA.mk (blk_grown (g := gb183) (o := .cells #[.int .i64 x4_1, .int .i64 (wrap64 (1 + (wrap64 (Int.tmod ((rd_T49 l0 x5_1).f2) 4)))), .int .i64 (wrap64 (Int.tmod ((rd_T49 l0 x5_1).f0) 3)), .int .u8 (Int.tmod ((rd_T49 l0 x5_1).f1) 3)] 61 (0, 0)) (aB BK183) hg (Kd.R_away HO_181000.out (fun _ hk => hk))); replace HB := zA.mk (hb); have HO186 := zA.mk (ho); clear HO_181000; clear ho hb hg hat; obtain ⟨Ao28, co28, eo28⟩ := Kd.zO HO186.out; subst eo28; obtain ⟨hcz29_0, hcz29_1, hfz29_0, hfz29_1⟩ := aC2 BK180))
   go_roundg k1
   case measure => have := HK1.out; omega
   case rel => exact ⟨(wrap64 (x4_1 + (wrap64 (1 + (wrap64 (Int.tmod ((rd_T49 l0 x5_1).f2) 4)))))), (wrap64 (x5_1 + 1)), (y184), (.slice Ao28 y184.length co28), aZ, aZ, H', ⟨by have := HK1.out; omega⟩, ⟨by (with_reducible repeat (first | apply Kd.zE | apply Kd.zF | apply Kd.zG)); exact Kd.zQ (Kd.zN (p := ⟨gb180, 0, none⟩) (Kd.zR HO186.out BK180.out (by decide)) (fun _ hk => hk.2) (.slice Ao28 y184.length co28)) (fun _ hk => trivial)⟩, ⟨by (with_reducible repeat (first | refine zB ?_ _ | refine zD ?_ | refine zC ?_ _)); refine blk_far ?_ NB179_180.out _; (with_reducible repeat (first | refine zB ?_ _ | refine zD ?_ | refine zC ?_ _)); exact BK179.out⟩, ⟨by (with_reducible repeat (first | refine zB ?_ _ | refine zD ?_ | refine zC ?_ _)); refine blk_put (cs := #[u181000, .slice none 0 0]) ?_ 0 _ rfl; (with_reducible repeat (first | refine zB ?_ _ | refine zD ?_ | refine zC ?_ _)); exact BK180.out⟩, ⟨aL HB⟩⟩
 clear HC2; obtain ⟨kq, x181000_1, u181000, HA, HJ1, HO_181000, BK179, BK180, HB⟩ := hcut; cases kq with
 | zero => exact absurd HA.out (by simp [h3_Para.j1])
 | succ kj1 =>
  have H := HA.out; clear HA; simp only [h3_Para.j1] at H; have H' := zA.mk H
  clear H; go_wp2
  go_loopg [8] kj1 (fun kq v8 w' => ∃ (x8_2 : Int) (x181001_2 : List Int) (u181001 : Value), v8 = .int .i64 x8_2 ∧ zA (h3_Para.l1 kq l0 x8_2 x181000_1 x181001_2 = some (r1, r2)) ∧ zA (kq ≤ kj1) ∧ zA (Kd.R k61 61 w' w.heap.size (fun _ => True) u181000 x181000_1) ∧ zA (Kd.R (Kd.int .u8) 43 w' w.heap.size (fun _ => True) u181001 x181001_2) ∧ zA (w'.heap[gb179]? = some (.cells #[(.slice none 0 0), (.slice none 0 0)] 31 (0, 0))) ∧ zA (w'.heap[gb180]? = some (.cells #[u181000, u181001] 31 (0, 0))) ∧ zA (Below w.heap.size w w'))
  case atStart => exact ⟨(0), (([] : List Int)), (.slice none 0 0), aZ, H', ⟨Nat.le_refl _⟩, ⟨aR HO_181000⟩, ⟨by first | exact Kd.R_nil _ _ _ _ _ | exact Kd.N_nil _ _ _ _ _ | exact Kd.V_nil _ _ _ _ _ | exact Kd.Q_nil _ _ _ _ _ | exact Kd.S_nil _ _ _ _ _⟩, ⟨aB BK179⟩, ⟨aB BK180⟩, ⟨aL HB⟩⟩
  clear H'; obtain ⟨x8_2, x181001_2, u181001, rfl, HA, HK2, HO_181000, HO_181001, BK179, BK180, HB⟩ := hrel; cases gk with
  | zero => exact absurd HA.out (by simp [h3_Para.l1])
  | succ k2 =>
   have H := HA.out; clear HA; simp only [h3_Para.l1] at H; by_cases c30 : x8_2 < (x181000_1.length : Int)
   rotate_left
   ·rw [if_neg c30] at H
    have c30b0 : decide (x8_2 < (x181000_1.length : Int)) = false := decide_eq_false c30
    clear c30; by_cases c49 : x181001_2.length < 140737488355328
    rotate_left
    ·rw [if_neg c49] at H
     exact absurd H (by simp)
    rw [if_pos c49] at H; have LMc49 := zA.mk c49; clear c49; obtain ⟨y194, hy194⟩ : ∃ y_ : List Int, y_ = (x181001_2 ++ [2]) := ⟨_, rfl⟩; replace H : (some (x181000_1, y194)) = some (r1, r2) := by first | (rw [hy194]; with_reducible exact H) | (have H2_ := (Option.bind_some _ _).symm.trans H; rw [hy194]; with_reducible exact H2_) | (have H2_ := (Option.bind_some _ _).symm.trans H; with_reducible exact H2_) | with_reducible exact H | (rw [hy194]; exact H) | exact H
    have Ny194 := zA.mk hy194; clear hy194; simp only [Option.some.injEq, Prod.mk.injEq] at H; obtain ⟨rfl, rfl⟩ := H; have hnb50 := NB180_179.out; have hnc50 := NB179_180.out; obtain ⟨hcz51_0, hcz51_1, hfz51_0, hfz51_1⟩ := aC2 BK180; obtain ⟨Ao52, co52, eo52⟩ := Kd.zO HO_181000.out; subst eo52; go_wp2_with (first | ((with_reducible refine gate_builtin (b := .append) (xs := #[.tmp 72, .tmp 73]) rfl ?_); at_builtin; refine Kd.R_append (Kd.int .u8) (w0 := w) w.heap.size rfl (.tmp 72) (.tmp 73) 29 43 (.int .u8 0) 1 rfl Try.underlying29 info43 rfl (by decide) (by omega) u181001 x181001_2 2 [.int .u8 2] (fun _ => True) (fun _ => False) rfl rfl ?aP (fun _ hk => hk.elim) ?aF ?aO ?aB ?aS ?aL ?_; (case aP => exact rfl); (case aB => exact (aL HB)); (case aF => exact (fun _ _ => trivial)); (case aO => exact (aR HO_181001)); (case aS => exact (below_size (aL HB))); (case aL => have := LMc49.out; omega); intro v195 w53 ho hb hg hat; rw [← Ny194.out] at ho; replace HO_181000 := zA.mk (Kd.R_over' (aR HO_181000) (Kd.R_typed (aR HO_181001)) (by decide) hg); replace BK179 := zA.mk (blk_grown (g := gb179) (o := .cells #[.slice none 0 0, .slice none 0 0] 31 (0, 0)) (aB BK179) hg (Kd.R_ne HO_181001.out BK179.out (by decide))); replace BK180 := zA.mk (blk_grown (g := gb180) (o := .cells #[.slice Ao52 x181000_1.length co52, u181001] 31 (0, 0)) (aB BK180) hg (Kd.R_ne HO_181001.out BK180.out (by decide))); replace HB := zA.mk (hb); have HO196 := zA.mk (ho); clear HO_181001; clear ho hb hg hat; obtain ⟨Ao54, co54, eo54⟩ := Kd.zO HO196.out; subst eo54; obtain ⟨hcz55_0, hcz55_1, hfz55_0, hfz55_1⟩ := aC2 BK180; obtain ⟨hcz56_0, hcz56_1, hfz56_0, hfz56_1⟩ := aC2 BK179) | ((with_reducible refine gate_store (t := 31) (p := 2) rfl ?_); refine store_event (t := 31) (p := 2) (v := ?vo_w57) (w1 := (((w53.setCell ⟨gb180, 1, none⟩ (.slice Ao54 y194.length co54)).setCell ⟨gb179, 0, none⟩ (.slice Ao52 x181000_1.length co52)).setCell ⟨gb179, 1, none⟩ (.slice Ao54 y194.length co54))) ?hg ?ho ?hn ?hr ?_; (case ho => rfl); (case hg => rfl); (case hn => rfl); (case hr => first | (go_simp; done) | (go_simp; rfl)); intro w57 hw; have n0_ : zA (Kd.R k61 61 w57 w.heap.size (fun _ => True) (.slice Ao52 x181000_1.length co52) x181000_1) := ⟨(by rw [hw]; exact (by (with_reducible repeat (first | apply Kd.zE | apply Kd.zF | apply Kd.zG)); exact Kd.zQ (Kd.zN (p := ⟨gb179, 1, none⟩) (Kd.zN (p := ⟨gb179, 0, none⟩) (Kd.zN (p := ⟨gb180, 1, none⟩) (Kd.zR (Kd.zR HO_181000.out BK180.out (by decide)) BK179.out (by decide)) (fun _ hk => hk.1.2) (.slice Ao54 y194.length co54)) (fun _ hk => hk.2) (.slice Ao52 x181000_1.length co52)) (fun _ hk => hk.2) (.slice Ao54 y194.length co54)) (fun _ hk => trivial)))⟩; have n1_ : zA (Kd.R (Kd.int .u8) 43 w57 w.heap.size (fun _ => True) (.slice Ao54 y194.length co54) y194) := ⟨(by rw [hw]; exact (by (with_reducible repeat (first | apply Kd.zE | apply Kd.zF | apply Kd.zG)); exact Kd.zQ (Kd.zN (p := ⟨gb179, 1, none⟩) (Kd.zN (p := ⟨gb179, 0, none⟩) (Kd.zN (p := ⟨gb180, 1, none⟩) (Kd.zR (Kd.zR HO196.out BK180.out (by decide)) BK179.out (by decide)) (fun _ hk => hk.1.2) (.slice Ao54 y194.length co54)) (fun _ hk => hk.2) (.slice Ao52 x181000_1.length co52)) (fun _ hk => hk.2) (.slice Ao54 y194.length co54)) (fun _ hk => trivial)))⟩; have n2_ : zA (w57.heap[gb179]? = some (.cells #[.slice Ao52 x181000_1.length co52, .slice Ao54 y194.length co54] 31 (0, 0))) := ⟨(by rw [hw]; exact (by (with_reducible repeat (first | refine zB ?_ _ | refine zD ?_ | refine zC ?_ _)); refine blk_put (cs := #[.slice Ao52 x181000_1.length co52, .slice none 0 0]) ?_ 1 _ rfl; (with_reducible repeat (first | refine zB ?_ _ | refine zD ?_ | refine zC ?_ _)); refine blk_put (cs := #[.slice none 0 0, .slice none 0 0]) ?_ 0 _ rfl; (with_reducible repeat (first | refine zB ?_ _ | refine zD ?_ | refine zC ?_ _)); refine blk_far ?_ NB179_180.out _; (with_reducible repeat (first | refine zB ?_ _ | refine zD ?_ | refine zC ?_ _)); exact BK179.out))⟩; have n3_ : zA (w57.heap[gb180]? = some (.cells #[.slice Ao52 x181000_1.length co52, .slice Ao54 y194.length co54] 31 (0, 0))) := ⟨(by rw [hw]; exact (by (with_reducible repeat (first | refine zB ?_ _ | refine zD ?_ | refine zC ?_ _)); refine blk_far ?_ NB180_179.out _; (with_reducible repeat (first | refine zB ?_ _ | refine zD ?_ | refine zC ?_ _)); refine blk_far ?_ NB180_179.out _; (with_reducible repeat (first | refine zB ?_ _ | refine zD ?_ | refine zC ?_ _)); refine blk_put (cs := #[.slice Ao52 x181000_1.length co52, u181001]) ?_ 1 _ rfl; (with_reducible repeat (first | refine zB ?_ _ | refine zD ?_ | refine zC ?_ _)); exact BK180.out))⟩; have n4_ : zA (Below w.heap.size w w57) := ⟨(by rw [hw]; exact (aL HB))⟩; clear hw; clear HO_181000; clear HO196; clear BK179; clear BK180; clear HB; have HO_181000 := n0_; have HO196 := n1_; have BK179 := n2_; have BK180 := n3_; have HB := n4_; clear n0_ n1_ n2_ n3_ n4_))
    refine bodyPost_ret (results_cell_row rfl _ _ gb179 31 #[.slice Ao52 x181000_1.length co52, .slice Ao54 y194.length co54] (0, 0) _ rfl (aB BK179) Try.underlying31 rfl (by kernel_rfl)) rfl ?_
    exact ⟨_, _, aX, aR HO_181000, aR HO196, aL HB⟩
   rw [if_pos c30] at H; have c30b0 : decide (x8_2 < (x181000_1.length : Int)) = true := decide_eq_true c30
   clear c30; by_cases c31 : x8_2 > 0
   rotate_left
   ·rw [if_neg c31] at H
    have c31b0 : decide (0 < x8_2) = false := decide_eq_false c31
    clear c31; by_cases c42 : x181001_2.length < 140737488355328
    rotate_left
    ·rw [if_neg c42] at H
     exact absurd H (by simp)
    rw [if_pos c42] at H; have LMc42 := zA.mk c42; clear c42; obtain ⟨y191, hy191⟩ : ∃ y_ : List Int, y_ = (x181001_2 ++ [0]) := ⟨_, rfl⟩; replace H : (h3_Para.l1 k2 l0 (wrap64 (x8_2 + 1)) x181000_1 y191) = some (r1, r2) := by first | (rw [hy191]; with_reducible exact H) | (have H2_ := (Option.bind_some _ _).symm.trans H; rw [hy191]; with_reducible exact H2_) | (have H2_ := (Option.bind_some _ _).symm.trans H; with_reducible exact H2_) | with_reducible exact H | (rw [hy191]; exact H) | exact H
    have Ny191 := zA.mk hy191; clear hy191; have H' := zA.mk H
    clear H; have hnb43 := NB180_179.out; have hnc43 := NB179_180.out; obtain ⟨hcz44_0, hcz44_1, hfz44_0, hfz44_1⟩ := aC2 BK180; obtain ⟨Ao45, co45, eo45⟩ := Kd.zO HO_181000.out; subst eo45; go_wp2_with (first | ((with_reducible refine gate_builtin (b := .append) (xs := #[.tmp 66, .tmp 68]) rfl ?_); at_builtin; refine Kd.R_append (Kd.int .u8) (w0 := w) w.heap.size rfl (.tmp 66) (.tmp 68) 29 43 (.int .u8 0) 1 rfl Try.underlying29 info43 rfl (by decide) (by omega) u181001 x181001_2 0 [.int .u8 0] (fun _ => True) (fun _ => False) rfl rfl ?aP (fun _ hk => hk.elim) ?aF ?aO ?aB ?aS ?aL ?_; (case aP => exact rfl); (case aB => exact (aL HB)); (case aF => exact (fun _ _ => trivial)); (case aO => exact (aR HO_181001)); (case aS => exact (below_size (aL HB))); (case aL => have := LMc42.out; omega); intro v192 w46 ho hb hg hat; rw [← Ny191.out] at ho; replace HO_181000 := zA.mk (Kd.R_over' (aR HO_181000) (Kd.R_typed (aR HO_181001)) (by decide) hg); replace BK179 := zA.mk (blk_grown (g := gb179) (o := .cells #[.slice none 0 0, .slice none 0 0] 31 (0, 0)) (aB BK179) hg (Kd.R_ne HO_181001.out BK179.out (by decide))); replace BK180 := zA.mk (blk_grown (g := gb180) (o := .cells #[.slice Ao45 x181000_1.length co45, u181001] 31 (0, 0)) (aB BK180) hg (Kd.R_ne HO_181001.out BK180.out (by decide))); replace HB := zA.mk (hb); have HO193 := zA.mk (ho); clear HO_181001; clear ho hb hg hat; obtain ⟨Ao47, co47, eo47⟩ := Kd.zO HO193.out; subst eo47; obtain ⟨hcz48_0, hcz48_1, hfz48_0, hfz48_1⟩ := aC2 BK180))
    go_roundg k2
    case measure => have := HJ1.out; have := HK2.out; omega
    case rel => exact ⟨(wrap64 (x8_2 + 1)), (y191), (.slice Ao47 y191.length co47), aZ, H', ⟨by have := HJ1.out; have := HK2.out; omega⟩, ⟨by (with_reducible repeat (first | apply Kd.zE | apply Kd.zF | apply Kd.zG)); exact Kd.zQ (Kd.zN (p := ⟨gb180, 1, none⟩) (Kd.zR HO_181000.out BK180.out (by decide)) (fun _ hk => hk.2) (.slice Ao47 y191.length co47)) (fun _ hk => trivial)⟩, ⟨by (with_reducible repeat (first | apply Kd.zE | apply Kd.zF | apply Kd.zG)); exact Kd.zQ (Kd.zN (p := ⟨gb180, 1, none⟩) (Kd.zR HO193.out BK180.out (by decide)) (fun _ hk => hk.2) (.slice Ao47 y191.length co47)) (fun _ hk => trivial)⟩, ⟨by (with_reducible repeat (first | refine zB ?_ _ | refine zD ?_ | refine zC ?_ _)); refine blk_far ?_ NB179_180.out _; (with_reducible repeat (first | refine zB ?_ _ | refine zD ?_ | refine zC ?_ _)); exact BK179.out⟩, ⟨by (with_reducible repeat (first | refine zB ?_ _ | refine zD ?_ | refine zC ?_ _)); refine blk_put (cs := #[.slice Ao45 x181000_1.length co45, u181001]) ?_ 1 _ rfl; (with_reducible repeat (first | refine zB ?_ _ | refine zD ?_ | refine zC ?_ _)); exact BK180.out⟩, ⟨aL HB⟩⟩
   rw [if_pos c31] at H; have c31b0 : decide (0 < x8_2) = true := decide_eq_true c31
   clear c31; obtain ⟨ji32, hji32⟩ : ∃ j_ : Int, (wrap64 (x8_2 - 1)) = j_ := ⟨_, rfl⟩; replace H : (if 0 ≤ (ji32) then (if (ji32) < (l0.length : Int) then (if x181001_2.length < 140737488355328 then (h3_Para.l1 k2 l0 (wrap64 (x8_2 + 1)) x181000_1 (x181001_2 ++ [Int.tmod ((rd_T49 l0 (ji32)).f3) 4])) else (none)) else (none)) else (none)) = some (r1, r2) := by first | (rw [hji32] at H; exact H) | (simp only [hji32] at H ⊢; exact H)
   have hji32w : (IntKind.i64.wrap (x8_2 - 1)) = ji32 := (i64_w _).trans hji32
   by_cases c33 : 0 ≤ (ji32)
   rotate_left
   ·rw [if_neg c33] at H
    exact absurd H (by simp)
   rw [if_pos c33] at H; have c33b0 : decide (0 ≤ (ji32)) = true := decide_eq_true c33
   clear c33; by_cases c34 : (ji32) < (l0.length : Int)
   rotate_left
   ·rw [if_neg c34] at H
    exact absurd H (by simp)
   rw [if_pos c34] at H; have c34b0 : decide ((ji32) < (l0.length : Int)) = true := decide_eq_true c34
   clear c34; by_cases c35 : x181001_2.length < 140737488355328
   rotate_left
   ·rw [if_neg c35] at H
    exact absurd H (by simp)
   rw [if_pos c35] at H; have LMc35 := zA.mk c35; clear c35; obtain ⟨y188, hy188⟩ : ∃ y_ : List Int, y_ = (x181001_2 ++ [Int.tmod ((rd_T49 l0 (ji32)).f3) 4]) := ⟨_, rfl⟩; replace H : (h3_Para.l1 k2 l0 (wrap64 (x8_2 + 1)) x181000_1 y188) = some (r1, r2) := by first | (rw [hy188]; with_reducible exact H) | (have H2_ := (Option.bind_some _ _).symm.trans H; rw [hy188]; with_reducible exact H2_) | (have H2_ := (Option.bind_some _ _).symm.trans H; with_reducible exact H2_) | with_reducible exact H | (rw [hy188]; exact H) | exact H
   have Ny188 := zA.mk hy188; clear hy188; have H' := zA.mk H
   clear H; have hnb36 := NB180_179.out; have hnc36 := NB179_180.out; obtain ⟨hcz37_0, hcz37_1, hfz37_0, hfz37_1⟩ := aC2 BK180; obtain ⟨Ao38, co38, eo38⟩ := Kd.zO HO_181000.out; subst eo38; have p187 : 0 ≤ ((ji32) : Int) := aD
   have q187 : (ji32) < (l0.length : Int) := aD
   obtain ⟨ad187, e187, hx187_0, hx187_1, hx187_2, hx187_3⟩ := at_T49 HR0.out (ji32) p187 q187; cases e187
   replace hx187_0 := (HB.out.cell (World.block_lt_of_cell? w _ hx187_0)).trans hx187_0; replace hx187_1 := (HB.out.cell (World.block_lt_of_cell? w _ hx187_1)).trans hx187_1; replace hx187_2 := (HB.out.cell (World.block_lt_of_cell? w _ hx187_2)).trans hx187_2; replace hx187_3 := (HB.out.cell (World.block_lt_of_cell? w _ hx187_3)).trans hx187_3; replace p187 := eq_true p187; replace q187 := eq_true q187; go_wp2_with (first | ((with_reducible refine gate_builtin (b := .append) (xs := #[.tmp 66, .tmp 68]) rfl ?_); at_builtin; refine Kd.R_append (Kd.int .u8) (w0 := w) w.heap.size rfl (.tmp 66) (.tmp 68) 29 43 (.int .u8 0) 1 rfl Try.underlying29 info43 rfl (by decide) (by omega) u181001 x181001_2 (Int.tmod ((rd_T49 l0 (ji32)).f3) 4) [.int .u8 (Int.tmod ((rd_T49 l0 (ji32)).f3) 4)] (fun _ => True) (fun _ => False) rfl rfl ?aP (fun _ hk => hk.elim) ?aF ?aO ?aB ?aS ?aL ?_; (case aP => exact rfl); (case aB => exact (aL HB)); (case aF => exact (fun _ _ => trivial)); (case aO => exact (aR HO_181001)); (case aS => exact (below_size (aL HB))); (case aL => have := LMc35.out; omega); intro v189 w39 ho hb hg hat; rw [← Ny188.out] at ho; replace HO_181000 := zA.mk (Kd.R_over' (aR HO_181000) (Kd.R_typed (aR HO_181001)) (by decide) hg); replace BK179 := zA.mk (blk_grown (g := gb179) (o := .cells #[.slice none 0 0, .slice none 0 0] 31 (0, 0)) (aB BK179) hg (Kd.R_ne HO_181001.out BK179.out (by decide))); replace BK180 := zA.mk (blk_grown (g := gb180) (o := .cells #[.slice Ao38 x181000_1.length co38, u181001] 31 (0, 0)) (aB BK180) hg (Kd.R_ne HO_181001.out BK180.out (by decide))); replace HB := zA.mk (hb); have HO190 := zA.mk (ho); clear HO_181001; clear ho hb hg hat; obtain ⟨Ao40, co40, eo40⟩ := Kd.zO HO190.out; subst eo40; obtain ⟨hcz41_0, hcz41_1, hfz41_0, hfz41_1⟩ := aC2 BK180))
   go_roundg k2
   case measure => have := HJ1.out; have := HK2.out; omega
   case rel => exact ⟨(wrap64 (x8_2 + 1)), (y188), (.slice Ao40 y188.length co40), aZ, H', ⟨by have := HJ1.out; have := HK2.out; omega⟩, ⟨by (with_reducible repeat (first | apply Kd.zE | apply Kd.zF | apply Kd.zG)); exact Kd.zQ (Kd.zN (p := ⟨gb180, 1, none⟩) (Kd.zR HO_181000.out BK180.out (by decide)) (fun _ hk => hk.2) (.slice Ao40 y188.length co40)) (fun _ hk => trivial)⟩, ⟨by (with_reducible repeat (first | apply Kd.zE | apply Kd.zF | apply Kd.zG)); exact Kd.zQ (Kd.zN (p := ⟨gb180, 1, none⟩) (Kd.zR HO190.out BK180.out (by decide)) (fun _ hk => hk.2) (.slice Ao40 y188.length co40)) (fun _ hk => trivial)⟩, ⟨by (with_reducible repeat (first | refine zB ?_ _ | refine zD ?_ | refine zC ?_ _)); refine blk_far ?_ NB179_180.out _; (with_reducible repeat (first | refine zB ?_ _ | refine zD ?_ | refine zC ?_ _)); exact BK179.out⟩, ⟨by (with_reducible repeat (first | refine zB ?_ _ | refine zD ?_ | refine zC ?_ _)); refine blk_put (cs := #[.slice Ao38 x181000_1.length co38, u181001]) ?_ 1 _ rfl; (with_reducible repeat (first | refine zB ?_ _ | refine zD ?_ | refine zC ?_ _)); exact BK180.out⟩, ⟨aL HB⟩⟩
theorem eqA45 (d : Nat) (w : World) (x0 y0 : Int) (x1 y1 : Int) (x2 y2 : Int) (x3 y3 : Int) :
  (Op.equalIn (d + 2) 45 (.agg #[.int .i64 x0, .int .i64 x1, .int .i64 x2, .int .u8 x3]) (.agg #[.int .i64 y0, .int .i64 y1, .int .i64 y2, .int .u8 y3])).run Try.prog w = .ok (x0 == y0 && (x1 == y1 && (x2 == y2 && (x3 == y3)))) w := by
 refine eqA_of Try.underlying45 (by kernel_rfl) ?_
 refine eqf_cons (by rfl) (by go_simp; rfl) (by go_simp; rfl) (by go_simp) ?_
 refine eqf_cons (by rfl) (by go_simp; rfl) (by go_simp; rfl) (by go_simp) ?_
 refine eqf_cons (by rfl) (by go_simp; rfl) (by go_simp; rfl) (by go_simp) ?_
 exact eqf_last (by rfl) (by go_simp; rfl) (by go_simp; rfl) (by go_simp)
def l4_Text.l0 : Nat → List (S49) → List Int → Int → Int → Option ((List (S61)) × List Int)
 | 0, _, _, _, _ => none
 | k + 1, x3, x8, x9, x10 => if x10 < x9 then (if 0 ≤ x10 then (if x10 < (x8.length : Int) then (if (rd x8 x10) = 32 then (if x3.length < 35184372088832 then (l4_Text.l0 k (x3 ++ [(⟨1, 1, 0, 1⟩ : S49)]) x8 x9 (wrap64 (x10 + 1))) else (none)) else (if x3.length < 35184372088832 then (l4_Text.l0 k (x3 ++ [(⟨1, 0, 0, 0⟩ : S49)]) x8 x9 (wrap64 (x10 + 1))) else (none))) else (none)) else (none)) else ((h3_Para.f k x3).bind fun bt211 => (some (bt211.1, bt211.2)))
def l4_Text.f (k : Nat) (a0 : ByteArray) : Option ((List (S61)) × List Int) := if (a0.size : Int) ≤ 140737488355327 then ((some (bytesOf a0 : List Int)).bind fun y199 => (l4_Text.l0 k ([] : List (S49)) y199 (y199.length : Int) 0)) else (none)
theorem l4_Text.mono_l : ∀ k, (∀ y0 y1 y2 y3, LeO (l4_Text.l0 k y0 y1 y2 y3) (l4_Text.l0 (k + 1) y0 y1 y2 y3))
 | 0 => fun _ _ _ _ r h => by simp [l4_Text.l0] at h
 | k + 1 => by
  have ih0 := l4_Text.mono_l k
  ·intro y0 y1 y2 y3
   unfold l4_Text.l0
   repeat' (with_reducible first | exact ih0 _ _ _ _ | exact h3_Para.mono _ _ | exact LeO.refl _ | exact LeO.none _ | refine LeO.ite ?_ ?_ | refine LeO.bind ?_ (fun _ => ?_))
theorem l4_Text.mono : ∀ a0 k, LeO (l4_Text.f k a0) (l4_Text.f (k + 1) a0) := by
 intro a0 k
 have ih0 := l4_Text.mono_l k; unfold l4_Text.f
 repeat' (with_reducible first | exact ih0 _ _ _ _ | exact h3_Para.mono _ _ | exact LeO.refl _ | exact LeO.none _ | refine LeO.ite ?_ ?_ | refine LeO.bind ?_ (fun _ => ?_))
set_option maxHeartbeats 8000000 in
set_option maxRecDepth 100000 in
theorem l4_Text.calls (k : Nat) (a0 : ByteArray) (r1 : List (S61)) (r2 : List Int) (w : World) (h : l4_Text.f k a0 = some (r1, r2)) :
  Calls Try.prog 28 #[.string a0] w fun e w' => ∃ v0_ v1_ : Value, e = .returned (.agg #[v0_, v1_]) ∧ Kd.R k61 61 w' w.heap.size (fun _ => True) v0_ r1 ∧ Kd.R (Kd.int .u8) 43 w' w.heap.size (fun _ => True) v1_ r2 ∧ Below w.heap.size w w' := by
 have hu31 := Try.underlying31; have hu49 := Try.underlying49; have HB := zA.mk (Below.refl w.heap.size w); have H : (if (a0.size : Int) ≤ 140737488355327 then ((some (bytesOf a0 : List Int)).bind fun y199 => (l4_Text.l0 k ([] : List (S49)) y199 (y199.length : Int) 0)) else (none)) = some (r1, r2) := h
 clear h; by_cases c2 : (a0.size : Int) ≤ 140737488355327
 rotate_left
 ·rw [if_neg c2] at H
  exact absurd H (by simp)
 rw [if_pos c2] at H; have c2b0 := eq_true c2; have c2b1 : decide ((a0.size : Int) ≤ 140737488355327) = true := decide_eq_true c2
 clear c2; obtain ⟨y199, hy199⟩ : ∃ y_ : List Int, y_ = (bytesOf a0) := ⟨_, rfl⟩; replace H : (l4_Text.l0 k ([] : List (S49)) y199 (y199.length : Int) 0) = some (r1, r2) := by first | (rw [hy199]; with_reducible exact H) | (have H2_ := (Option.bind_some _ _).symm.trans H; rw [hy199]; with_reducible exact H2_) | (have H2_ := (Option.bind_some _ _).symm.trans H; with_reducible exact H2_) | with_reducible exact H | (rw [hy199]; exact H) | exact H
 have Ny199 := zA.mk hy199; clear hy199; have H' := zA.mk H
 clear H; go_enter Try.func28, Try.ntmps28
 go_wp2_with (first | ((with_reducible refine gate_dst (N := 2) rfl ?_); refine box_event ?hg (N := 2) ?hd (cs := #[.slice none 0 0, .slice none 0 0]) (t := 31) ?hr ?_; (case hd => rfl); (case hg => rfl); (case hr => first | (go_simp; done) | (go_simp; rfl)); intro gb197 hg w3 hbox hb; have BK197 := zA.mk (hbox); have GW197 := zA.mk ((by rw [hg]; exact (below_size (aL HB)) : w.heap.size ≤ gb197)); replace HB := zA.mk (below_step (aL HB) hb); have GE197 := GW197; clear hb hbox hg) | ((with_reducible refine gate_dst (N := 8) rfl ?_); refine conv_event ?hg (N := 8) ?hd (src := 9) (dst := 51) (e := 5) (s := a0) (x := ?cx) ?ho ?hx Try.underlying9 Try.underlying51 Try.underlying5 (aD) y199 Ny199.out ?_; (case hd => rfl); (case hg => rfl); (case ho => rfl); (case hx => first | rfl | (go_simp; done)); intro gb198 hg cv198 ob198 w4 hcap hcv hbox hb; have HV198 := zA.mk hcv; have HC202 := zA.mk hcap; clear hcv hcap; have BK198 := zA.mk (hbox); have GW198 := zA.mk ((by rw [hg]; exact (below_size (aL HB)) : w.heap.size ≤ gb198)); replace HB := zA.mk (below_step (aL HB) hb); have GE198 := GW198; have NB197_198 := zA.mk ((by rw [hg]; exact Nat.ne_of_lt (blk_lt (aB BK197)) : gb197 ≠ gb198)); have NB198_197 := zA.mk ((by rw [hg]; exact Nat.ne_of_gt (blk_lt (g := gb197) (o := .cells #[.slice none 0 0, .slice none 0 0] 31 (0, 0)) (aB BK197)) : gb198 ≠ gb197)); replace BK197 := zA.mk (blk_below (aB BK197) hb); clear hb hbox hg))
 go_loopg [3, 10] k (fun kq v3 v10 w' => ∃ (x3_1 : List (S49)) (x10_1 : Int), v10 = .int .i64 x10_1 ∧ zA (l4_Text.l0 kq x3_1 y199 (y199.length : Int) x10_1 = some (r1, r2)) ∧ zA (kq ≤ k) ∧ zA (Kd.R k49 49 w' w.heap.size (fun k_ => k_ ≠ gb198) v3 x3_1) ∧ zA (w'.heap[gb197]? = some (.cells #[(.slice none 0 0), (.slice none 0 0)] 31 (0, 0))) ∧ zA (w'.heap[gb198]? = some ob198) ∧ zA (Below w.heap.size w w'))
 case atStart => exact ⟨(([] : List (S49))), (0), aZ, H', ⟨Nat.le_refl _⟩, ⟨by first | exact Kd.R_nil _ _ _ _ _ | exact Kd.N_nil _ _ _ _ _ | exact Kd.V_nil _ _ _ _ _ | exact Kd.Q_nil _ _ _ _ _ | exact Kd.S_nil _ _ _ _ _⟩, ⟨aB BK197⟩, ⟨aB BK198⟩, ⟨aL HB⟩⟩
 clear H'; obtain ⟨x3_1, x10_1, rfl, HA, HK1, HO_3, BK197, BK198, HB⟩ := hrel; cases gk with
 | zero => exact absurd HA.out (by simp [l4_Text.l0])
 | succ k1 =>
  have H := HA.out; clear HA; simp only [l4_Text.l0] at H; by_cases c5 : x10_1 < (y199.length : Int)
  rotate_left
  ·rw [if_neg c5] at H
   have c5b0 : decide (x10_1 < (y199.length : Int)) = false := decide_eq_false c5
   clear c5; replace H := Option.bind_eq_some_iff.mp H; obtain ⟨⟨t211, t214⟩, A270, H⟩ := H; replace H : (some (t211, t214)) = some (r1, r2) := H; have A27 := zA.mk A270; clear A270; simp only [Option.some.injEq, Prod.mk.injEq] at H; obtain ⟨rfl, rfl⟩ := H; obtain ⟨Ao28, co28, eo28⟩ := Kd.zO HO_3.out; subst eo28; go_wp2_with (first | ((with_reducible refine gate_callee (f := 13) rfl ?_); refine goesL_ (some 25) rfl rfl Try.func13 (by kernel_rfl) rfl #[.slice Ao28 x3_1.length co28] rfl aT ?_; (with_reducible refine (h3_Para.calls k1 _ _ x3_1 t211 t214 _ ?side1 ?side2 A27.out).mono ?_); (case side1 => exact aF HO_3); (case side2 => exact (Kd.zL HO_3.out).2.1); rintro e w29 ⟨v212, v215, rfl, ho0, ho1, hb⟩; refine ⟨_, rfl, ?_⟩; replace HO_3 := zA.mk (Kd.zM (aR HO_3) hb); have HO213 := zA.mk (Kd.zP (Kd.R_newB ho0 (g := gb198) (o := ob198) (aB BK198)) (below_size (aL HB))); have HO216 := zA.mk (Kd.zP (Kd.R_newB ho1 (g := gb198) (o := ob198) (aB BK198)) (below_size (aL HB))); replace BK197 := zA.mk (blk_below (aB BK197) hb); replace BK198 := zA.mk (blk_below (aB BK198) hb); replace HB := zA.mk (below_step (aL HB) hb); (try clear hb); (try clear hb2); (try clear hk); (try clear hi); (try clear ho0); (try clear ho1); obtain ⟨Ao30, co30, eo30⟩ := Kd.zO HO213.out; subst eo30; have hnb31 := NB197_198.out; have hnc31 := NB198_197.out; obtain ⟨hcz32_0, hcz32_1, hfz32_0, hfz32_1⟩ := aC2 BK197; obtain ⟨Ao33, co33, eo33⟩ := Kd.zO HO216.out; subst eo33) | ((with_reducible refine gate_store (t := 31) (p := 2) rfl ?_); refine store_event (t := 31) (p := 2) (v := ?vo_w34) (w1 := ((w29.setCell ⟨gb197, 0, none⟩ (.slice Ao30 t211.length co30)).setCell ⟨gb197, 1, none⟩ (.slice Ao33 t214.length co33))) ?hg ?ho ?hn ?hr ?_; (case ho => rfl); (case hg => rfl); (case hn => rfl); (case hr => first | (go_simp; done) | (go_simp; rfl)); intro w34 hw; have n0_ : zA (Kd.R k49 49 w34 w.heap.size (fun k_ => k_ ≠ gb198) (.slice Ao28 x3_1.length co28) x3_1) := ⟨(by rw [hw]; exact (by (with_reducible repeat (first | apply Kd.zE | apply Kd.zF | apply Kd.zG)); exact Kd.zQ (Kd.zN (p := ⟨gb197, 1, none⟩) (Kd.zN (p := ⟨gb197, 0, none⟩) (Kd.zR HO_3.out BK197.out (by decide)) (fun _ hk => hk.2) (.slice Ao30 t211.length co30)) (fun _ hk => hk.2) (.slice Ao33 t214.length co33)) (fun _ hk => hk.1)))⟩; have n1_ : zA (Kd.R k61 61 w34 w.heap.size (fun k_ => k_ ≠ gb198) (.slice Ao30 t211.length co30) t211) := ⟨(by rw [hw]; exact (by (with_reducible repeat (first | apply Kd.zE | apply Kd.zF | apply Kd.zG)); exact Kd.zQ (Kd.zN (p := ⟨gb197, 1, none⟩) (Kd.zN (p := ⟨gb197, 0, none⟩) (Kd.zR HO213.out BK197.out (by decide)) (fun _ hk => hk.2) (.slice Ao30 t211.length co30)) (fun _ hk => hk.2) (.slice Ao33 t214.length co33)) (fun _ hk => hk.1.2)))⟩; have n2_ : zA (Kd.R (Kd.int .u8) 43 w34 w.heap.size (fun k_ => k_ ≠ gb198) (.slice Ao33 t214.length co33) t214) := ⟨(by rw [hw]; exact (by (with_reducible repeat (first | apply Kd.zE | apply Kd.zF | apply Kd.zG)); exact Kd.zQ (Kd.zN (p := ⟨gb197, 1, none⟩) (Kd.zN (p := ⟨gb197, 0, none⟩) (Kd.zR HO216.out BK197.out (by decide)) (fun _ hk => hk.2) (.slice Ao30 t211.length co30)) (fun _ hk => hk.2) (.slice Ao33 t214.length co33)) (fun _ hk => hk.1.2)))⟩; have n3_ : zA (w34.heap[gb197]? = some (.cells #[.slice Ao30 t211.length co30, .slice Ao33 t214.length co33] 31 (0, 0))) := ⟨(by rw [hw]; exact (by (with_reducible repeat (first | refine zB ?_ _ | refine zD ?_ | refine zC ?_ _)); refine blk_put (cs := #[.slice Ao30 t211.length co30, .slice none 0 0]) ?_ 1 _ rfl; (with_reducible repeat (first | refine zB ?_ _ | refine zD ?_ | refine zC ?_ _)); refine blk_put (cs := #[.slice none 0 0, .slice none 0 0]) ?_ 0 _ rfl; (with_reducible repeat (first | refine zB ?_ _ | refine zD ?_ | refine zC ?_ _)); exact BK197.out))⟩; have n4_ : zA (w34.heap[gb198]? = some (ob198)) := ⟨(by rw [hw]; exact (by (with_reducible repeat (first | refine zB ?_ _ | refine zD ?_ | refine zC ?_ _)); refine blk_farO ?_ NB198_197.out _; (with_reducible repeat (first | refine zB ?_ _ | refine zD ?_ | refine zC ?_ _)); refine blk_farO ?_ NB198_197.out _; (with_reducible repeat (first | refine zB ?_ _ | refine zD ?_ | refine zC ?_ _)); exact BK198.out))⟩; have n5_ : zA (Below w.heap.size w w34) := ⟨(by rw [hw]; exact (aL HB))⟩; clear hw; clear HO_3; clear HO213; clear HO216; clear BK197; clear BK198; clear HB; have HO_3 := n0_; have HO213 := n1_; have HO216 := n2_; have BK197 := n3_; have BK198 := n4_; have HB := n5_; clear n0_ n1_ n2_ n3_ n4_ n5_))
   refine bodyPost_ret (results_cell_row rfl _ _ gb197 31 #[.slice Ao30 t211.length co30, .slice Ao33 t214.length co33] (0, 0) _ rfl (aB BK197) Try.underlying31 rfl (by kernel_rfl)) rfl ?_
   exact ⟨_, _, aX, by (with_reducible repeat (first | apply Kd.zE | apply Kd.zF | apply Kd.zG)); exact Kd.zQ HO213.out (fun _ hk => trivial), by (with_reducible repeat (first | apply Kd.zE | apply Kd.zF | apply Kd.zG)); exact Kd.zQ HO216.out (fun _ hk => trivial), aL HB⟩
  rw [if_pos c5] at H; have c5b0 : decide (x10_1 < (y199.length : Int)) = true := decide_eq_true c5
  clear c5; by_cases c6 : 0 ≤ x10_1
  rotate_left
  ·rw [if_neg c6] at H
   exact absurd H (by simp)
  rw [if_pos c6] at H; have c6b0 : decide (0 ≤ x10_1) = true := decide_eq_true c6
  clear c6; by_cases c7 : x10_1 < (y199.length : Int)
  rotate_left
  ·rw [if_neg c7] at H
   exact absurd H (by simp)
  rw [if_pos c7] at H; have c7b0 : decide (x10_1 < (y199.length : Int)) = true := decide_eq_true c7
  clear c7; by_cases c8 : (rd y199 x10_1) = 32
  rotate_left
  ·rw [if_neg c8] at H
   have c8b0 : ((rd y199 x10_1) == 32) = false := beq_eq_false_iff_ne.mpr c8
   have c8b1 : ((rd y199 x10_1) != 32) = true := bne_iff_ne.mpr c8
   by_cases c19 : x3_1.length < 35184372088832
   rotate_left
   ·rw [if_neg c19] at H
    exact absurd H (by simp)
   rw [if_pos c19] at H; have LMc19 := zA.mk c19; clear c19; obtain ⟨y208, hy208⟩ : ∃ y_ : List (S49), y_ = (x3_1 ++ [(⟨1, 0, 0, 0⟩ : S49)]) := ⟨_, rfl⟩; replace H : (l4_Text.l0 k1 y208 y199 (y199.length : Int) (wrap64 (x10_1 + 1))) = some (r1, r2) := by first | (rw [hy208]; with_reducible exact H) | (have H2_ := (Option.bind_some _ _).symm.trans H; rw [hy208]; with_reducible exact H2_) | (have H2_ := (Option.bind_some _ _).symm.trans H; with_reducible exact H2_) | with_reducible exact H | (rw [hy208]; exact H) | exact H
   have Ny208 := zA.mk hy208; clear hy208; have H' := zA.mk H
   clear H; have p203 : 0 ≤ (x10_1 : Int) := aD
   have q203 : x10_1 < (y199.length : Int) := aD
   obtain ⟨ad203, e203, hx203_0⟩ := Kd.at_int (HV198.out _ BK198.out) x10_1 p203 q203; obtain rfl : (⟨gb198, 0, none⟩ : Addr) = ad203 := (by injection e203)
   (first | simp only [add_plain] at hx203_0 | simp only [add_at] at hx203_0 | simp only [Addr.add, Nat.zero_add] at hx203_0 | skip)
   replace p203 := eq_true p203; replace q203 := eq_true q203; go_wp2_with (first | ((with_reducible refine gate_dst (N := 6) rfl ?_); refine box_event ?hg (N := 6) ?hd (cs := #[.int .u8 0, .int .u8 0, .int .u8 0, .int .u8 0]) (t := 49) ?hr ?_; (case hd => rfl); (case hg => rfl); (case hr => first | (go_simp; done) | (go_simp; rfl)); intro gb204 hg w20 hbox hb; replace HO_3 := zA.mk (Kd.zM (Kd.R_elderB (aR HO_3) gb204 (Nat.le_of_eq hg.symm)) hb); have BK204 := zA.mk (hbox); have GW204 := zA.mk ((by rw [hg]; exact (below_size (aL HB)) : w.heap.size ≤ gb204)); replace HB := zA.mk (below_step (aL HB) hb); have GE204 := GW204; have NB197_204 := zA.mk ((by rw [hg]; exact Nat.ne_of_lt (blk_lt (aB BK197)) : gb197 ≠ gb204)); have NB204_197 := zA.mk ((by rw [hg]; exact Nat.ne_of_gt (blk_lt (g := gb197) (o := .cells #[.slice none 0 0, .slice none 0 0] 31 (0, 0)) (aB BK197)) : gb204 ≠ gb197)); replace BK197 := zA.mk (blk_below (aB BK197) hb); have NB198_204 := zA.mk ((by rw [hg]; exact Nat.ne_of_lt (blk_lt (aB BK198)) : gb198 ≠ gb204)); have NB204_198 := zA.mk ((by rw [hg]; exact Nat.ne_of_gt (blk_lt (g := gb198) (o := ob198) (aB BK198)) : gb204 ≠ gb198)); replace BK198 := zA.mk (blk_below (aB BK198) hb); clear hb hbox hg; have hnb21 := NB204_197.out; have hnc21 := NB197_204.out; have hnb22 := NB204_198.out; have hnc22 := NB198_204.out; obtain ⟨hcz23_0, hcz23_1, hcz23_2, hcz23_3, hfz23_0, hfz23_1, hfz23_2, hfz23_3⟩ := aC4 BK204) | ((with_reducible refine gate_store (t := 49) (p := 6) rfl ?_); refine store_event (t := 49) (p := 6) (v := ?vo_w24) (w1 := ((((w20.setCell ⟨gb204, 0, none⟩ (.int .u8 1)).setCell ⟨gb204, 1, none⟩ (.int .u8 0)).setCell ⟨gb204, 2, none⟩ (.int .u8 0)).setCell ⟨gb204, 3, none⟩ (.int .u8 0))) ?hg ?ho ?hn ?hr ?_; (case ho => rfl); (case hg => rfl); (case hn => rfl); (case hr => first | (go_simp; done) | (go_simp; rfl)); intro w24 hw; have n0_ : zA (Kd.R k49 49 w24 w.heap.size (fun k_ => k_ ≠ gb198 ∧ k_ ≠ gb204) u3 x3_1) := ⟨(by rw [hw]; exact (by (with_reducible repeat (first | apply Kd.zE | apply Kd.zF | apply Kd.zG)); exact Kd.zQ (Kd.zN (p := ⟨gb204, 3, none⟩) (Kd.zN (p := ⟨gb204, 2, none⟩) (Kd.zN (p := ⟨gb204, 1, none⟩) (Kd.zN (p := ⟨gb204, 0, none⟩) (Kd.zQ HO_3.out (fun k_ hk => (⟨hk, hk.2⟩ : _ ∧ k_ ≠ gb204))) (fun _ hk => hk.2) (.int .u8 1)) (fun _ hk => hk.2) (.int .u8 0)) (fun _ hk => hk.2) (.int .u8 0)) (fun _ hk => hk.2) (.int .u8 0)) (fun _ hk => ⟨hk.1.1, hk.1.2⟩)))⟩; have n1_ : zA (w24.heap[gb197]? = some (.cells #[.slice none 0 0, .slice none 0 0] 31 (0, 0))) := ⟨(by rw [hw]; exact (aB BK197))⟩; have n2_ : zA (w24.heap[gb198]? = some (ob198)) := ⟨(by rw [hw]; exact (by (with_reducible repeat (first | refine zB ?_ _ | refine zD ?_ | refine zC ?_ _)); refine blk_farO ?_ NB198_204.out _; (with_reducible repeat (first | refine zB ?_ _ | refine zD ?_ | refine zC ?_ _)); refine blk_farO ?_ NB198_204.out _; (with_reducible repeat (first | refine zB ?_ _ | refine zD ?_ | refine zC ?_ _)); refine blk_farO ?_ NB198_204.out _; (with_reducible repeat (first | refine zB ?_ _ | refine zD ?_ | refine zC ?_ _)); refine blk_farO ?_ NB198_204.out _; (with_reducible repeat (first | refine zB ?_ _ | refine zD ?_ | refine zC ?_ _)); exact BK198.out))⟩; have n3_ : zA (w24.heap[gb204]? = some (.cells #[.int .u8 1, .int .u8 0, .int .u8 0, .int .u8 0] 49 (0, 0))) := ⟨(by rw [hw]; exact (by (with_reducible repeat (first | refine zB ?_ _ | refine zD ?_ | refine zC ?_ _)); refine blk_put (cs := #[.int .u8 1, .int .u8 0, .int .u8 0, .int .u8 0]) ?_ 3 _ rfl; (with_reducible repeat (first | refine zB ?_ _ | refine zD ?_ | refine zC ?_ _)); refine blk_put (cs := #[.int .u8 1, .int .u8 0, .int .u8 0, .int .u8 0]) ?_ 2 _ rfl; (with_reducible repeat (first | refine zB ?_ _ | refine zD ?_ | refine zC ?_ _)); refine blk_put (cs := #[.int .u8 1, .int .u8 0, .int .u8 0, .int .u8 0]) ?_ 1 _ rfl; (with_reducible repeat (first | refine zB ?_ _ | refine zD ?_ | refine zC ?_ _)); refine blk_put (cs := #[.int .u8 0, .int .u8 0, .int .u8 0, .int .u8 0]) ?_ 0 _ rfl; (with_reducible repeat (first | refine zB ?_ _ | refine zD ?_ | refine zC ?_ _)); exact BK204.out))⟩; have n4_ : zA (Below w.heap.size w w24) := ⟨(by rw [hw]; exact (aL HB))⟩; clear hw; clear HO_3; clear BK197; clear BK198; clear BK204; clear HB; have HO_3 := n0_; have BK197 := n1_; have BK198 := n2_; have BK204 := n3_; have HB := n4_; clear n0_ n1_ n2_ n3_ n4_; obtain ⟨hcz25_0, hcz25_1, hcz25_2, hcz25_3, hfz25_0, hfz25_1, hfz25_2, hfz25_3⟩ := aC4 BK204) | ((with_reducible refine gate_builtin (b := .append) (xs := #[.tmp 19, .tmp 21]) rfl ?_); at_builtin; refine Kd.R_append k49 (w0 := w) w.heap.size rfl (.tmp 19) (.tmp 21) 22 49 (.agg #[(.int .u8 0), (.int .u8 0), (.int .u8 0), (.int .u8 0)]) 4 rfl Try.underlying22 info49 rfl (by decide) (by omega) u3 x3_1 (⟨1, 0, 0, 0⟩ : S49) [.int .u8 1, .int .u8 0, .int .u8 0, .int .u8 0] (fun k_ => k_ ≠ gb198 ∧ k_ ≠ gb204) (fun _ => False) rfl rfl ?aP (fun _ hk => hk.elim) ?aF ?aO ?aB ?aS ?aL ?_; (case aP => exact k49_mkM _ _ _ (⟨1, 0, 0, 0⟩ : S49)); (case aB => exact (aL HB)); (case aF => exact (fun k_ hk => ⟨Kd.freshB (g := gb198) (o := ob198) (aB BK198) k_ hk, Kd.freshB (g := gb204) (o := .cells #[.int .u8 1, .int .u8 0, .int .u8 0, .int .u8 0] 49 (0, 0)) (aB BK204) k_ hk⟩)); (case aO => exact (aR HO_3)); (case aS => exact (below_size (aL HB))); (case aL => have := LMc19.out; omega); intro v209 w26 ho hb hg hat; rw [← Ny208.out] at ho; replace BK197 := zA.mk (blk_grown (g := gb197) (o := .cells #[.slice none 0 0, .slice none 0 0] 31 (0, 0)) (aB BK197) hg (Kd.R_ne HO_3.out BK197.out (by decide))); replace BK198 := zA.mk (blk_grown (g := gb198) (o := ob198) (aB BK198) hg (Kd.R_away HO_3.out (fun _ hk => hk.1))); replace BK204 := zA.mk (blk_grown (g := gb204) (o := .cells #[.int .u8 1, .int .u8 0, .int .u8 0, .int .u8 0] 49 (0, 0)) (aB BK204) hg (Kd.R_away HO_3.out (fun _ hk => hk.2))); replace HB := zA.mk (hb); have HO210 := zA.mk (ho); clear HO_3; clear ho hb hg hat))
   go_roundg k1
   case measure => have := HK1.out; omega
   case rel => exact ⟨(y208), (wrap64 (x10_1 + 1)), aZ, H', ⟨by have := HK1.out; omega⟩, ⟨by (with_reducible repeat (first | apply Kd.zE | apply Kd.zF | apply Kd.zG)); exact Kd.zQ HO210.out (fun _ hk => hk.1)⟩, ⟨aB BK197⟩, ⟨aB BK198⟩, ⟨aL HB⟩⟩
  rw [if_pos c8] at H; have c8b0 : ((rd y199 x10_1) == 32) = true := beq_iff_eq.mpr c8
  have c8b1 : ((rd y199 x10_1) != 32) = false := bne_eq_false_iff_eq.mpr c8
  clear c8; by_cases c9 : x3_1.length < 35184372088832
  rotate_left
  ·rw [if_neg c9] at H
   exact absurd H (by simp)
  rw [if_pos c9] at H; have LMc9 := zA.mk c9; clear c9; obtain ⟨y205, hy205⟩ : ∃ y_ : List (S49), y_ = (x3_1 ++ [(⟨1, 1, 0, 1⟩ : S49)]) := ⟨_, rfl⟩; replace H : (l4_Text.l0 k1 y205 y199 (y199.length : Int) (wrap64 (x10_1 + 1))) = some (r1, r2) := by first | (rw [hy205]; with_reducible exact H) | (have H2_ := (Option.bind_some _ _).symm.trans H; rw [hy205]; with_reducible exact H2_) | (have H2_ := (Option.bind_some _ _).symm.trans H; with_reducible exact H2_) | with_reducible exact H | (rw [hy205]; exact H) | exact H
  have Ny205 := zA.mk hy205; clear hy205; have H' := zA.mk H
  clear H; have p203 : 0 ≤ (x10_1 : Int) := aD
  have q203 : x10_1 < (y199.length : Int) := aD
  obtain ⟨ad203, e203, hx203_0⟩ := Kd.at_int (HV198.out _ BK198.out) x10_1 p203 q203; obtain rfl : (⟨gb198, 0, none⟩ : Addr) = ad203 := (by injection e203)
  (first | simp only [add_plain] at hx203_0 | simp only [add_at] at hx203_0 | simp only [Addr.add, Nat.zero_add] at hx203_0 | skip)
  replace p203 := eq_true p203; replace q203 := eq_true q203; go_wp2_with (first | ((with_reducible refine gate_dst (N := 6) rfl ?_); refine box_event ?hg (N := 6) ?hd (cs := #[.int .u8 0, .int .u8 0, .int .u8 0, .int .u8 0]) (t := 49) ?hr ?_; (case hd => rfl); (case hg => rfl); (case hr => first | (go_simp; done) | (go_simp; rfl)); intro gb204 hg w10 hbox hb; replace HO_3 := zA.mk (Kd.zM (Kd.R_elderB (aR HO_3) gb204 (Nat.le_of_eq hg.symm)) hb); have BK204 := zA.mk (hbox); have GW204 := zA.mk ((by rw [hg]; exact (below_size (aL HB)) : w.heap.size ≤ gb204)); replace HB := zA.mk (below_step (aL HB) hb); have GE204 := GW204; have NB197_204 := zA.mk ((by rw [hg]; exact Nat.ne_of_lt (blk_lt (aB BK197)) : gb197 ≠ gb204)); have NB204_197 := zA.mk ((by rw [hg]; exact Nat.ne_of_gt (blk_lt (g := gb197) (o := .cells #[.slice none 0 0, .slice none 0 0] 31 (0, 0)) (aB BK197)) : gb204 ≠ gb197)); replace BK197 := zA.mk (blk_below (aB BK197) hb); have NB198_204 := zA.mk ((by rw [hg]; exact Nat.ne_of_lt (blk_lt (aB BK198)) : gb198 ≠ gb204)); have NB204_198 := zA.mk ((by rw [hg]; exact Nat.ne_of_gt (blk_lt (g := gb198) (o := ob198) (aB BK198)) : gb204 ≠ gb198)); replace BK198 := zA.mk (blk_below (aB BK198) hb); clear hb hbox hg; have hnb11 := NB204_197.out; have hnc11 := NB197_204.out; have hnb12 := NB204_198.out; have hnc12 := NB198_204.out; obtain ⟨hcz13_0, hcz13_1, hcz13_2, hcz13_3, hfz13_0, hfz13_1, hfz13_2, hfz13_3⟩ := aC4 BK204) | ((with_reducible refine gate_store (t := 49) (p := 6) rfl ?_); refine store_event (t := 49) (p := 6) (v := ?vo_w14) (w1 := ((((w10.setCell ⟨gb204, 0, none⟩ (.int .u8 1)).setCell ⟨gb204, 1, none⟩ (.int .u8 0)).setCell ⟨gb204, 2, none⟩ (.int .u8 0)).setCell ⟨gb204, 3, none⟩ (.int .u8 0))) ?hg ?ho ?hn ?hr ?_; (case ho => rfl); (case hg => rfl); (case hn => rfl); (case hr => first | (go_simp; done) | (go_simp; rfl)); intro w14 hw; have n0_ : zA (Kd.R k49 49 w14 w.heap.size (fun k_ => k_ ≠ gb198 ∧ k_ ≠ gb204) u3 x3_1) := ⟨(by rw [hw]; exact (by (with_reducible repeat (first | apply Kd.zE | apply Kd.zF | apply Kd.zG)); exact Kd.zQ (Kd.zN (p := ⟨gb204, 3, none⟩) (Kd.zN (p := ⟨gb204, 2, none⟩) (Kd.zN (p := ⟨gb204, 1, none⟩) (Kd.zN (p := ⟨gb204, 0, none⟩) (Kd.zQ HO_3.out (fun k_ hk => (⟨hk, hk.2⟩ : _ ∧ k_ ≠ gb204))) (fun _ hk => hk.2) (.int .u8 1)) (fun _ hk => hk.2) (.int .u8 0)) (fun _ hk => hk.2) (.int .u8 0)) (fun _ hk => hk.2) (.int .u8 0)) (fun _ hk => ⟨hk.1.1, hk.1.2⟩)))⟩; have n1_ : zA (w14.heap[gb197]? = some (.cells #[.slice none 0 0, .slice none 0 0] 31 (0, 0))) := ⟨(by rw [hw]; exact (aB BK197))⟩; have n2_ : zA (w14.heap[gb198]? = some (ob198)) := ⟨(by rw [hw]; exact (by (with_reducible repeat (first | refine zB ?_ _ | refine zD ?_ | refine zC ?_ _)); refine blk_farO ?_ NB198_204.out _; (with_reducible repeat (first | refine zB ?_ _ | refine zD ?_ | refine zC ?_ _)); refine blk_farO ?_ NB198_204.out _; (with_reducible repeat (first | refine zB ?_ _ | refine zD ?_ | refine zC ?_ _)); refine blk_farO ?_ NB198_204.out _; (with_reducible repeat (first | refine zB ?_ _ | refine zD ?_ | refine zC ?_ _)); refine blk_farO ?_ NB198_204.out _; (with_reducible repeat (first | refine zB ?_ _ | refine zD ?_ | refine zC ?_ _)); exact BK198.out))⟩; have n3_ : zA (w14.heap[gb204]? = some (.cells #[.int .u8 1, .int .u8 0, .int .u8 0, .int .u8 0] 49 (0, 0))) := ⟨(by rw [hw]; exact (by (with_reducible repeat (first | refine zB ?_ _ | refine zD ?_ | refine zC ?_ _)); refine blk_put (cs := #[.int .u8 1, .int .u8 0, .int .u8 0, .int .u8 0]) ?_ 3 _ rfl; (with_reducible repeat (first | refine zB ?_ _ | refine zD ?_ | refine zC ?_ _)); refine blk_put (cs := #[.int .u8 1, .int .u8 0, .int .u8 0, .int .u8 0]) ?_ 2 _ rfl; (with_reducible repeat (first | refine zB ?_ _ | refine zD ?_ | refine zC ?_ _)); refine blk_put (cs := #[.int .u8 1, .int .u8 0, .int .u8 0, .int .u8 0]) ?_ 1 _ rfl; (with_reducible repeat (first | refine zB ?_ _ | refine zD ?_ | refine zC ?_ _)); refine blk_put (cs := #[.int .u8 0, .int .u8 0, .int .u8 0, .int .u8 0]) ?_ 0 _ rfl; (with_reducible repeat (first | refine zB ?_ _ | refine zD ?_ | refine zC ?_ _)); exact BK204.out))⟩; have n4_ : zA (Below w.heap.size w w14) := ⟨(by rw [hw]; exact (aL HB))⟩; clear hw; clear HO_3; clear BK197; clear BK198; clear BK204; clear HB; have HO_3 := n0_; have BK197 := n1_; have BK198 := n2_; have BK204 := n3_; have HB := n4_; clear n0_ n1_ n2_ n3_ n4_; obtain ⟨hcz15_0, hcz15_1, hcz15_2, hcz15_3, hfz15_0, hfz15_1, hfz15_2, hfz15_3⟩ := aC4 BK204) | ((with_reducible refine gate_store (t := 5) (p := 18) rfl ?_); refine store_event (t := 5) (p := 18) (v := ?vo_w16) (w1 := ((w14.setCell ⟨gb204, 1, none⟩ (.int .u8 1)).setCell ⟨gb204, 3, none⟩ (.int .u8 1))) ?hg ?ho ?hn ?hr ?_; (case ho => rfl); (case hg => rfl); (case hn => rfl); (case hr => first | (go_simp; done) | (go_simp; rfl)); intro w16 hw; have n0_ : zA (Kd.R k49 49 w16 w.heap.size (fun k_ => k_ ≠ gb198 ∧ k_ ≠ gb204) u3 x3_1) := ⟨(by rw [hw]; exact (by (with_reducible repeat (first | apply Kd.zE | apply Kd.zF | apply Kd.zG)); exact Kd.zQ (Kd.zN (p := ⟨gb204, 3, none⟩) (Kd.zN (p := ⟨gb204, 1, none⟩) (Kd.zQ HO_3.out (fun k_ hk => (⟨hk, hk.2⟩ : _ ∧ k_ ≠ gb204))) (fun _ hk => hk.2) (.int .u8 1)) (fun _ hk => hk.2) (.int .u8 1)) (fun _ hk => ⟨hk.1.1, hk.1.2⟩)))⟩; have n1_ : zA (w16.heap[gb197]? = some (.cells #[.slice none 0 0, .slice none 0 0] 31 (0, 0))) := ⟨(by rw [hw]; exact (aB BK197))⟩; have n2_ : zA (w16.heap[gb198]? = some (ob198)) := ⟨(by rw [hw]; exact (by (with_reducible repeat (first | refine zB ?_ _ | refine zD ?_ | refine zC ?_ _)); refine blk_farO ?_ NB198_204.out _; (with_reducible repeat (first | refine zB ?_ _ | refine zD ?_ | refine zC ?_ _)); refine blk_farO ?_ NB198_204.out _; (with_reducible repeat (first | refine zB ?_ _ | refine zD ?_ | refine zC ?_ _)); exact BK198.out))⟩; have n3_ : zA (w16.heap[gb204]? = some (.cells #[.int .u8 1, .int .u8 1, .int .u8 0, .int .u8 1] 49 (0, 0))) := ⟨(by rw [hw]; exact (by (with_reducible repeat (first | refine zB ?_ _ | refine zD ?_ | refine zC ?_ _)); refine blk_put (cs := #[.int .u8 1, .int .u8 1, .int .u8 0, .int .u8 0]) ?_ 3 _ rfl; (with_reducible repeat (first | refine zB ?_ _ | refine zD ?_ | refine zC ?_ _)); refine blk_put (cs := #[.int .u8 1, .int .u8 0, .int .u8 0, .int .u8 0]) ?_ 1 _ rfl; (with_reducible repeat (first | refine zB ?_ _ | refine zD ?_ | refine zC ?_ _)); exact BK204.out))⟩; have n4_ : zA (Below w.heap.size w w16) := ⟨(by rw [hw]; exact (aL HB))⟩; clear hw; clear HO_3; clear BK197; clear BK198; clear BK204; clear HB; have HO_3 := n0_; have BK197 := n1_; have BK198 := n2_; have BK204 := n3_; have HB := n4_; clear n0_ n1_ n2_ n3_ n4_; obtain ⟨hcz17_0, hcz17_1, hcz17_2, hcz17_3, hfz17_0, hfz17_1, hfz17_2, hfz17_3⟩ := aC4 BK204) | ((with_reducible refine gate_builtin (b := .append) (xs := #[.tmp 19, .tmp 21]) rfl ?_); at_builtin; refine Kd.R_append k49 (w0 := w) w.heap.size rfl (.tmp 19) (.tmp 21) 22 49 (.agg #[(.int .u8 0), (.int .u8 0), (.int .u8 0), (.int .u8 0)]) 4 rfl Try.underlying22 info49 rfl (by decide) (by omega) u3 x3_1 (⟨1, 1, 0, 1⟩ : S49) [.int .u8 1, .int .u8 1, .int .u8 0, .int .u8 1] (fun k_ => k_ ≠ gb198 ∧ k_ ≠ gb204) (fun _ => False) rfl rfl ?aP (fun _ hk => hk.elim) ?aF ?aO ?aB ?aS ?aL ?_; (case aP => exact k49_mkM _ _ _ (⟨1, 1, 0, 1⟩ : S49)); (case aB => exact (aL HB)); (case aF => exact (fun k_ hk => ⟨Kd.freshB (g := gb198) (o := ob198) (aB BK198) k_ hk, Kd.freshB (g := gb204) (o := .cells #[.int .u8 1, .int .u8 1, .int .u8 0, .int .u8 1] 49 (0, 0)) (aB BK204) k_ hk⟩)); (case aO => exact (aR HO_3)); (case aS => exact (below_size (aL HB))); (case aL => have := LMc9.out; omega); intro v206 w18 ho hb hg hat; rw [← Ny205.out] at ho; replace BK197 := zA.mk (blk_grown (g := gb197) (o := .cells #[.slice none 0 0, .slice none 0 0] 31 (0, 0)) (aB BK197) hg (Kd.R_ne HO_3.out BK197.out (by decide))); replace BK198 := zA.mk (blk_grown (g := gb198) (o := ob198) (aB BK198) hg (Kd.R_away HO_3.out (fun _ hk => hk.1))); replace BK204 := zA.mk (blk_grown (g := gb204) (o := .cells #[.int .u8 1, .int .u8 1, .int .u8 0, .int .u8 1] 49 (0, 0)) (aB BK204) hg (Kd.R_away HO_3.out (fun _ hk => hk.2))); replace HB := zA.mk (hb); have HO207 := zA.mk (ho); clear HO_3; clear ho hb hg hat))
  go_roundg k1
  case measure => have := HK1.out; omega
  case rel => exact ⟨(y205), (wrap64 (x10_1 + 1)), aZ, H', ⟨by have := HK1.out; omega⟩, ⟨by (with_reducible repeat (first | apply Kd.zE | apply Kd.zF | apply Kd.zG)); exact Kd.zQ HO207.out (fun _ hk => hk.1)⟩, ⟨aB BK197⟩, ⟨aB BK198⟩, ⟨aL HB⟩⟩
attribute [local go_sem high] eqA45
def l4_Awake.f (k : Nat)  : Option (Bool) := (l4_Text.f k (⟨#[97, 97, 32, 98, 98]⟩ : ByteArray)).bind fun bt218 => ((first_Break.f k bt218.1 bt218.2 0 5 3 8 0 0 0 0).bind fun t224 => ((l4_Text.f k (⟨#[97, 97, 97, 97]⟩ : ByteArray)).bind fun bt227 => ((first_Break.f k bt227.1 bt227.2 0 4 3 8 0 0 0 0).bind fun t233 => (if (t224.length : Int) = 2 then (if 0 < (t224.length : Int) then (if (((rd_T45 t224 0).f0) == 0 && (((rd_T45 t224 0).f1) == 3 && (((rd_T45 t224 0).f2) == 2 && (((rd_T45 t224 0).f3) == 1)))) = true then (if (t233.length : Int) = 2 then (if 0 < (t233.length : Int) then (if ((rd_T45 t233 0).f3) = 4 then (if ((rd_T45 t233 0).f2) = 3 then (if 1 < (t233.length : Int) then (some (((rd_T45 t233 1).f2) == 1)) else (none)) else (some false)) else (some false)) else (none)) else (some false)) else (some false)) else (none)) else (some false)))))
theorem l4_Awake.mono : ∀ k, LeO (l4_Awake.f k ) (l4_Awake.f (k + 1) ) := by
 intro  k
 unfold l4_Awake.f
 repeat' (with_reducible first | exact first_Break.mono _ _ _ _ _ _ _ _ _ _ _ | exact l4_Text.mono _ _ | exact LeO.refl _ | exact LeO.none _ | refine LeO.ite ?_ ?_ | refine LeO.bind ?_ (fun _ => ?_))
def l4_Awake.T2 : Bool × List (List Nat × List Nat) := (true, [([], []), ([], []), ([0, 1, 0], [0, 1]), ([2], []), ([], []), ([3, 4, 3], [3, 4]), ([2, 5, 0, 1, 2], [2]), ([5, 6, 0, 1, 2, 3, 4, 5, 6], [5])])
def l4_Awake.B2 : List Nat := [0, 0, 3, 7, 0, 31, 63, 127]
theorem l4_Awake.tab2 : rtab .any (opsOf Try.f12 2) = l4_Awake.T2 := by kernel_rfl
theorem l4_Awake.bits2 : waitsOk l4_Awake.T2.2 l4_Awake.B2 = true := by kernel_rfl
set_option maxHeartbeats 8000000 in
set_option maxRecDepth 100000 in
theorem l4_Awake.calls (k : Nat)  (r : Bool) (w : World) (h : l4_Awake.f k  = some r) (hrt_ : zA (r = true)) :
  Calls Try.prog 12 #[] w fun e w' => e = .returned (.bool r) ∧ Below w.heap.size w w' := by
 have hu35 := Try.underlying35; have hu45 := Try.underlying45; have HB := zA.mk (Below.refl w.heap.size w); have H : ((l4_Text.f k (⟨#[97, 97, 32, 98, 98]⟩ : ByteArray)).bind fun bt218 => ((first_Break.f k bt218.1 bt218.2 0 5 3 8 0 0 0 0).bind fun t224 => ((l4_Text.f k (⟨#[97, 97, 97, 97]⟩ : ByteArray)).bind fun bt227 => ((first_Break.f k bt227.1 bt227.2 0 4 3 8 0 0 0 0).bind fun t233 => (if (t224.length : Int) = 2 then (if 0 < (t224.length : Int) then (if (((rd_T45 t224 0).f0) == 0 && (((rd_T45 t224 0).f1) == 3 && (((rd_T45 t224 0).f2) == 2 && (((rd_T45 t224 0).f3) == 1)))) = true then (if (t233.length : Int) = 2 then (if 0 < (t233.length : Int) then (if ((rd_T45 t233 0).f3) = 4 then (if ((rd_T45 t233 0).f2) = 3 then (if 1 < (t233.length : Int) then (some (((rd_T45 t233 1).f2) == 1)) else (none)) else (some false)) else (some false)) else (none)) else (some false)) else (some false)) else (none)) else (some false)))))) = some r := h
 clear h; replace H := Option.bind_eq_some_iff.mp H; obtain ⟨⟨t218, t221⟩, A10, H⟩ := H; replace H : ((first_Break.f k t218 t221 0 5 3 8 0 0 0 0).bind fun t224 => ((l4_Text.f k (⟨#[97, 97, 97, 97]⟩ : ByteArray)).bind fun bt227 => ((first_Break.f k bt227.1 bt227.2 0 4 3 8 0 0 0 0).bind fun t233 => (if (t224.length : Int) = 2 then (if 0 < (t224.length : Int) then (if (((rd_T45 t224 0).f0) == 0 && (((rd_T45 t224 0).f1) == 3 && (((rd_T45 t224 0).f2) == 2 && (((rd_T45 t224 0).f3) == 1)))) = true then (if (t233.length : Int) = 2 then (if 0 < (t233.length : Int) then (if ((rd_T45 t233 0).f3) = 4 then (if ((rd_T45 t233 0).f2) = 3 then (if 1 < (t233.length : Int) then (some (((rd_T45 t233 1).f2) == 1)) else (none)) else (some false)) else (some false)) else (none)) else (some false)) else (some false)) else (none)) else (some false))))) = some r := H
 have A1 := zA.mk A10; clear A10; replace H := Option.bind_eq_some_iff.mp H; obtain ⟨t224, A20, H⟩ := H; replace H : ((l4_Text.f k (⟨#[97, 97, 97, 97]⟩ : ByteArray)).bind fun bt227 => ((first_Break.f k bt227.1 bt227.2 0 4 3 8 0 0 0 0).bind fun t233 => (if (t224.length : Int) = 2 then (if 0 < (t224.length : Int) then (if (((rd_T45 t224 0).f0) == 0 && (((rd_T45 t224 0).f1) == 3 && (((rd_T45 t224 0).f2) == 2 && (((rd_T45 t224 0).f3) == 1)))) = true then (if (t233.length : Int) = 2 then (if 0 < (t233.length : Int) then (if ((rd_T45 t233 0).f3) = 4 then (if ((rd_T45 t233 0).f2) = 3 then (if 1 < (t233.length : Int) then (some (((rd_T45 t233 1).f2) == 1)) else (none)) else (some false)) else (some false)) else (none)) else (some false)) else (some false)) else (none)) else (some false)))) = some r := H
 have A2 := zA.mk A20; clear A20; replace H := Option.bind_eq_some_iff.mp H; obtain ⟨⟨t227, t230⟩, A30, H⟩ := H; replace H : ((first_Break.f k t227 t230 0 4 3 8 0 0 0 0).bind fun t233 => (if (t224.length : Int) = 2 then (if 0 < (t224.length : Int) then (if (((rd_T45 t224 0).f0) == 0 && (((rd_T45 t224 0).f1) == 3 && (((rd_T45 t224 0).f2) == 2 && (((rd_T45 t224 0).f3) == 1)))) = true then (if (t233.length : Int) = 2 then (if 0 < (t233.length : Int) then (if ((rd_T45 t233 0).f3) = 4 then (if ((rd_T45 t233 0).f2) = 3 then (if 1 < (t233.length : Int) then (some (((rd_T45 t233 1).f2) == 1)) else (none)) else (some false)) else (some false)) else (none)) else (some false)) else (some false)) else (none)) else (some false))) = some r := H
 have A3 := zA.mk A30; clear A30; replace H := Option.bind_eq_some_iff.mp H; obtain ⟨t233, A40, H⟩ := H; replace H : (if (t224.length : Int) = 2 then (if 0 < (t224.length : Int) then (if (((rd_T45 t224 0).f0) == 0 && (((rd_T45 t224 0).f1) == 3 && (((rd_T45 t224 0).f2) == 2 && (((rd_T45 t224 0).f3) == 1)))) = true then (if (t233.length : Int) = 2 then (if 0 < (t233.length : Int) then (if ((rd_T45 t233 0).f3) = 4 then (if ((rd_T45 t233 0).f2) = 3 then (if 1 < (t233.length : Int) then (some (((rd_T45 t233 1).f2) == 1)) else (none)) else (some false)) else (some false)) else (none)) else (some false)) else (some false)) else (none)) else (some false)) = some r := H; have A4 := zA.mk A40; clear A40; by_cases c5 : (t224.length : Int) = 2
 rotate_left
 ·rw [if_neg c5] at H
  have c5b0 : ((t224.length : Int) == 2) = false := beq_eq_false_iff_ne.mpr c5
  have c5b1 : ((t224.length : Int) != 2) = true := bne_iff_ne.mpr c5
  exact absurd ((Option.some.inj H).trans hrt_.out) (by decide)
 rw [if_pos c5] at H; have c5b0 : ((t224.length : Int) == 2) = true := beq_iff_eq.mpr c5
 have c5b1 : ((t224.length : Int) != 2) = false := bne_eq_false_iff_eq.mpr c5
 clear c5; by_cases c6 : 0 < (t224.length : Int)
 rotate_left
 ·rw [if_neg c6] at H
  exact absurd H (by simp)
 rw [if_pos c6] at H; have c6b0 : decide (0 < (t224.length : Int)) = true := decide_eq_true c6
 have c6b1 : decide (0 < t224.length) = true := decide_eq_true (by omega)
 clear c6; by_cases c7 : (((rd_T45 t224 0).f0) == 0 && (((rd_T45 t224 0).f1) == 3 && (((rd_T45 t224 0).f2) == 2 && (((rd_T45 t224 0).f3) == 1)))) = true
 rotate_left
 ·rw [if_neg c7] at H
  have c7b0 : (((rd_T45 t224 0).f0) == 0 && (((rd_T45 t224 0).f1) == 3 && (((rd_T45 t224 0).f2) == 2 && (((rd_T45 t224 0).f3) == 1)))) = false := by simpa using c7
  (try (have c7b1 : decide (((rd_T45 t224 0).f0) = 0 && (((rd_T45 t224 0).f1) == 3 && (((rd_T45 t224 0).f2) == 2 && (((rd_T45 t224 0).f3) == 1)))) = false := by simpa using c7))
  (try (have c7b2 : (((rd_T45 t224 0).f0) == 0 && (((rd_T45 t224 0).f1) == 3 && (((rd_T45 t224 0).f2) == 2 && (((rd_T45 t224 0).f3) == 1)))) = false := by simpa using c7))
  (try (have c7b3 : ¬ (((rd_T45 t224 0).f0) = 0 && (((rd_T45 t224 0).f1) == 3 && (((rd_T45 t224 0).f2) == 2 && (((rd_T45 t224 0).f3) == 1)))) := by simpa using c7))
  clear c7; exact absurd ((Option.some.inj H).trans hrt_.out) (by decide)
 rw [if_pos c7] at H; have c7b0 : (((rd_T45 t224 0).f0) == 0 && (((rd_T45 t224 0).f1) == 3 && (((rd_T45 t224 0).f2) == 2 && (((rd_T45 t224 0).f3) == 1)))) = true := c7
 (try (have c7b1 : decide (((rd_T45 t224 0).f0) = 0 && (((rd_T45 t224 0).f1) == 3 && (((rd_T45 t224 0).f2) == 2 && (((rd_T45 t224 0).f3) == 1)))) = true := by simpa using c7))
 (try (have c7b2 : (((rd_T45 t224 0).f0) == 0 && (((rd_T45 t224 0).f1) == 3 && (((rd_T45 t224 0).f2) == 2 && (((rd_T45 t224 0).f3) == 1)))) = true := by simpa using c7))
 clear c7; by_cases c8 : (t233.length : Int) = 2
 rotate_left
 ·rw [if_neg c8] at H
  have c8b0 : ((t233.length : Int) == 2) = false := beq_eq_false_iff_ne.mpr c8
  have c8b1 : ((t233.length : Int) != 2) = true := bne_iff_ne.mpr c8
  exact absurd ((Option.some.inj H).trans hrt_.out) (by decide)
 rw [if_pos c8] at H; have c8b0 : ((t233.length : Int) == 2) = true := beq_iff_eq.mpr c8
 have c8b1 : ((t233.length : Int) != 2) = false := bne_eq_false_iff_eq.mpr c8
 clear c8; by_cases c9 : 0 < (t233.length : Int)
 rotate_left
 ·rw [if_neg c9] at H
  exact absurd H (by simp)
 rw [if_pos c9] at H; have c9b0 : decide (0 < (t233.length : Int)) = true := decide_eq_true c9
 have c9b1 : decide (0 < t233.length) = true := decide_eq_true (by omega)
 clear c9; by_cases c10 : ((rd_T45 t233 0).f3) = 4
 rotate_left
 ·rw [if_neg c10] at H
  have c10b0 : (((rd_T45 t233 0).f3) == 4) = false := beq_eq_false_iff_ne.mpr c10
  have c10b1 : (((rd_T45 t233 0).f3) != 4) = true := bne_iff_ne.mpr c10
  exact absurd ((Option.some.inj H).trans hrt_.out) (by decide)
 rw [if_pos c10] at H; have c10b0 : (((rd_T45 t233 0).f3) == 4) = true := beq_iff_eq.mpr c10
 have c10b1 : (((rd_T45 t233 0).f3) != 4) = false := bne_eq_false_iff_eq.mpr c10
 clear c10; by_cases c11 : ((rd_T45 t233 0).f2) = 3
 rotate_left
 ·rw [if_neg c11] at H
  have c11b0 : (((rd_T45 t233 0).f2) == 3) = false := beq_eq_false_iff_ne.mpr c11
  have c11b1 : (((rd_T45 t233 0).f2) != 3) = true := bne_iff_ne.mpr c11
  exact absurd ((Option.some.inj H).trans hrt_.out) (by decide)
 rw [if_pos c11] at H; have c11b0 : (((rd_T45 t233 0).f2) == 3) = true := beq_iff_eq.mpr c11
 have c11b1 : (((rd_T45 t233 0).f2) != 3) = false := bne_eq_false_iff_eq.mpr c11
 clear c11; by_cases c12 : 1 < (t233.length : Int)
 rotate_left
 ·rw [if_neg c12] at H
  exact absurd H (by simp)
 rw [if_pos c12] at H; have c12b0 : decide (1 < (t233.length : Int)) = true := decide_eq_true c12
 have c12b1 : decide (1 < t233.length) = true := decide_eq_true (by omega)
 clear c12; obtain rfl := Option.some.inj H
 go_enter Try.func12, Try.ntmps12
 try go_wp2_with (first | ((with_reducible refine gate_dst (N := 1) rfl ?_); (try (refine gate_guard (by rfl) ?_; dsimp only)); refine box_event ?hg (N := 1) ?hd (cs := #[.int .i64 0, .int .i64 0, .int .u8 0, .int .i64 0, .int .i64 0, .float .f64 0]) (t := 35) ?hr ?_; (case hd => rfl); (case hg => rfl); (case hr => first | (go_simp; done) | (go_simp; rfl)); intro gb217 hg w13 hbox hb; have BK217 := zA.mk (hbox); have GW217 := zA.mk ((by rw [hg]; exact (below_size (aL HB)) : w.heap.size ≤ gb217)); replace HB := zA.mk (below_step (aL HB) hb); have GE217 := GW217; clear hb hbox hg; obtain ⟨hcz14_0, hcz14_1, hcz14_2, hcz14_3, hcz14_4, hcz14_5, hfz14_0, hfz14_1, hfz14_2, hfz14_3, hfz14_4, hfz14_5⟩ := aC6 BK217) | ((with_reducible refine gate_store (t := 35) (p := 1) rfl ?_); refine store_event (t := 35) (p := 1) (v := ?vo_w15) (w1 := ((((((w13.setCell ⟨gb217, 0, none⟩ (.int .i64 3)).setCell ⟨gb217, 1, none⟩ (.int .i64 8)).setCell ⟨gb217, 2, none⟩ (.int .u8 0)).setCell ⟨gb217, 3, none⟩ (.int .i64 0)).setCell ⟨gb217, 4, none⟩ (.int .i64 0)).setCell ⟨gb217, 5, none⟩ (.float .f64 0))) ?hg ?ho ?hn ?hr ?_; (case ho => rfl); (case hg => rfl); (case hn => rfl); (case hr => first | (go_simp; done) | (go_simp; rfl)); intro w15 hw; have n0_ : zA (w15.heap[gb217]? = some (.cells #[.int .i64 3, .int .i64 8, .int .u8 0, .int .i64 0, .int .i64 0, .float .f64 0] 35 (0, 0))) := ⟨(by rw [hw]; exact (by (with_reducible repeat (first | refine zB ?_ _ | refine zD ?_ | refine zC ?_ _)); refine blk_put (cs := #[.int .i64 3, .int .i64 8, .int .u8 0, .int .i64 0, .int .i64 0, .float .f64 0]) ?_ 5 _ rfl; (with_reducible repeat (first | refine zB ?_ _ | refine zD ?_ | refine zC ?_ _)); refine blk_put (cs := #[.int .i64 3, .int .i64 8, .int .u8 0, .int .i64 0, .int .i64 0, .float .f64 0]) ?_ 4 _ rfl; (with_reducible repeat (first | refine zB ?_ _ | refine zD ?_ | refine zC ?_ _)); refine blk_put (cs := #[.int .i64 3, .int .i64 8, .int .u8 0, .int .i64 0, .int .i64 0, .float .f64 0]) ?_ 3 _ rfl; (with_reducible repeat (first | refine zB ?_ _ | refine zD ?_ | refine zC ?_ _)); refine blk_put (cs := #[.int .i64 3, .int .i64 8, .int .u8 0, .int .i64 0, .int .i64 0, .float .f64 0]) ?_ 2 _ rfl; (with_reducible repeat (first | refine zB ?_ _ | refine zD ?_ | refine zC ?_ _)); refine blk_put (cs := #[.int .i64 3, .int .i64 0, .int .u8 0, .int .i64 0, .int .i64 0, .float .f64 0]) ?_ 1 _ rfl; (with_reducible repeat (first | refine zB ?_ _ | refine zD ?_ | refine zC ?_ _)); refine blk_put (cs := #[.int .i64 0, .int .i64 0, .int .u8 0, .int .i64 0, .int .i64 0, .float .f64 0]) ?_ 0 _ rfl; (with_reducible repeat (first | refine zB ?_ _ | refine zD ?_ | refine zC ?_ _)); exact BK217.out))⟩; have n1_ : zA (Below w.heap.size w w15) := ⟨(by rw [hw]; exact (aL HB))⟩; clear hw; clear BK217; clear HB; have BK217 := n0_; have HB := n1_; clear n0_ n1_))
 replace BK217 := zA.mk (zD BK217.out); replace HB := zA.mk (below_drew1 HB.out); refine start_ (n := 8) (S := fun w' => w'.cell? ⟨gb217, 0, none⟩ = some (.int .i64 3) ∧ w'.cell? ⟨gb217, 1, none⟩ = some (.int .i64 8) ∧ w'.cell? ⟨gb217, 2, none⟩ = some (.int .u8 0) ∧ w'.cell? ⟨gb217, 3, none⟩ = some (.int .i64 0) ∧ w'.cell? ⟨gb217, 4, none⟩ = some (.int .i64 0) ∧ w'.cell? ⟨gb217, 5, none⟩ = some (.float .f64 0)) (ds := []) #[false, false, false, false, false, false, false, false] (by kernel_rfl) rfl rfl ⟨(blk_cell BK217.out 0).trans rfl, (blk_cell BK217.out 1).trans rfl, (blk_cell BK217.out 2).trans rfl, (blk_cell BK217.out 3).trans rfl, (blk_cell BK217.out 4).trans rfl, (blk_cell BK217.out 5).trans rfl⟩ (fun hHeld => ?_); refine with_tabW l4_Awake.tab2 l4_Awake.bits2 (fun HT_ HW_ => ?_)
 generalize w15.drew = w16 at BK217 HB hHeld ⊢
 refine take_ (i := 1) (N := some 6) (v := ?_) (a' := ?_) (tb_ 2 8) rfl rfl (take_ofW HT_.out HW_.out (by kernel_rfl)) (fun _ _ _ h => h) (Or.inl ⟨by rfl, ?_⟩) hHeld ?_ ?_
 rotate_left
 ·rintro w' ⟨s0, s1, s2, s3, s4, s5⟩
  go_simp
  with_reducible rfl
 rotate_left
 ·simp only [Act.put, sA_, sB_, sC_, i64_w, i32_w]
  rfl
 refine take_ (i := 4) (N := some 9) (v := ?_) (a' := ?_) (tb_ 18 8) rfl rfl (take_ofW HT_.out HW_.out (by kernel_rfl)) (fun _ _ _ h => h) (Or.inl ⟨by rfl, ?_⟩) hHeld ?_ ?_
 rotate_left
 ·rintro w' ⟨s0, s1, s2, s3, s4, s5⟩
  go_simp
  with_reducible rfl
 rotate_left
 ·simp only [Act.put, sA_, sB_, sC_, i64_w, i32_w]
  rfl
 refine one_ (i := 0) (N := some 5) (tb_ 19 8) rfl rfl (one_of HT_.out (by kernel_rfl)) (by decide) (fun K hK => ?_)
 refine goes_ Try.func28 (by kernel_rfl) rfl #[.string (⟨#[97, 97, 32, 98, 98]⟩ : ByteArray)] (by rfl) rfl rfl aT ?_
 with_reducible refine (l4_Text.calls k (⟨#[97, 97, 32, 98, 98]⟩ : ByteArray) t218 t221 _ A1.out).mono ?_
 rintro e w17 ⟨v219, v222, rfl, ho0, ho1, hb⟩
 refine ⟨_, rfl, ?_⟩
 have HO220 := zA.mk (Kd.zP ho0 (below_size (aL HB))); have HO223 := zA.mk (Kd.zP ho1 (below_size (aL HB))); replace BK217 := zA.mk (blk_below (aB BK217) hb); replace HB := zA.mk (below_step (aL HB) hb); (try clear hb)
 (try clear hb2)
 (try clear hk)
 (try clear hi)
 (try clear ho0)
 (try clear ho1)
 obtain ⟨Ao18, co18, eo18⟩ := Kd.zO HO220.out; (first | subst eo18 | (injection eo18 with f1_ f2_ f3_; have f4_ := f1_.symm; have f5_ := f3_.symm; clear f1_ f2_ f3_; subst f4_; subst f5_))
 obtain ⟨Ao19, co19, eo19⟩ := Kd.zO HO223.out; (first | subst eo19 | (injection eo19 with f1_ f2_ f3_; have f4_ := f1_.symm; have f5_ := f3_.symm; clear f1_ f2_ f3_; subst f4_; subst f5_))
 refine hK.out _ _ ⟨(blk_cell BK217.out 0).trans rfl, (blk_cell BK217.out 1).trans rfl, (blk_cell BK217.out 2).trans rfl, (blk_cell BK217.out 3).trans rfl, (blk_cell BK217.out 4).trans rfl, (blk_cell BK217.out 5).trans rfl⟩ (fun hHeld => ?_)
 clear hK K; refine norm_ (a' := ?_) ?_ ?_
 rotate_left
 ·show Act.put _ (some 5) _ = _
  simp only [Act.put, sA_, sB_, sC_, i64_w, i32_w]; rfl
 refine one_ (i := 2) (N := some 7) (tb_ 23 8) rfl rfl (one_of HT_.out (by kernel_rfl)) (by decide) (fun K hK => ?_)
 refine goes_ Try.func17 (by kernel_rfl) rfl #[.agg #[.slice Ao18 t218.length co18, .slice Ao19 t221.length co19], .int .i64 0, .int .i64 5, .agg #[.int .i64 3, .int .i64 8, .int .u8 0, .int .i64 0, .int .i64 0, .float .f64 0]] (by rfl) rfl rfl aT ?_
 with_reducible refine (first_Break.calls k _ _ t218 _ _ t221 0 5 3 8 0 0 0 0 t224 _ ?side1 ?side2 ?side3 ?side4 A2.out).mono ?_
 (case side1 => exact aF HO220)
 (case side2 => exact (Kd.zL HO220.out).2.1)
 (case side3 => exact aF HO223)
 (case side4 => exact (Kd.zL HO223.out).2.1)
 rintro e w20 ⟨v225, rfl, ho0, hb⟩
 refine ⟨_, rfl, ?_⟩
 replace HO220 := zA.mk (Kd.zM (aR HO220) hb); replace HO223 := zA.mk (Kd.zM (aR HO223) hb); have HO226 := zA.mk (Kd.zP ho0 (below_size (aL HB))); replace BK217 := zA.mk (blk_below (aB BK217) hb); replace HB := zA.mk (below_step (aL HB) hb); (try clear hb)
 (try clear hb2)
 (try clear hk)
 (try clear hi)
 (try clear ho0)
 refine hK.out _ _ ⟨(blk_cell BK217.out 0).trans rfl, (blk_cell BK217.out 1).trans rfl, (blk_cell BK217.out 2).trans rfl, (blk_cell BK217.out 3).trans rfl, (blk_cell BK217.out 4).trans rfl, (blk_cell BK217.out 5).trans rfl⟩ (fun hHeld => ?_)
 clear hK K; refine norm_ (a' := ?_) ?_ ?_
 rotate_left
 ·show Act.put _ (some 7) _ = _
  simp only [Act.put, sA_, sB_, sC_, i64_w, i32_w]; rfl
 refine one_ (i := 3) (N := some 8) (tb_ 31 8) rfl rfl (one_of HT_.out (by kernel_rfl)) (by decide) (fun K hK => ?_)
 refine goes_ Try.func28 (by kernel_rfl) rfl #[.string (⟨#[97, 97, 97, 97]⟩ : ByteArray)] (by rfl) rfl rfl aT ?_
 with_reducible refine (l4_Text.calls k (⟨#[97, 97, 97, 97]⟩ : ByteArray) t227 t230 _ A3.out).mono ?_
 rintro e w21 ⟨v228, v231, rfl, ho0, ho1, hb⟩
 refine ⟨_, rfl, ?_⟩
 replace HO226 := zA.mk (Kd.zM (aR HO226) hb); have HO229 := zA.mk (Kd.zP (Kd.R_new' ho0 (Kd.R_lt (aR HO220))) (below_size (aL HB))); replace HO220 := zA.mk (Kd.R_elder' (aR HO220) (Kd.R_base ho0) hb); have HO232 := zA.mk (Kd.zP (Kd.R_new' ho1 (Kd.R_lt (aR HO223))) (below_size (aL HB))); replace HO223 := zA.mk (Kd.R_elder' (aR HO223) (Kd.R_base ho1) hb); replace BK217 := zA.mk (blk_below (aB BK217) hb); replace HB := zA.mk (below_step (aL HB) hb); (try clear hb)
 (try clear hb2)
 (try clear hk)
 (try clear hi)
 (try clear ho0)
 (try clear ho1)
 obtain ⟨Ao22, co22, eo22⟩ := Kd.zO HO229.out; (first | subst eo22 | (injection eo22 with f1_ f2_ f3_; have f4_ := f1_.symm; have f5_ := f3_.symm; clear f1_ f2_ f3_; subst f4_; subst f5_))
 obtain ⟨Ao23, co23, eo23⟩ := Kd.zO HO232.out; (first | subst eo23 | (injection eo23 with f1_ f2_ f3_; have f4_ := f1_.symm; have f5_ := f3_.symm; clear f1_ f2_ f3_; subst f4_; subst f5_))
 refine hK.out _ _ ⟨(blk_cell BK217.out 0).trans rfl, (blk_cell BK217.out 1).trans rfl, (blk_cell BK217.out 2).trans rfl, (blk_cell BK217.out 3).trans rfl, (blk_cell BK217.out 4).trans rfl, (blk_cell BK217.out 5).trans rfl⟩ (fun hHeld => ?_)
 clear hK K; refine norm_ (a' := ?_) ?_ ?_
 rotate_left
 ·show Act.put _ (some 8) _ = _
  simp only [Act.put, sA_, sB_, sC_, i64_w, i32_w]; rfl
 refine one_ (i := 5) (N := some 10) (tb_ 63 8) rfl rfl (one_of HT_.out (by kernel_rfl)) (by decide) (fun K hK => ?_)
 refine goes_ Try.func17 (by kernel_rfl) rfl #[.agg #[.slice Ao22 t227.length co22, .slice Ao23 t230.length co23], .int .i64 0, .int .i64 4, .agg #[.int .i64 3, .int .i64 8, .int .u8 0, .int .i64 0, .int .i64 0, .float .f64 0]] (by rfl) rfl rfl aT ?_
 with_reducible refine (first_Break.calls k _ _ t227 _ _ t230 0 4 3 8 0 0 0 0 t233 _ ?side1 ?side2 ?side3 ?side4 A4.out).mono ?_
 (case side1 => exact aF HO229)
 (case side2 => exact (Kd.zL HO229.out).2.1)
 (case side3 => exact aF HO232)
 (case side4 => exact (Kd.zL HO232.out).2.1)
 rintro e w24 ⟨v234, rfl, ho0, hb⟩
 refine ⟨_, rfl, ?_⟩
 replace HO220 := zA.mk (Kd.zM (aR HO220) hb); replace HO223 := zA.mk (Kd.zM (aR HO223) hb); replace HO229 := zA.mk (Kd.zM (aR HO229) hb); replace HO232 := zA.mk (Kd.zM (aR HO232) hb); have HO235 := zA.mk (Kd.zP (Kd.R_new' ho0 (Kd.R_lt (aR HO226))) (below_size (aL HB))); replace HO226 := zA.mk (Kd.R_elder' (aR HO226) (Kd.R_base ho0) hb); replace BK217 := zA.mk (blk_below (aB BK217) hb); replace HB := zA.mk (below_step (aL HB) hb); (try clear hb)
 (try clear hb2)
 (try clear hk)
 (try clear hi)
 (try clear ho0)
 refine hK.out _ _ ⟨(blk_cell BK217.out 0).trans rfl, (blk_cell BK217.out 1).trans rfl, (blk_cell BK217.out 2).trans rfl, (blk_cell BK217.out 3).trans rfl, (blk_cell BK217.out 4).trans rfl, (blk_cell BK217.out 5).trans rfl⟩ (fun hHeld => ?_)
 clear hK K; refine norm_ (a' := ?_) ?_ ?_
 rotate_left
 ·show Act.put _ (some 10) _ = _
  simp only [Act.put, sA_, sB_, sC_, i64_w, i32_w]; rfl
 refine aP 6 (some 2) (tf_ 7 8) HT_ ?_
 refine aP 7 (some 3) (tb_ 255 8) HT_ ?_
 refine done_ (done_of HT_.out (by kernel_rfl)) ?_
 obtain ⟨Ao25, co25, eo25⟩ := Kd.zO HO226.out; subst eo25; have p236 : 0 ≤ (0 : Int) := (by omega)
 have q236 : 0 < (t224.length : Int) := aD
 obtain ⟨ad236, e236, hx236_0, hx236_1, hx236_2, hx236_3⟩ := at_T45 (Kd.zL HO226.out).2.2 0 p236 q236; cases e236
 have qi236 : (0 < t224.length) = True := eq_true (by omega)
 (try rw [show ((0 : Int)).toNat = 0 from rfl] at hx236_0)
 (try rw [show 0 * 4 = 0 from rfl] at hx236_0)
 (try rw [Addr.add_zero'] at hx236_0)
 (try rw [show ((0 : Int)).toNat = 0 from rfl] at hx236_1)
 (try rw [show 0 * 4 = 0 from rfl] at hx236_1)
 (try rw [Addr.add_zero'] at hx236_1)
 (try rw [show ((0 : Int)).toNat = 0 from rfl] at hx236_2)
 (try rw [show 0 * 4 = 0 from rfl] at hx236_2)
 (try rw [Addr.add_zero'] at hx236_2)
 (try rw [show ((0 : Int)).toNat = 0 from rfl] at hx236_3)
 (try rw [show 0 * 4 = 0 from rfl] at hx236_3)
 (try rw [Addr.add_zero'] at hx236_3)
 replace p236 := eq_true p236; replace q236 := eq_true q236; obtain ⟨Ao26, co26, eo26⟩ := Kd.zO HO235.out; subst eo26; have p237 : 0 ≤ (0 : Int) := (by omega)
 have q237 : 0 < (t233.length : Int) := aD
 obtain ⟨ad237, e237, hx237_0, hx237_1, hx237_2, hx237_3⟩ := at_T45 (Kd.zL HO235.out).2.2 0 p237 q237; cases e237
 have qi237 : (0 < t233.length) = True := eq_true (by omega)
 (try rw [show ((0 : Int)).toNat = 0 from rfl] at hx237_0)
 (try rw [show 0 * 4 = 0 from rfl] at hx237_0)
 (try rw [Addr.add_zero'] at hx237_0)
 (try rw [show ((0 : Int)).toNat = 0 from rfl] at hx237_1)
 (try rw [show 0 * 4 = 0 from rfl] at hx237_1)
 (try rw [Addr.add_zero'] at hx237_1)
 (try rw [show ((0 : Int)).toNat = 0 from rfl] at hx237_2)
 (try rw [show 0 * 4 = 0 from rfl] at hx237_2)
 (try rw [Addr.add_zero'] at hx237_2)
 (try rw [show ((0 : Int)).toNat = 0 from rfl] at hx237_3)
 (try rw [show 0 * 4 = 0 from rfl] at hx237_3)
 (try rw [Addr.add_zero'] at hx237_3)
 replace p237 := eq_true p237; replace q237 := eq_true q237; have p238 : 0 ≤ (0 : Int) := (by omega)
 have q238 : 0 < (t233.length : Int) := aD
 obtain ⟨ad238, e238, hx238_0, hx238_1, hx238_2, hx238_3⟩ := at_T45 (Kd.zL HO235.out).2.2 0 p238 q238; obtain rfl : ad237 = ad238 := (by injection e238)
 have qi238 : (0 < t233.length) = True := eq_true (by omega)
 (try rw [show ((0 : Int)).toNat = 0 from rfl] at hx238_0)
 (try rw [show 0 * 4 = 0 from rfl] at hx238_0)
 (try rw [Addr.add_zero'] at hx238_0)
 (try rw [show ((0 : Int)).toNat = 0 from rfl] at hx238_1)
 (try rw [show 0 * 4 = 0 from rfl] at hx238_1)
 (try rw [Addr.add_zero'] at hx238_1)
 (try rw [show ((0 : Int)).toNat = 0 from rfl] at hx238_2)
 (try rw [show 0 * 4 = 0 from rfl] at hx238_2)
 (try rw [Addr.add_zero'] at hx238_2)
 (try rw [show ((0 : Int)).toNat = 0 from rfl] at hx238_3)
 (try rw [show 0 * 4 = 0 from rfl] at hx238_3)
 (try rw [Addr.add_zero'] at hx238_3)
 replace p238 := eq_true p238; replace q238 := eq_true q238; have p239 : 0 ≤ (1 : Int) := (by omega)
 have q239 : 1 < (t233.length : Int) := aD
 obtain ⟨ad239, e239, hx239_0, hx239_1, hx239_2, hx239_3⟩ := at_T45 (Kd.zL HO235.out).2.2 1 p239 q239; obtain rfl : ad237 = ad239 := (by injection e239)
 (try simp only [show (1 : Int).toNat = 1 from rfl, Nat.reduceMul, Nat.reduceEqDiff, Go.Addr.add, ↓reduceIte] at hx239_0)
 (try simp only [show (1 : Int).toNat = 1 from rfl, Nat.reduceMul, Nat.reduceEqDiff, Go.Addr.add, ↓reduceIte] at hx239_1)
 (try simp only [show (1 : Int).toNat = 1 from rfl, Nat.reduceMul, Nat.reduceEqDiff, Go.Addr.add, ↓reduceIte] at hx239_2)
 (try simp only [show (1 : Int).toNat = 1 from rfl, Nat.reduceMul, Nat.reduceEqDiff, Go.Addr.add, ↓reduceIte] at hx239_3)
 have qi239 : (1 < t233.length) = True := eq_true (by omega)
 (try rw [show ((1 : Int)).toNat = 1 from rfl] at hx239_0)
 (try rw [show 1 * 4 = 4 from rfl] at hx239_0)
 (try rw [show ((1 : Int)).toNat = 1 from rfl] at hx239_1)
 (try rw [show 1 * 4 = 4 from rfl] at hx239_1)
 (try rw [show ((1 : Int)).toNat = 1 from rfl] at hx239_2)
 (try rw [show 1 * 4 = 4 from rfl] at hx239_2)
 (try rw [show ((1 : Int)).toNat = 1 from rfl] at hx239_3)
 (try rw [show 1 * 4 = 4 from rfl] at hx239_3)
 replace p239 := eq_true p239; replace q239 := eq_true q239; try go_wp2
 go_ret
 exact ⟨aX, aL HB⟩
def h3_Config.f (a0_0 : Int) (a0_1 : Int) (a0_2 : Int) (a0_3 : Int) (a0_4 : Int) (a0_5 : Nat) : Option (Int × Int × Int × Int × Int × Nat) := some (wrap64 (1 + (wrap64 (a0_0))), wrap64 (1 + (wrap64 (Int.tmod a0_1 64))), Int.tmod a0_2 2, wrap64 (a0_3), wrap64 (a0_4), a0_5)
set_option maxHeartbeats 8000000 in
set_option maxRecDepth 100000 in
theorem h3_Config.calls (a0_0 : Int) (a0_1 : Int) (a0_2 : Int) (a0_3 : Int) (a0_4 : Int) (a0_5 : Nat) (r1 : Int) (r2 : Int) (r3 : Int) (r4 : Int) (r5 : Int) (r6 : Nat) (w : World) (h : h3_Config.f a0_0 a0_1 a0_2 a0_3 a0_4 a0_5 = some (r1, r2, r3, r4, r5, r6)) :
  Calls Try.prog 14 #[.agg #[.int .u8 a0_0, .int .u8 a0_1, .int .u8 a0_2, .int .u16 a0_3, .int .u16 a0_4, .float .f64 a0_5]] w fun e w' => e = .returned (.agg #[.int .i64 r1, .int .i64 r2, .int .u8 r3, .int .i64 r4, .int .i64 r5, .float .f64 r6]) ∧ Below w.heap.size w w' := by
 have hu26 := Try.underlying26; have hu35 := Try.underlying35; have HB := zA.mk (Below.refl w.heap.size w); have H : (some (wrap64 (1 + (wrap64 (a0_0))), wrap64 (1 + (wrap64 (Int.tmod a0_1 64))), Int.tmod a0_2 2, wrap64 (a0_3), wrap64 (a0_4), a0_5)) = some (r1, r2, r3, r4, r5, r6) := h
 clear h; simp only [Option.some.injEq, Prod.mk.injEq] at H; obtain ⟨rfl, rfl, rfl, rfl, rfl, rfl⟩ := H; go_enter Try.func14, Try.ntmps14
 go_wp2_with (first | ((with_reducible refine gate_dst (N := 1) rfl ?_); refine box_event ?hg (N := 1) ?hd (cs := #[.int .u8 a0_0, .int .u8 a0_1, .int .u8 a0_2, .int .u16 a0_3, .int .u16 a0_4, .float .f64 a0_5]) (t := 26) ?hr ?_; (case hd => rfl); (case hg => rfl); (case hr => first | (go_simp; done) | (go_simp; rfl)); intro gb240 hg w2 hbox hb; have BK240 := zA.mk (hbox); have GW240 := zA.mk ((by rw [hg]; exact (below_size (aL HB)) : w.heap.size ≤ gb240)); replace HB := zA.mk (below_step (aL HB) hb); have GE240 := GW240; clear hb hbox hg) | ((with_reducible refine gate_dst (N := 2) rfl ?_); refine box_event ?hg (N := 2) ?hd (cs := #[.int .i64 0, .int .i64 0, .int .u8 0, .int .i64 0, .int .i64 0, .float .f64 0]) (t := 35) ?hr ?_; (case hd => rfl); (case hg => rfl); (case hr => first | (go_simp; done) | (go_simp; rfl)); intro gb241 hg w3 hbox hb; have BK241 := zA.mk (hbox); have GW241 := zA.mk ((by rw [hg]; exact (below_size (aL HB)) : w.heap.size ≤ gb241)); replace HB := zA.mk (below_step (aL HB) hb); have GE241 := GW241; have NB240_241 := zA.mk ((by rw [hg]; exact Nat.ne_of_lt (blk_lt (aB BK240)) : gb240 ≠ gb241)); have NB241_240 := zA.mk ((by rw [hg]; exact Nat.ne_of_gt (blk_lt (g := gb240) (o := .cells #[.int .u8 a0_0, .int .u8 a0_1, .int .u8 a0_2, .int .u16 a0_3, .int .u16 a0_4, .float .f64 a0_5] 26 (0, 0)) (aB BK240)) : gb241 ≠ gb240)); replace BK240 := zA.mk (blk_below (aB BK240) hb); clear hb hbox hg; have hnb4 := NB240_241.out; have hnc4 := NB241_240.out; obtain ⟨hcz5_0, hcz5_1, hcz5_2, hcz5_3, hcz5_4, hcz5_5, hfz5_0, hfz5_1, hfz5_2, hfz5_3, hfz5_4, hfz5_5⟩ := aC6 BK240; obtain ⟨hcz6_0, hcz6_1, hcz6_2, hcz6_3, hcz6_4, hcz6_5, hfz6_0, hfz6_1, hfz6_2, hfz6_3, hfz6_4, hfz6_5⟩ := aC6 BK241) | ((with_reducible refine gate_store (t := 35) (p := 2) rfl ?_); refine store_event (t := 35) (p := 2) (v := ?vo_w7) (w1 := ((((((w3.setCell ⟨gb241, 0, none⟩ (.int .i64 (wrap64 (1 + (wrap64 (a0_0)))))).setCell ⟨gb241, 1, none⟩ (.int .i64 (wrap64 (1 + (wrap64 (Int.tmod a0_1 64)))))).setCell ⟨gb241, 2, none⟩ (.int .u8 (Int.tmod a0_2 2))).setCell ⟨gb241, 3, none⟩ (.int .i64 (wrap64 (a0_3)))).setCell ⟨gb241, 4, none⟩ (.int .i64 (wrap64 (a0_4)))).setCell ⟨gb241, 5, none⟩ (.float .f64 a0_5))) ?hg ?ho ?hn ?hr ?_; (case ho => rfl); (case hg => rfl); (case hn => rfl); (case hr => first | (go_simp; done) | (go_simp; rfl)); intro w7 hw; have n0_ : zA (w7.heap[gb240]? = some (.cells #[.int .u8 a0_0, .int .u8 a0_1, .int .u8 a0_2, .int .u16 a0_3, .int .u16 a0_4, .float .f64 a0_5] 26 (0, 0))) := ⟨(by rw [hw]; exact (aB BK240))⟩; have n1_ : zA (w7.heap[gb241]? = some (.cells #[.int .i64 (wrap64 (1 + (wrap64 (a0_0)))), .int .i64 (wrap64 (1 + (wrap64 (Int.tmod a0_1 64)))), .int .u8 (Int.tmod a0_2 2), .int .i64 (wrap64 (a0_3)), .int .i64 (wrap64 (a0_4)), .float .f64 a0_5] 35 (0, 0))) := ⟨(by rw [hw]; exact (by (with_reducible repeat (first | refine zB ?_ _ | refine zD ?_ | refine zC ?_ _)); refine blk_put (cs := #[.int .i64 (wrap64 (1 + (wrap64 (a0_0)))), .int .i64 (wrap64 (1 + (wrap64 (Int.tmod a0_1 64)))), .int .u8 (Int.tmod a0_2 2), .int .i64 (wrap64 (a0_3)), .int .i64 (wrap64 (a0_4)), .float .f64 0]) ?_ 5 _ rfl; (with_reducible repeat (first | refine zB ?_ _ | refine zD ?_ | refine zC ?_ _)); refine blk_put (cs := #[.int .i64 (wrap64 (1 + (wrap64 (a0_0)))), .int .i64 (wrap64 (1 + (wrap64 (Int.tmod a0_1 64)))), .int .u8 (Int.tmod a0_2 2), .int .i64 (wrap64 (a0_3)), .int .i64 0, .float .f64 0]) ?_ 4 _ rfl; (with_reducible repeat (first | refine zB ?_ _ | refine zD ?_ | refine zC ?_ _)); refine blk_put (cs := #[.int .i64 (wrap64 (1 + (wrap64 (a0_0)))), .int .i64 (wrap64 (1 + (wrap64 (Int.tmod a0_1 64)))), .int .u8 (Int.tmod a0_2 2), .int .i64 0, .int .i64 0, .float .f64 0]) ?_ 3 _ rfl; (with_reducible repeat (first | refine zB ?_ _ | refine zD ?_ | refine zC ?_ _)); refine blk_put (cs := #[.int .i64 (wrap64 (1 + (wrap64 (a0_0)))), .int .i64 (wrap64 (1 + (wrap64 (Int.tmod a0_1 64)))), .int .u8 0, .int .i64 0, .int .i64 0, .float .f64 0]) ?_ 2 _ rfl; (with_reducible repeat (first | refine zB ?_ _ | refine zD ?_ | refine zC ?_ _)); refine blk_put (cs := #[.int .i64 (wrap64 (1 + (wrap64 (a0_0)))), .int .i64 0, .int .u8 0, .int .i64 0, .int .i64 0, .float .f64 0]) ?_ 1 _ rfl; (with_reducible repeat (first | refine zB ?_ _ | refine zD ?_ | refine zC ?_ _)); refine blk_put (cs := #[.int .i64 0, .int .i64 0, .int .u8 0, .int .i64 0, .int .i64 0, .float .f64 0]) ?_ 0 _ rfl; (with_reducible repeat (first | refine zB ?_ _ | refine zD ?_ | refine zC ?_ _)); exact BK241.out))⟩; have n2_ : zA (Below w.heap.size w w7) := ⟨(by rw [hw]; exact (aL HB))⟩; clear hw; clear BK240; clear BK241; clear HB; have BK240 := n0_; have BK241 := n1_; have HB := n2_; clear n0_ n1_ n2_))
 refine bodyPost_ret (results_cell_row rfl _ _ gb241 35 #[.int .i64 (wrap64 (1 + (wrap64 (a0_0)))), .int .i64 (wrap64 (1 + (wrap64 (Int.tmod a0_1 64)))), .int .u8 (Int.tmod a0_2 2), .int .i64 (wrap64 (a0_3)), .int .i64 (wrap64 (a0_4)), .float .f64 a0_5] (0, 0) _ rfl (aB BK241) Try.underlying35 rfl (by kernel_rfl)) rfl ?_
 exact ⟨aX, aL HB⟩
attribute [local go_sem high] eqA45
def r3_SameLines.l0 : Nat → List (S45) → List (S45) → Int → Option (Bool)
 | 0, _, _, _ => none
 | k + 1, x0, x1, x5 => if x5 < (x0.length : Int) then (if 0 ≤ x5 then (if x5 < (x1.length : Int) then (if (!(((rd_T45 x0 x5).f0) == ((rd_T45 x1 x5).f0)) || (!(((rd_T45 x0 x5).f1) == ((rd_T45 x1 x5).f1)) || (!(((rd_T45 x0 x5).f2) == ((rd_T45 x1 x5).f2)) || (!(((rd_T45 x0 x5).f3) == ((rd_T45 x1 x5).f3)))))) = true then (some false) else (r3_SameLines.l0 k x0 x1 (wrap64 (x5 + 1)))) else (none)) else (none)) else (some true)
def r3_SameLines.f (k : Nat) (l0 : List (S45)) (l1 : List (S45)) : Option (Bool) := if (l0.length : Int) = (l1.length : Int) then (r3_SameLines.l0 k l0 l1 0) else (some false)
theorem r3_SameLines.mono_l : ∀ k, (∀ y0 y1 y2, LeO (r3_SameLines.l0 k y0 y1 y2) (r3_SameLines.l0 (k + 1) y0 y1 y2))
 | 0 => fun _ _ _ r h => by simp [r3_SameLines.l0] at h
 | k + 1 => by
  have ih0 := r3_SameLines.mono_l k
  ·intro y0 y1 y2
   unfold r3_SameLines.l0
   repeat' (with_reducible first | exact ih0 _ _ _ | exact LeO.refl _ | exact LeO.none _ | refine LeO.ite ?_ ?_ | refine LeO.bind ?_ (fun _ => ?_))
theorem r3_SameLines.mono : ∀ a0 a1 k, LeO (r3_SameLines.f k a0 a1) (r3_SameLines.f (k + 1) a0 a1) := by
 intro a0 a1 k
 have ih0 := r3_SameLines.mono_l k; unfold r3_SameLines.f
 repeat' (with_reducible first | exact ih0 _ _ _ | exact LeO.refl _ | exact LeO.none _ | refine LeO.ite ?_ ?_ | refine LeO.bind ?_ (fun _ => ?_))
set_option maxHeartbeats 8000000 in
set_option maxRecDepth 100000 in
theorem r3_SameLines.calls (k : Nat) (A0 : Option Addr) (c0 : Nat) (l0 : List (S45)) (A1 : Option Addr) (c1 : Nat) (l1 : List (S45)) (r : Bool) (w : World) (hr0 : Kd.C k45 w A0 l0.length l0) (hc0 : l0.length ≤ c0) (hr1 : Kd.C k45 w A1 l1.length l1) (hc1 : l1.length ≤ c1) (h : r3_SameLines.f k l0 l1 = some r) :
  Calls Try.prog 16 #[.slice A0 l0.length c0, .slice A1 l1.length c1] w fun e w' => e = .returned (.bool r) ∧ Drawn0 w w' := by
 have hu45 := Try.underlying45; have HR0 := zA.mk hr0; have HC0 := zA.mk hc0; clear hr0 hc0; have HR1 := zA.mk hr1; have HC1 := zA.mk hc1; clear hr1 hc1; have H : (if (l0.length : Int) = (l1.length : Int) then (r3_SameLines.l0 k l0 l1 0) else (some false)) = some r := h
 clear h; by_cases c3 : (l0.length : Int) = (l1.length : Int)
 rotate_left
 ·rw [if_neg c3] at H
  have c3b0 : ((l0.length : Int) == (l1.length : Int)) = false := beq_eq_false_iff_ne.mpr c3
  have c3b1 : ((l0.length : Int) != (l1.length : Int)) = true := bne_iff_ne.mpr c3
  have c3b2 : (l0.length == l1.length) = false := by first | simpa using c3 | (simp at c3 ⊢; omega)
  obtain rfl := Option.some.inj H
  go_enter Try.func16, Try.ntmps16
  go_wp2
  repeat (go_quiet (fail); try go_wp2)
  go_ret
  exact ⟨by first | rfl | (simp; done) | (simp [*]; done), by repeat (first | exact Drawn0.refl _ | apply Drawn0.step)⟩
 rw [if_pos c3] at H; have c3b0 : ((l0.length : Int) == (l1.length : Int)) = true := beq_iff_eq.mpr c3
 have c3b1 : ((l0.length : Int) != (l1.length : Int)) = false := bne_eq_false_iff_eq.mpr c3
 have c3b2 : (l0.length == l1.length) = true := by first | simpa using c3 | (simp at c3 ⊢; omega)
 clear c3; have H' := zA.mk H
 clear H; go_enter Try.func16, Try.ntmps16
 go_wp2
 repeat (go_quiet (fail); try go_wp2)
 go_loopg [5] k (fun kq v5 w' => ∃ (x5_1 : Int), v5 = .int .i64 x5_1 ∧ zA (r3_SameLines.l0 kq l0 l1 x5_1 = some r) ∧ zA (kq ≤ k) ∧ Drawn0 w w')
 case atStart => exact ⟨(0), aZ, H', ⟨Nat.le_refl _⟩, by repeat (first | exact Drawn0.refl _ | apply Drawn0.step)⟩
 clear H'; obtain ⟨x5_1, rfl, HA, HK1, ⟨m1, rfl⟩⟩ := hrel; cases gk with
 | zero => exact absurd HA.out (by simp [r3_SameLines.l0])
 | succ k1 =>
  have H := HA.out; clear HA; simp only [r3_SameLines.l0] at H; by_cases c4 : x5_1 < (l0.length : Int)
  rotate_left
  ·rw [if_neg c4] at H
   have c4b0 : decide (x5_1 < (l0.length : Int)) = false := decide_eq_false c4
   clear c4; obtain rfl := Option.some.inj H
   go_wp2
   repeat (go_quiet (fail); try go_wp2)
   go_ret
   exact ⟨by first | rfl | (simp; done) | (simp [*]; done), by repeat (first | exact Drawn0.refl _ | apply Drawn0.step)⟩
  rw [if_pos c4] at H; have c4b0 : decide (x5_1 < (l0.length : Int)) = true := decide_eq_true c4
  clear c4; by_cases c5 : 0 ≤ x5_1
  rotate_left
  ·rw [if_neg c5] at H
   exact absurd H (by simp)
  rw [if_pos c5] at H; have c5b0 : decide (0 ≤ x5_1) = true := decide_eq_true c5
  clear c5; by_cases c6 : x5_1 < (l1.length : Int)
  rotate_left
  ·rw [if_neg c6] at H
   exact absurd H (by simp)
  rw [if_pos c6] at H; have c6b0 : decide (x5_1 < (l1.length : Int)) = true := decide_eq_true c6
  clear c6; by_cases c7 : (!(((rd_T45 l0 x5_1).f0) == ((rd_T45 l1 x5_1).f0)) || (!(((rd_T45 l0 x5_1).f1) == ((rd_T45 l1 x5_1).f1)) || (!(((rd_T45 l0 x5_1).f2) == ((rd_T45 l1 x5_1).f2)) || (!(((rd_T45 l0 x5_1).f3) == ((rd_T45 l1 x5_1).f3)))))) = true
  ·rw [if_pos c7] at H
   have c7b0 : (!(((rd_T45 l0 x5_1).f0) == ((rd_T45 l1 x5_1).f0)) || (!(((rd_T45 l0 x5_1).f1) == ((rd_T45 l1 x5_1).f1)) || (!(((rd_T45 l0 x5_1).f2) == ((rd_T45 l1 x5_1).f2)) || (!(((rd_T45 l0 x5_1).f3) == ((rd_T45 l1 x5_1).f3)))))) = true := c7
   clear c7; obtain rfl := Option.some.inj H
   have p242 : 0 ≤ (x5_1 : Int) := aD
   have q242 : x5_1 < (l0.length : Int) := aD
   obtain ⟨ad242, e242, hx242_0, hx242_1, hx242_2, hx242_3⟩ := at_T45 HR0.out x5_1 p242 q242; cases e242
   replace p242 := eq_true p242; replace q242 := eq_true q242; have p243 : 0 ≤ (x5_1 : Int) := aD
   have q243 : x5_1 < (l1.length : Int) := aD
   obtain ⟨ad243, e243, hx243_0, hx243_1, hx243_2, hx243_3⟩ := at_T45 HR1.out x5_1 p243 q243; cases e243
   replace p243 := eq_true p243; replace q243 := eq_true q243; go_wp2
   repeat (go_quiet (fail); try go_wp2)
   go_ret
   exact ⟨by first | rfl | (simp; done) | (simp [*]; done), by repeat (first | exact Drawn0.refl _ | apply Drawn0.step)⟩
  rw [if_neg c7] at H; have c7b0 : (!(((rd_T45 l0 x5_1).f0) == ((rd_T45 l1 x5_1).f0)) || (!(((rd_T45 l0 x5_1).f1) == ((rd_T45 l1 x5_1).f1)) || (!(((rd_T45 l0 x5_1).f2) == ((rd_T45 l1 x5_1).f2)) || (!(((rd_T45 l0 x5_1).f3) == ((rd_T45 l1 x5_1).f3)))))) = false := by simpa using c7
  clear c7; have H' := zA.mk H
  clear H; have p242 : 0 ≤ (x5_1 : Int) := aD
  have q242 : x5_1 < (l0.length : Int) := aD
  obtain ⟨ad242, e242, hx242_0, hx242_1, hx242_2, hx242_3⟩ := at_T45 HR0.out x5_1 p242 q242; cases e242
  replace p242 := eq_true p242; replace q242 := eq_true q242; have p243 : 0 ≤ (x5_1 : Int) := aD
  have q243 : x5_1 < (l1.length : Int) := aD
  obtain ⟨ad243, e243, hx243_0, hx243_1, hx243_2, hx243_3⟩ := at_T45 HR1.out x5_1 p243 q243; cases e243
  replace p243 := eq_true p243; replace q243 := eq_true q243; go_wp2
  repeat (go_quiet (fail); try go_wp2)
  go_roundg k1
  case measure => have := HK1.out; omega
  case rel => exact ⟨(wrap64 (x5_1 + 1)), aZ, H', ⟨by have := HK1.out; omega⟩, by repeat (first | exact Drawn0.refl _ | apply Drawn0.step)⟩
end Go.Proofs.Ytfeidhmkmbgnoaa.F
end
