/- Printed by a program: Lean functions that answer as the Go functions do, and the proofs of it. -/
import Derived.Test.YtfeidhmkmbgnoaaProg
import Derived.Below
import Derived.Deep.Draws
import Derived.Deep.AppendLies
import Derived.Maps.AppendAt
import Derived.OwnWalk
import Derived.Laws.BytesArg
import Derived.Laws.MakeOwn
import Derived.Laws.OwnMore
import Derived.Deep.OwnRows
import Derived.Tactics
import Derived.Lib.ConvBytes
import Derived.Laws.Slices
import Derived.WalkKit
import Derived.KernelRfl
import Derived.RowKit3
import Derived.Deep.LoopGhost
import Derived.Deep.QuietTactic
import Derived.BigQuiet
import Derived.WideLaws
import Derived.Deep.DeepCutAuto
import Derived.Deep.CutBlock
import Derived.Deep.RegionHeld3
import Derived.Laws.Rows
import Derived.Lib.AppendStr
import Derived.ArgAppend
import Derived.Laws.IdiomCopy
import Derived.OrdersHeld
import Derived.Laws.BitsLemmas
import Derived.RowKit
import Derived.Laws.FloatArith
import Derived.Test.YtfeidhmkmbgnoaaXFirstHyphens0
section
namespace Go.Proofs.Ytfeidhmkmbgnoaa.F
open Go.RowKit Go.Proofs.YtfeidhmkmbgnoaaW.PrintWords Go.Proofs.YtfeidhmkmbgnoaaW.PrintLast Go.Proofs.YtfeidhmkmbgnoaaW.PrintMore
attribute [local go_sem] max2_int min2_int max_two min_two max_three min_three max_four min_four   -- for this text's walks alone
set_option linter.unusedVariables false
set_option linter.unusedSimpArgs false
def errW : Option Int → Value
  | none => .nilIface
  | some c => .iface 0 (.int .i64 c)
theorem errW_none : errW none = .nilIface := rfl
theorem errW_some (c : Int) : errW (some c) = .iface 0 (.int .i64 c) := rfl
theorem info3 : (Try.prog.info? 3).map (fun i => (i.zero, i.size, i.bytes)) = some (some (.int .i64 0), 1, 8) := by kernel_rfl
theorem info43 : (Try.prog.info? 43).map (fun i => (i.zero, i.size, i.bytes)) = some (some (.int .u8 0), 1, 1) := by kernel_rfl
theorem info45 : (Try.prog.info? 45).map (fun i => (i.zero, i.size, i.bytes)) = some (some (.agg #[(.int .i64 0), (.int .i64 0), (.int .i64 0), (.int .u8 0)]), 4, 32) := by kernel_rfl
theorem info49 : (Try.prog.info? 49).map (fun i => (i.zero, i.size, i.bytes)) = some (some (.agg #[(.int .u8 0), (.int .u8 0), (.int .u8 0), (.int .u8 0)]), 4, 4) := by kernel_rfl
theorem info61 : (Try.prog.info? 61).map (fun i => (i.zero, i.size, i.bytes)) = some (some (.agg #[(.int .i64 0), (.int .i64 0), (.int .i64 0), (.int .u8 0)]), 4, 32) := by kernel_rfl
structure S61 where
  f0 : Int
  f1 : Int
  f2 : Int
  f3 : Int
def z61 : S61 := ⟨(0 : Int), (0 : Int), (0 : Int), (0 : Int)⟩
def k61 : Kd S61 := Kd.iso (Kd.pair (Kd.int .i64) (Kd.pair (Kd.int .i64) (Kd.pair (Kd.int .i64) (Kd.int .u8)))) (fun x : S61 => (x.f0, x.f1, x.f2, x.f3))
theorem k61_open {w : World} {x : S61} {cs : List Value} (h : k61.K w x cs) : cs = [.int .i64 x.f0, .int .i64 x.f1, .int .i64 x.f2, .int .u8 x.f3] := by
  obtain ⟨_, _, rfl, rfl, ⟨_, _, rfl, rfl, ⟨_, _, rfl, rfl, rfl⟩⟩⟩ := h; exact rfl
theorem k61_openM {w : World} {base : Nat} {ok : Nat → Prop} {x : S61} {cs : List Value} (h : k61.M w base ok x cs) : cs = [.int .i64 x.f0, .int .i64 x.f1, .int .i64 x.f2, .int .u8 x.f3] := by
  obtain ⟨_, _, rfl, rfl, ⟨_, _, rfl, rfl, ⟨_, _, rfl, rfl, rfl⟩⟩⟩ := h; exact rfl
theorem k61_mk (w : World) (x : S61)  : k61.K w x [.int .i64 x.f0, .int .i64 x.f1, .int .i64 x.f2, .int .u8 x.f3] := ⟨[.int .i64 x.f0], [.int .i64 x.f1, .int .i64 x.f2, .int .u8 x.f3], rfl, rfl, ⟨[.int .i64 x.f1], [.int .i64 x.f2, .int .u8 x.f3], rfl, rfl, ⟨[.int .i64 x.f2], [.int .u8 x.f3], rfl, rfl, rfl⟩⟩⟩
theorem k61_mkM (w : World) (base : Nat) (ok : Nat → Prop) (x : S61)  : k61.M w base ok x [.int .i64 x.f0, .int .i64 x.f1, .int .i64 x.f2, .int .u8 x.f3] := ⟨[.int .i64 x.f0], [.int .i64 x.f1, .int .i64 x.f2, .int .u8 x.f3], rfl, rfl, ⟨[.int .i64 x.f1], [.int .i64 x.f2, .int .u8 x.f3], rfl, rfl, ⟨[.int .i64 x.f2], [.int .u8 x.f3], rfl, rfl, rfl⟩⟩⟩
def rd_T61 (xs : List S61) (i : Int) : S61 := xs.getD i.toNat z61
theorem at_T61 {w : World} {A : Option Addr} {n : Nat} {xs : List S61} (h : Kd.C k61 w A n xs) (i : Int) (h0 : 0 ≤ i) (h1 : i < n) : ∃ ad , A = some ad ∧ w.cell? (ad.add (i.toNat * 4)) = some (.int .i64 (rd_T61 xs i).f0) ∧ w.cell? ⟨(ad.add (i.toNat * 4)).block, (ad.add (i.toNat * 4)).off + 1, none⟩ = some (.int .i64 (rd_T61 xs i).f1) ∧ w.cell? ⟨(ad.add (i.toNat * 4)).block, (ad.add (i.toNat * 4)).off + 2, none⟩ = some (.int .i64 (rd_T61 xs i).f2) ∧ w.cell? ⟨(ad.add (i.toNat * 4)).block, (ad.add (i.toNat * 4)).off + 3, none⟩ = some (.int .u8 (rd_T61 xs i).f3) := by
  obtain ⟨ad, c, e, _, hK, hc0⟩ := Kd.C_get h z61 i h0 h1; have hc : ∀ j u, c[j]? = some u → w.cell? (ad.add (i.toNat * 4 + j)) = some u := hc0
  obtain rfl := k61_open hK
  exact ⟨ad, e, hc 0 _ rfl, by rw [← add_field _ _ 1 (by omega)]; exact hc 1 _ rfl, by rw [← add_field _ _ 2 (by omega)]; exact hc 2 _ rfl, by rw [← add_field _ _ 3 (by omega)]; exact hc 3 _ rfl⟩
structure S45 where
  f0 : Int
  f1 : Int
  f2 : Int
  f3 : Int
def z45 : S45 := ⟨(0 : Int), (0 : Int), (0 : Int), (0 : Int)⟩
def k45 : Kd S45 := Kd.iso (Kd.pair (Kd.int .i64) (Kd.pair (Kd.int .i64) (Kd.pair (Kd.int .i64) (Kd.int .u8)))) (fun x : S45 => (x.f0, x.f1, x.f2, x.f3))
theorem k45_open {w : World} {x : S45} {cs : List Value} (h : k45.K w x cs) : cs = [.int .i64 x.f0, .int .i64 x.f1, .int .i64 x.f2, .int .u8 x.f3] := by
  obtain ⟨_, _, rfl, rfl, ⟨_, _, rfl, rfl, ⟨_, _, rfl, rfl, rfl⟩⟩⟩ := h; exact rfl
theorem k45_openM {w : World} {base : Nat} {ok : Nat → Prop} {x : S45} {cs : List Value} (h : k45.M w base ok x cs) : cs = [.int .i64 x.f0, .int .i64 x.f1, .int .i64 x.f2, .int .u8 x.f3] := by
  obtain ⟨_, _, rfl, rfl, ⟨_, _, rfl, rfl, ⟨_, _, rfl, rfl, rfl⟩⟩⟩ := h; exact rfl
theorem k45_mk (w : World) (x : S45)  : k45.K w x [.int .i64 x.f0, .int .i64 x.f1, .int .i64 x.f2, .int .u8 x.f3] := ⟨[.int .i64 x.f0], [.int .i64 x.f1, .int .i64 x.f2, .int .u8 x.f3], rfl, rfl, ⟨[.int .i64 x.f1], [.int .i64 x.f2, .int .u8 x.f3], rfl, rfl, ⟨[.int .i64 x.f2], [.int .u8 x.f3], rfl, rfl, rfl⟩⟩⟩
theorem k45_mkM (w : World) (base : Nat) (ok : Nat → Prop) (x : S45)  : k45.M w base ok x [.int .i64 x.f0, .int .i64 x.f1, .int .i64 x.f2, .int .u8 x.f3] := ⟨[.int .i64 x.f0], [.int .i64 x.f1, .int .i64 x.f2, .int .u8 x.f3], rfl, rfl, ⟨[.int .i64 x.f1], [.int .i64 x.f2, .int .u8 x.f3], rfl, rfl, ⟨[.int .i64 x.f2], [.int .u8 x.f3], rfl, rfl, rfl⟩⟩⟩
def rd_T45 (xs : List S45) (i : Int) : S45 := xs.getD i.toNat z45
theorem at_T45 {w : World} {A : Option Addr} {n : Nat} {xs : List S45} (h : Kd.C k45 w A n xs) (i : Int) (h0 : 0 ≤ i) (h1 : i < n) : ∃ ad , A = some ad ∧ w.cell? (ad.add (i.toNat * 4)) = some (.int .i64 (rd_T45 xs i).f0) ∧ w.cell? ⟨(ad.add (i.toNat * 4)).block, (ad.add (i.toNat * 4)).off + 1, none⟩ = some (.int .i64 (rd_T45 xs i).f1) ∧ w.cell? ⟨(ad.add (i.toNat * 4)).block, (ad.add (i.toNat * 4)).off + 2, none⟩ = some (.int .i64 (rd_T45 xs i).f2) ∧ w.cell? ⟨(ad.add (i.toNat * 4)).block, (ad.add (i.toNat * 4)).off + 3, none⟩ = some (.int .u8 (rd_T45 xs i).f3) := by
  obtain ⟨ad, c, e, _, hK, hc0⟩ := Kd.C_get h z45 i h0 h1; have hc : ∀ j u, c[j]? = some u → w.cell? (ad.add (i.toNat * 4 + j)) = some u := hc0
  obtain rfl := k45_open hK
  exact ⟨ad, e, hc 0 _ rfl, by rw [← add_field _ _ 1 (by omega)]; exact hc 1 _ rfl, by rw [← add_field _ _ 2 (by omega)]; exact hc 2 _ rfl, by rw [← add_field _ _ 3 (by omega)]; exact hc 3 _ rfl⟩
structure S49 where
  f0 : Int
  f1 : Int
  f2 : Int
  f3 : Int
def z49 : S49 := ⟨(0 : Int), (0 : Int), (0 : Int), (0 : Int)⟩
def k49 : Kd S49 := Kd.iso (Kd.pair (Kd.int .u8) (Kd.pair (Kd.int .u8) (Kd.pair (Kd.int .u8) (Kd.int .u8)))) (fun x : S49 => (x.f0, x.f1, x.f2, x.f3))
theorem k49_open {w : World} {x : S49} {cs : List Value} (h : k49.K w x cs) : cs = [.int .u8 x.f0, .int .u8 x.f1, .int .u8 x.f2, .int .u8 x.f3] := by
  obtain ⟨_, _, rfl, rfl, ⟨_, _, rfl, rfl, ⟨_, _, rfl, rfl, rfl⟩⟩⟩ := h; exact rfl
theorem k49_openM {w : World} {base : Nat} {ok : Nat → Prop} {x : S49} {cs : List Value} (h : k49.M w base ok x cs) : cs = [.int .u8 x.f0, .int .u8 x.f1, .int .u8 x.f2, .int .u8 x.f3] := by
  obtain ⟨_, _, rfl, rfl, ⟨_, _, rfl, rfl, ⟨_, _, rfl, rfl, rfl⟩⟩⟩ := h; exact rfl
theorem k49_mk (w : World) (x : S49)  : k49.K w x [.int .u8 x.f0, .int .u8 x.f1, .int .u8 x.f2, .int .u8 x.f3] := ⟨[.int .u8 x.f0], [.int .u8 x.f1, .int .u8 x.f2, .int .u8 x.f3], rfl, rfl, ⟨[.int .u8 x.f1], [.int .u8 x.f2, .int .u8 x.f3], rfl, rfl, ⟨[.int .u8 x.f2], [.int .u8 x.f3], rfl, rfl, rfl⟩⟩⟩
theorem k49_mkM (w : World) (base : Nat) (ok : Nat → Prop) (x : S49)  : k49.M w base ok x [.int .u8 x.f0, .int .u8 x.f1, .int .u8 x.f2, .int .u8 x.f3] := ⟨[.int .u8 x.f0], [.int .u8 x.f1, .int .u8 x.f2, .int .u8 x.f3], rfl, rfl, ⟨[.int .u8 x.f1], [.int .u8 x.f2, .int .u8 x.f3], rfl, rfl, ⟨[.int .u8 x.f2], [.int .u8 x.f3], rfl, rfl, rfl⟩⟩⟩
def rd_T49 (xs : List S49) (i : Int) : S49 := xs.getD i.toNat z49
theorem at_T49 {w : World} {A : Option Addr} {n : Nat} {xs : List S49} (h : Kd.C k49 w A n xs) (i : Int) (h0 : 0 ≤ i) (h1 : i < n) : ∃ ad , A = some ad ∧ w.cell? (ad.add (i.toNat * 4)) = some (.int .u8 (rd_T49 xs i).f0) ∧ w.cell? ⟨(ad.add (i.toNat * 4)).block, (ad.add (i.toNat * 4)).off + 1, none⟩ = some (.int .u8 (rd_T49 xs i).f1) ∧ w.cell? ⟨(ad.add (i.toNat * 4)).block, (ad.add (i.toNat * 4)).off + 2, none⟩ = some (.int .u8 (rd_T49 xs i).f2) ∧ w.cell? ⟨(ad.add (i.toNat * 4)).block, (ad.add (i.toNat * 4)).off + 3, none⟩ = some (.int .u8 (rd_T49 xs i).f3) := by
  obtain ⟨ad, c, e, _, hK, hc0⟩ := Kd.C_get h z49 i h0 h1; have hc : ∀ j u, c[j]? = some u → w.cell? (ad.add (i.toNat * 4 + j)) = some u := hc0
  obtain rfl := k49_open hK
  exact ⟨ad, e, hc 0 _ rfl, by rw [← add_field _ _ 1 (by omega)]; exact hc 1 _ rfl, by rw [← add_field _ _ 2 (by omega)]; exact hc 2 _ rfl, by rw [← add_field _ _ 3 (by omega)]; exact hc 3 _ rfl⟩
def rd_L5 (xs : List (List S49)) (i : Int) : (List S49) := xs.getD i.toNat ([] : List S49)
theorem at_L5 {w : World} {A : Option Addr} {n : Nat} {xs : List (List S49)} (h : Kd.C (Kd.slice 49 k49) w A n xs) (i : Int) (h0 : 0 ≤ i) (h1 : i < n) : ∃ ad A0 c0, A = some ad ∧ w.cell? (ad.add i.toNat) = some (.slice A0 (rd_L5 xs i).length c0) ∧ (rd_L5 xs i).length ≤ c0 ∧ k49.C w A0 (rd_L5 xs i).length (rd_L5 xs i) := by
  obtain ⟨ad, c, e, _, hK, hc0⟩ := Kd.C_get h ([] : List S49) i h0 h1; have hc : ∀ j u, c[j]? = some u → w.cell? (ad.add (i.toNat * 1 + j)) = some u := hc0
  obtain ⟨A0, c0, rfl, l0, g0⟩ := hK; exact ⟨ad, A0, c0, e, by have hq := hc 0 _ rfl; rwa [Nat.mul_one, Nat.add_zero] at hq, l0, g0⟩
structure S26 where
  f0 : Int
  f1 : Int
  f2 : Int
  f3 : Int
  f4 : Int
  f5 : Nat
def z26 : S26 := ⟨(0 : Int), (0 : Int), (0 : Int), (0 : Int), (0 : Int), (0 : Nat)⟩
def k26 : Kd S26 := Kd.iso (Kd.pair (Kd.int .u8) (Kd.pair (Kd.int .u8) (Kd.pair (Kd.int .u8) (Kd.pair (Kd.int .u16) (Kd.pair (Kd.int .u16) Kd.f64))))) (fun x : S26 => (x.f0, x.f1, x.f2, x.f3, x.f4, x.f5))
theorem k26_open {w : World} {x : S26} {cs : List Value} (h : k26.K w x cs) : cs = [.int .u8 x.f0, .int .u8 x.f1, .int .u8 x.f2, .int .u16 x.f3, .int .u16 x.f4, .float .f64 x.f5] := by
  obtain ⟨_, _, rfl, rfl, ⟨_, _, rfl, rfl, ⟨_, _, rfl, rfl, ⟨_, _, rfl, rfl, ⟨_, _, rfl, rfl, rfl⟩⟩⟩⟩⟩ := h; exact rfl
theorem k26_openM {w : World} {base : Nat} {ok : Nat → Prop} {x : S26} {cs : List Value} (h : k26.M w base ok x cs) : cs = [.int .u8 x.f0, .int .u8 x.f1, .int .u8 x.f2, .int .u16 x.f3, .int .u16 x.f4, .float .f64 x.f5] := by
  obtain ⟨_, _, rfl, rfl, ⟨_, _, rfl, rfl, ⟨_, _, rfl, rfl, ⟨_, _, rfl, rfl, ⟨_, _, rfl, rfl, rfl⟩⟩⟩⟩⟩ := h; exact rfl
theorem k26_mk (w : World) (x : S26)  : k26.K w x [.int .u8 x.f0, .int .u8 x.f1, .int .u8 x.f2, .int .u16 x.f3, .int .u16 x.f4, .float .f64 x.f5] := ⟨[.int .u8 x.f0], [.int .u8 x.f1, .int .u8 x.f2, .int .u16 x.f3, .int .u16 x.f4, .float .f64 x.f5], rfl, rfl, ⟨[.int .u8 x.f1], [.int .u8 x.f2, .int .u16 x.f3, .int .u16 x.f4, .float .f64 x.f5], rfl, rfl, ⟨[.int .u8 x.f2], [.int .u16 x.f3, .int .u16 x.f4, .float .f64 x.f5], rfl, rfl, ⟨[.int .u16 x.f3], [.int .u16 x.f4, .float .f64 x.f5], rfl, rfl, ⟨[.int .u16 x.f4], [.float .f64 x.f5], rfl, rfl, rfl⟩⟩⟩⟩⟩
theorem k26_mkM (w : World) (base : Nat) (ok : Nat → Prop) (x : S26)  : k26.M w base ok x [.int .u8 x.f0, .int .u8 x.f1, .int .u8 x.f2, .int .u16 x.f3, .int .u16 x.f4, .float .f64 x.f5] := ⟨[.int .u8 x.f0], [.int .u8 x.f1, .int .u8 x.f2, .int .u16 x.f3, .int .u16 x.f4, .float .f64 x.f5], rfl, rfl, ⟨[.int .u8 x.f1], [.int .u8 x.f2, .int .u16 x.f3, .int .u16 x.f4, .float .f64 x.f5], rfl, rfl, ⟨[.int .u8 x.f2], [.int .u16 x.f3, .int .u16 x.f4, .float .f64 x.f5], rfl, rfl, ⟨[.int .u16 x.f3], [.int .u16 x.f4, .float .f64 x.f5], rfl, rfl, ⟨[.int .u16 x.f4], [.float .f64 x.f5], rfl, rfl, rfl⟩⟩⟩⟩⟩
def rd_T26 (xs : List S26) (i : Int) : S26 := xs.getD i.toNat z26
theorem at_T26 {w : World} {A : Option Addr} {n : Nat} {xs : List S26} (h : Kd.C k26 w A n xs) (i : Int) (h0 : 0 ≤ i) (h1 : i < n) : ∃ ad , A = some ad ∧ w.cell? (ad.add (i.toNat * 6)) = some (.int .u8 (rd_T26 xs i).f0) ∧ w.cell? ⟨(ad.add (i.toNat * 6)).block, (ad.add (i.toNat * 6)).off + 1, none⟩ = some (.int .u8 (rd_T26 xs i).f1) ∧ w.cell? ⟨(ad.add (i.toNat * 6)).block, (ad.add (i.toNat * 6)).off + 2, none⟩ = some (.int .u8 (rd_T26 xs i).f2) ∧ w.cell? ⟨(ad.add (i.toNat * 6)).block, (ad.add (i.toNat * 6)).off + 3, none⟩ = some (.int .u16 (rd_T26 xs i).f3) ∧ w.cell? ⟨(ad.add (i.toNat * 6)).block, (ad.add (i.toNat * 6)).off + 4, none⟩ = some (.int .u16 (rd_T26 xs i).f4) ∧ w.cell? ⟨(ad.add (i.toNat * 6)).block, (ad.add (i.toNat * 6)).off + 5, none⟩ = some (.float .f64 (rd_T26 xs i).f5) := by
  obtain ⟨ad, c, e, _, hK, hc0⟩ := Kd.C_get h z26 i h0 h1; have hc : ∀ j u, c[j]? = some u → w.cell? (ad.add (i.toNat * 6 + j)) = some u := hc0
  obtain rfl := k26_open hK
  exact ⟨ad, e, hc 0 _ rfl, by rw [← add_field _ _ 1 (by omega)]; exact hc 1 _ rfl, by rw [← add_field _ _ 2 (by omega)]; exact hc 2 _ rfl, by rw [← add_field _ _ 3 (by omega)]; exact hc 3 _ rfl, by rw [← add_field _ _ 4 (by omega)]; exact hc 4 _ rfl, by rw [← add_field _ _ 5 (by omega)]; exact hc 5 _ rfl⟩
end Go.Proofs.Ytfeidhmkmbgnoaa.F
end
section
namespace Go.Proofs.Ytfeidhmkmbgnoaa.F
open Go.RowKit Go.Proofs.YtfeidhmkmbgnoaaW.PrintWords Go.Proofs.YtfeidhmkmbgnoaaW.PrintLast Go.Proofs.YtfeidhmkmbgnoaaW.PrintMore
attribute [local go_sem] max2_int min2_int max_two min_two max_three min_three max_four min_four   -- for this text's walks alone
set_option linter.unusedVariables false
set_option linter.unusedSimpArgs false
theorem eqA45 (d : Nat) (w : World) (x0 y0 : Int) (x1 y1 : Int) (x2 y2 : Int) (x3 y3 : Int) :
    (Op.equalIn (d + 2) 45 (.agg #[.int .i64 x0, .int .i64 x1, .int .i64 x2, .int .u8 x3]) (.agg #[.int .i64 y0, .int .i64 y1, .int .i64 y2, .int .u8 y3])).run Try.prog w = .ok (x0 == y0 && (x1 == y1 && (x2 == y2 && (x3 == y3)))) w := by
  refine eqA_of Try.underlying45 (by kernel_rfl) ?_
  refine eqf_cons (by rfl) (by go_simp; rfl) (by go_simp; rfl) (by go_simp) ?_
  refine eqf_cons (by rfl) (by go_simp; rfl) (by go_simp; rfl) (by go_simp) ?_
  refine eqf_cons (by rfl) (by go_simp; rfl) (by go_simp; rfl) (by go_simp) ?_
  exact eqf_last (by rfl) (by go_simp; rfl) (by go_simp; rfl) (by go_simp)
end Go.Proofs.Ytfeidhmkmbgnoaa.F
end
section
namespace Go.Proofs.Ytfeidhmkmbgnoaa.F
open Go.RowKit Go.Proofs.YtfeidhmkmbgnoaaW.PrintWords Go.Proofs.YtfeidhmkmbgnoaaW.PrintLast Go.Proofs.YtfeidhmkmbgnoaaW.PrintMore
attribute [local go_sem] max2_int min2_int max_two min_two max_three min_three max_four min_four   -- for this text's walks alone
set_option linter.unusedVariables false
set_option linter.unusedSimpArgs false
def span_empty.f (a0_0 : Int) (a0_1 : Int) (a0_2 : Int) (a0_3 : Int) : Option (Bool) := if a0_3 = 1 then (some true) else (if a0_3 = 0 then (some (a0_2 == 0)) else (some false))
set_option maxHeartbeats 8000000 in
set_option maxRecDepth 100000 in
theorem span_empty.calls (a0_0 : Int) (a0_1 : Int) (a0_2 : Int) (a0_3 : Int) (r : Bool) (w : World) (h : span_empty.f a0_0 a0_1 a0_2 a0_3 = some r) :
    Calls Try.prog 32 #[.agg #[.int .i64 a0_0, .int .i64 a0_1, .int .i64 a0_2, .int .u8 a0_3]] w fun e w' => e = .returned (.bool r) ∧ Below w.heap.size w w' := by
  have hu61 := Try.underlying61; have HB := zC.mk (Below.refl w.heap.size w); have H : (if a0_3 = 1 then (some true) else (if a0_3 = 0 then (some (a0_2 == 0)) else (some false))) = some r := h
  clear h; by_cases c2 : a0_3 = 1
  · rw [if_pos c2] at H
    have c2b0 : (a0_3 == 1) = true := beq_iff_eq.mpr c2
    have c2b1 : (a0_3 != 1) = false := bne_eq_false_iff_eq.mpr c2
    clear c2; obtain rfl := Option.some.inj H
    go_enter Try.func32, Try.ntmps32
    go_wp2_with (first | ((with_reducible refine gate_dst (N := 1) rfl ?_); refine box_event ?hg (N := 1) ?hd (cs := #[.int .i64 a0_0, .int .i64 a0_1, .int .i64 a0_2, .int .u8 a0_3]) (t := 61) ?hr ?_; (case hd => rfl); (case hg => rfl); (case hr => first | (go_simp; done) | (go_simp; rfl)); intro gb101 hg w3 hbox hb; have n0_ := zC.mk (below_step (by repeat (first | (with_reducible first | exact HB.out | apply zJ | apply zE | apply zI) | exact HB.out)) hb); have n1_ := zC.mk (hbox); have n2_ := zC.mk ((by rw [hg]; exact (below_size (by repeat (first | (with_reducible first | exact HB.out | apply zJ | apply zE | apply zI) | exact HB.out))) : w.heap.size ≤ gb101)); have n3_ := zC.mk ((by rw [hg]; exact (below_size (by repeat (first | (with_reducible first | exact HB.out | apply zJ | apply zE | apply zI) | exact HB.out))) : w.heap.size ≤ gb101)); clear HB; have HB := n0_; have BK101 := n1_; have GW101 := n2_; have GE101 := n3_; clear n0_ n1_ n2_ n3_; clear hb hbox hg; have hcz4_0 : w3.cell? ⟨gb101, 0, none⟩ = some (.int .i64 a0_0) := (zH BK101.out 0).trans rfl; have hcz4_1 : w3.cell? ⟨gb101, 1, none⟩ = some (.int .i64 a0_1) := (zH BK101.out 1).trans rfl; have hcz4_2 : w3.cell? ⟨gb101, 2, none⟩ = some (.int .i64 a0_2) := (zH BK101.out 2).trans rfl; have hcz4_3 : w3.cell? ⟨gb101, 3, none⟩ = some (.int .u8 a0_3) := (zH BK101.out 3).trans rfl; have hfz4_0 := zG BK101.out 0; have hfz4_1 := zG BK101.out 1; have hfz4_2 := zG BK101.out 2; have hfz4_3 := zG BK101.out 3))
    go_ret
    exact ⟨by first | rfl | (simp [errW_none, errW_some] <;> rfl) | (simp [*, errW_none, errW_some] <;> rfl), by repeat (first | (with_reducible first | exact HB.out | apply zJ | apply zE | apply zI | refine zF ?_ GE101.out) | exact HB.out)⟩
  rw [if_neg c2] at H; have c2b0 : (a0_3 == 1) = false := beq_eq_false_iff_ne.mpr c2
  have c2b1 : (a0_3 != 1) = true := bne_iff_ne.mpr c2
  by_cases c5 : a0_3 = 0
  · rw [if_pos c5] at H
    have c5b0 : (a0_3 == 0) = true := beq_iff_eq.mpr c5
    have c5b1 : (a0_3 != 0) = false := bne_eq_false_iff_eq.mpr c5
    clear c5; obtain rfl := Option.some.inj H
    go_enter Try.func32, Try.ntmps32
    go_wp2_with (first | ((with_reducible refine gate_dst (N := 1) rfl ?_); refine box_event ?hg (N := 1) ?hd (cs := #[.int .i64 a0_0, .int .i64 a0_1, .int .i64 a0_2, .int .u8 a0_3]) (t := 61) ?hr ?_; (case hd => rfl); (case hg => rfl); (case hr => first | (go_simp; done) | (go_simp; rfl)); intro gb101 hg w6 hbox hb; have n0_ := zC.mk (below_step (by repeat (first | (with_reducible first | exact HB.out | apply zJ | apply zE | apply zI) | exact HB.out)) hb); have n1_ := zC.mk (hbox); have n2_ := zC.mk ((by rw [hg]; exact (below_size (by repeat (first | (with_reducible first | exact HB.out | apply zJ | apply zE | apply zI) | exact HB.out))) : w.heap.size ≤ gb101)); have n3_ := zC.mk ((by rw [hg]; exact (below_size (by repeat (first | (with_reducible first | exact HB.out | apply zJ | apply zE | apply zI) | exact HB.out))) : w.heap.size ≤ gb101)); clear HB; have HB := n0_; have BK101 := n1_; have GW101 := n2_; have GE101 := n3_; clear n0_ n1_ n2_ n3_; clear hb hbox hg; have hcz7_0 : w6.cell? ⟨gb101, 0, none⟩ = some (.int .i64 a0_0) := (zH BK101.out 0).trans rfl; have hcz7_1 : w6.cell? ⟨gb101, 1, none⟩ = some (.int .i64 a0_1) := (zH BK101.out 1).trans rfl; have hcz7_2 : w6.cell? ⟨gb101, 2, none⟩ = some (.int .i64 a0_2) := (zH BK101.out 2).trans rfl; have hcz7_3 : w6.cell? ⟨gb101, 3, none⟩ = some (.int .u8 a0_3) := (zH BK101.out 3).trans rfl; have hfz7_0 := zG BK101.out 0; have hfz7_1 := zG BK101.out 1; have hfz7_2 := zG BK101.out 2; have hfz7_3 := zG BK101.out 3))
    go_ret
    exact ⟨by first | rfl | (simp [errW_none, errW_some] <;> rfl) | (simp [*, errW_none, errW_some] <;> rfl), by repeat (first | (with_reducible first | exact HB.out | apply zJ | apply zE | apply zI | refine zF ?_ GE101.out) | exact HB.out)⟩
  rw [if_neg c5] at H; have c5b0 : (a0_3 == 0) = false := beq_eq_false_iff_ne.mpr c5
  have c5b1 : (a0_3 != 0) = true := bne_iff_ne.mpr c5
  obtain rfl := Option.some.inj H
  go_enter Try.func32, Try.ntmps32
  go_wp2_with (first | ((with_reducible refine gate_dst (N := 1) rfl ?_); refine box_event ?hg (N := 1) ?hd (cs := #[.int .i64 a0_0, .int .i64 a0_1, .int .i64 a0_2, .int .u8 a0_3]) (t := 61) ?hr ?_; (case hd => rfl); (case hg => rfl); (case hr => first | (go_simp; done) | (go_simp; rfl)); intro gb101 hg w8 hbox hb; have n0_ := zC.mk (below_step (by repeat (first | (with_reducible first | exact HB.out | apply zJ | apply zE | apply zI) | exact HB.out)) hb); have n1_ := zC.mk (hbox); have n2_ := zC.mk ((by rw [hg]; exact (below_size (by repeat (first | (with_reducible first | exact HB.out | apply zJ | apply zE | apply zI) | exact HB.out))) : w.heap.size ≤ gb101)); have n3_ := zC.mk ((by rw [hg]; exact (below_size (by repeat (first | (with_reducible first | exact HB.out | apply zJ | apply zE | apply zI) | exact HB.out))) : w.heap.size ≤ gb101)); clear HB; have HB := n0_; have BK101 := n1_; have GW101 := n2_; have GE101 := n3_; clear n0_ n1_ n2_ n3_; clear hb hbox hg; have hcz9_0 : w8.cell? ⟨gb101, 0, none⟩ = some (.int .i64 a0_0) := (zH BK101.out 0).trans rfl; have hcz9_1 : w8.cell? ⟨gb101, 1, none⟩ = some (.int .i64 a0_1) := (zH BK101.out 1).trans rfl; have hcz9_2 : w8.cell? ⟨gb101, 2, none⟩ = some (.int .i64 a0_2) := (zH BK101.out 2).trans rfl; have hcz9_3 : w8.cell? ⟨gb101, 3, none⟩ = some (.int .u8 a0_3) := (zH BK101.out 3).trans rfl; have hfz9_0 := zG BK101.out 0; have hfz9_1 := zG BK101.out 1; have hfz9_2 := zG BK101.out 2; have hfz9_3 := zG BK101.out 3))
  go_ret
  exact ⟨by first | rfl | (simp [errW_none, errW_some] <;> rfl) | (simp [*, errW_none, errW_some] <;> rfl), by repeat (first | (with_reducible first | exact HB.out | apply zJ | apply zE | apply zI | refine zF ?_ GE101.out) | exact HB.out)⟩
end Go.Proofs.Ytfeidhmkmbgnoaa.F
end
section
namespace Go.Proofs.Ytfeidhmkmbgnoaa.F
open Go.RowKit Go.Proofs.YtfeidhmkmbgnoaaW.PrintWords Go.Proofs.YtfeidhmkmbgnoaaW.PrintLast Go.Proofs.YtfeidhmkmbgnoaaW.PrintMore
attribute [local go_sem] max2_int min2_int max_two min_two max_three min_three max_four min_four   -- for this text's walks alone
set_option linter.unusedVariables false
set_option linter.unusedSimpArgs false
def span_Trim.l0 : Nat → Int → Int → List (S61) → List Int → Option (Int)
  | 0, _, _, _, _ => none
  | k + 1, x1, x2, x103000, x103001 => if x2 > x1 then (if 0 ≤ (wrap64 (x2 - 1)) then (if (wrap64 (x2 - 1)) < (x103000.length : Int) then ((span_empty.f ((rd_T61 x103000 (wrap64 (x2 - 1))).f0) ((rd_T61 x103000 (wrap64 (x2 - 1))).f1) ((rd_T61 x103000 (wrap64 (x2 - 1))).f2) ((rd_T61 x103000 (wrap64 (x2 - 1))).f3)).bind fun t104 => (if t104 = true then (span_Trim.l0 k x1 (wrap64 (x2 - 1)) x103000 x103001) else (some x2))) else (none)) else (none)) else (some x2)
def span_Trim.f (k : Nat) (l0_0 : List (S61)) (l0_1 : List Int) (a1 : Int) (a2 : Int) : Option (Int) := span_Trim.l0 k a1 a2 l0_0 l0_1
theorem span_Trim.mono_l : ∀ k, (∀ y0 y1 y2 y3, LeO (span_Trim.l0 k y0 y1 y2 y3) (span_Trim.l0 (k + 1) y0 y1 y2 y3))
  | 0 => fun _ _ _ _ r h => by simp [span_Trim.l0] at h
  | k + 1 => by
    have ih0 := span_Trim.mono_l k
    · intro y0 y1 y2 y3
      unfold span_Trim.l0
      repeat' first
      | (with_reducible exact ih0 _ _ _ _)
      | (with_reducible exact LeO.refl _)
      | (with_reducible exact LeO.none _)
      | (with_reducible refine LeO.ite ?_ ?_)
      | (with_reducible refine LeO.bind ?_ (fun _ => ?_))
      | exact ih0 _ _ _ _
      | exact LeO.none _
      | refine LeO.ite ?_ ?_
      | refine LeO.bind ?_ (fun _ => ?_)
theorem span_Trim.mono : ∀ a0 a1 a2 a3 k, LeO (span_Trim.f k a0 a1 a2 a3) (span_Trim.f (k + 1) a0 a1 a2 a3) := by
  intro a0 a1 a2 a3 k
  have ih0 := span_Trim.mono_l k; unfold span_Trim.f
  repeat' first
      | (with_reducible exact ih0 _ _ _ _)
      | (with_reducible exact LeO.refl _)
      | (with_reducible exact LeO.none _)
      | (with_reducible refine LeO.ite ?_ ?_)
      | (with_reducible refine LeO.bind ?_ (fun _ => ?_))
      | exact ih0 _ _ _ _
      | exact LeO.none _
      | refine LeO.ite ?_ ?_
      | refine LeO.bind ?_ (fun _ => ?_)
set_option maxHeartbeats 8000000 in
set_option maxRecDepth 100000 in
theorem span_Trim.calls (k : Nat) (A0_0 : Option Addr) (c0_0 : Nat) (l0_0 : List (S61)) (A0_1 : Option Addr) (c0_1 : Nat) (l0_1 : List Int) (a1 : Int) (a2 : Int) (r : Int) (w : World) (hr0_0 : Kd.C k61 w A0_0 l0_0.length l0_0) (hc0_0 : l0_0.length ≤ c0_0) (hr0_1 : Kd.C (Kd.int .u8) w A0_1 l0_1.length l0_1) (hc0_1 : l0_1.length ≤ c0_1) (h : span_Trim.f k l0_0 l0_1 a1 a2 = some r) :
    Calls Try.prog 19 #[.agg #[.slice A0_0 l0_0.length c0_0, .slice A0_1 l0_1.length c0_1], .int .i64 a1, .int .i64 a2] w fun e w' => e = .returned (.int .i64 r) ∧ Below w.heap.size w w' := by
  have hu31 := Try.underlying31; have hu61 := Try.underlying61; have HR0_0 := zC.mk hr0_0; have HC0_0 := zC.mk hc0_0; clear hr0_0 hc0_0; have HR0_1 := zC.mk hr0_1; have HC0_1 := zC.mk hc0_1; clear hr0_1 hc0_1; have HB := zC.mk (Below.refl w.heap.size w); have H : (span_Trim.l0 k a1 a2 l0_0 l0_1) = some r := h
  clear h; have H' := zC.mk H
  clear H; go_enter Try.func19, Try.ntmps19
  go_wp2_with (first | ((with_reducible refine gate_dst (N := 3) rfl ?_); refine box_event ?hg (N := 3) ?hd (cs := #[.slice A0_0 l0_0.length c0_0, .slice A0_1 l0_1.length c0_1]) (t := 31) ?hr ?_; (case hd => rfl); (case hg => rfl); (case hr => first | (go_simp; done) | (go_simp; rfl)); intro gb102 hg w4 hbox hb; have n0_ := zC.mk (below_step (by repeat (first | (with_reducible first | exact HB.out | apply zJ | apply zE | apply zI) | exact HB.out)) hb); have n1_ := zC.mk (hbox); have n2_ := zC.mk ((by rw [hg]; exact (below_size (by repeat (first | (with_reducible first | exact HB.out | apply zJ | apply zE | apply zI) | exact HB.out))) : w.heap.size ≤ gb102)); have n3_ := zC.mk ((by rw [hg]; exact (below_size (by repeat (first | (with_reducible first | exact HB.out | apply zJ | apply zE | apply zI) | exact HB.out))) : w.heap.size ≤ gb102)); clear HB; have HB := n0_; have BK102 := n1_; have GW102 := n2_; have GE102 := n3_; clear n0_ n1_ n2_ n3_; clear hb hbox hg))
  go_loopg [2] k (fun kq v2 w' => ∃ (x2_1 : Int), v2 = .int .i64 x2_1 ∧ zC (span_Trim.l0 kq a1 x2_1 l0_0 l0_1 = some r) ∧ zC (kq ≤ k) ∧ zC (w'.heap[gb102]? = some (.cells #[(.slice A0_0 l0_0.length c0_0), (.slice A0_1 l0_1.length c0_1)] 31 (0, 0))) ∧ zC (Below w.heap.size w w'))
  case atStart => exact ⟨(a2), (by first | rfl | (simp; done) | (simp [*]; done)), H', ⟨Nat.le_refl _⟩, ⟨by (with_reducible repeat (first | refine zA ?_ _ | refine zD ?_ | refine zB ?_ _)); exact BK102.out⟩, ⟨by repeat (first | (with_reducible first | exact HB.out | apply zJ | apply zE | apply zI | refine zF ?_ GE102.out) | exact HB.out)⟩⟩
  clear H'; try clear c1
  try clear p2
  obtain ⟨x2_1, rfl, HA, HK1, BK102, HB⟩ := hrel; cases gk with
  | zero => exact absurd HA.out (by simp [span_Trim.l0])
  | succ k1 =>
    have H := HA.out; clear HA; simp only [span_Trim.l0] at H; by_cases c5 : x2_1 > a1
    rotate_left
    · rw [if_neg c5] at H
      have c5b0 : decide (a1 < x2_1) = false := decide_eq_false c5
      clear c5; obtain rfl := Option.some.inj H
      go_wp2
      go_ret
      exact ⟨by first | rfl | (simp [errW_none, errW_some] <;> rfl) | (simp [*, errW_none, errW_some] <;> rfl), by repeat (first | (with_reducible first | exact HB.out | apply zJ | apply zE | apply zI | refine zF ?_ GE102.out) | exact HB.out)⟩
    rw [if_pos c5] at H; have c5b0 : decide (a1 < x2_1) = true := decide_eq_true c5
    clear c5; obtain ⟨ji6, hji6⟩ : ∃ j_ : Int, (wrap64 (x2_1 - 1)) = j_ := ⟨_, rfl⟩; replace H : (if 0 ≤ (ji6) then (if (ji6) < (l0_0.length : Int) then ((span_empty.f ((rd_T61 l0_0 (ji6)).f0) ((rd_T61 l0_0 (ji6)).f1) ((rd_T61 l0_0 (ji6)).f2) ((rd_T61 l0_0 (ji6)).f3)).bind fun t104 => (if t104 = true then (span_Trim.l0 k1 a1 ji6 l0_0 l0_1) else (some x2_1))) else (none)) else (none)) = some r := by first | (rw [hji6] at H; exact H) | (simp only [hji6] at H ⊢; exact H)
    have hji6w : (IntKind.i64.wrap (x2_1 - 1)) = ji6 := (i64_w _).trans hji6
    by_cases c7 : 0 ≤ (ji6)
    rotate_left
    · rw [if_neg c7] at H
      exact absurd H (by simp)
    rw [if_pos c7] at H; have c7b0 : decide (0 ≤ (ji6)) = true := decide_eq_true c7
    clear c7; by_cases c8 : (ji6) < (l0_0.length : Int)
    rotate_left
    · rw [if_neg c8] at H
      exact absurd H (by simp)
    rw [if_pos c8] at H; have c8b0 : decide ((ji6) < (l0_0.length : Int)) = true := decide_eq_true c8
    clear c8; replace H := Option.bind_eq_some_iff.mp H; obtain ⟨t104, A90, H⟩ := H; replace H : (if t104 = true then (span_Trim.l0 k1 a1 ji6 l0_0 l0_1) else (some x2_1)) = some r := H; have A9 := zC.mk A90; clear A90; by_cases c10 : t104 = true
    rotate_left
    · replace c10 := Bool.eq_false_iff.mpr c10
      subst c10; have H1 : (some x2_1) = some r := by rw [if_neg (show ¬ (false = true) by decide)] at H; exact H
      clear H; have H := H1; clear H1; obtain rfl := Option.some.inj H
      have hcz13_0 : wr.cell? ⟨gb102, 0, none⟩ = some (.slice A0_0 l0_0.length c0_0) := (zH BK102.out 0).trans rfl
      have hcz13_1 : wr.cell? ⟨gb102, 1, none⟩ = some (.slice A0_1 l0_1.length c0_1) := (zH BK102.out 1).trans rfl
      have hfz13_0 := zG BK102.out 0; have hfz13_1 := zG BK102.out 1; have p103 : 0 ≤ ((ji6) : Int) := of_decide_eq_true (by first | (with_reducible assumption) | assumption)
      have q103 : (ji6) < (l0_0.length : Int) := of_decide_eq_true (by first | (with_reducible assumption) | assumption)
      obtain ⟨ad103, e103, hx103_0, hx103_1, hx103_2, hx103_3⟩ := at_T61 HR0_0.out (ji6) p103 q103; cases e103
      replace hx103_0 := (HB.out.cell (World.block_lt_of_cell? w _ hx103_0)).trans hx103_0; replace hx103_1 := (HB.out.cell (World.block_lt_of_cell? w _ hx103_1)).trans hx103_1; replace hx103_2 := (HB.out.cell (World.block_lt_of_cell? w _ hx103_2)).trans hx103_2; replace hx103_3 := (HB.out.cell (World.block_lt_of_cell? w _ hx103_3)).trans hx103_3; replace p103 := eq_true p103; replace q103 := eq_true q103; go_wp2_with (first | (go_at_call 32; (with_reducible refine (span_empty.calls ((rd_T61 l0_0 (ji6)).f0) ((rd_T61 l0_0 (ji6)).f1) ((rd_T61 l0_0 (ji6)).f2) ((rd_T61 l0_0 (ji6)).f3) false _ A9.out).mono ?_); rintro e w14 ⟨rfl, hb⟩; have n0_ := zC.mk (blk_below (g := gb102) (o := .cells #[.slice (some ad103) l0_0.length c0_0, .slice A0_1 l0_1.length c0_1] 31 (0, 0)) (by (with_reducible repeat (first | refine zA ?_ _ | refine zD ?_ | refine zB ?_ _)); exact BK102.out) hb); have n1_ := zC.mk (below_step (by repeat (first | (with_reducible first | exact HB.out | apply zJ | apply zE | apply zI | refine zF ?_ GE102.out) | exact HB.out)) hb); clear BK102; clear HB; have BK102 := n0_; have HB := n1_; clear n0_ n1_; (try clear hb); (try clear hb2); (try clear hk); (try clear hi)))
      go_ret
      exact ⟨by first | rfl | (simp [errW_none, errW_some] <;> rfl) | (simp only [← hji6]; first | rfl | (simp [errW_none, errW_some] <;> rfl)) | (simp [*, errW_none, errW_some] <;> rfl), by repeat (first | (with_reducible first | exact HB.out | apply zJ | apply zE | apply zI | refine zF ?_ GE102.out) | exact HB.out)⟩
    subst c10; have H1 : (span_Trim.l0 k1 a1 ji6 l0_0 l0_1) = some r := by rw [if_pos rfl] at H; exact H
    clear H; have H := H1; clear H1; have H' := zC.mk H
    clear H; have hcz11_0 : wr.cell? ⟨gb102, 0, none⟩ = some (.slice A0_0 l0_0.length c0_0) := (zH BK102.out 0).trans rfl
    have hcz11_1 : wr.cell? ⟨gb102, 1, none⟩ = some (.slice A0_1 l0_1.length c0_1) := (zH BK102.out 1).trans rfl
    have hfz11_0 := zG BK102.out 0; have hfz11_1 := zG BK102.out 1; have p103 : 0 ≤ ((ji6) : Int) := of_decide_eq_true (by first | (with_reducible assumption) | assumption)
    have q103 : (ji6) < (l0_0.length : Int) := of_decide_eq_true (by first | (with_reducible assumption) | assumption)
    obtain ⟨ad103, e103, hx103_0, hx103_1, hx103_2, hx103_3⟩ := at_T61 HR0_0.out (ji6) p103 q103; cases e103
    replace hx103_0 := (HB.out.cell (World.block_lt_of_cell? w _ hx103_0)).trans hx103_0; replace hx103_1 := (HB.out.cell (World.block_lt_of_cell? w _ hx103_1)).trans hx103_1; replace hx103_2 := (HB.out.cell (World.block_lt_of_cell? w _ hx103_2)).trans hx103_2; replace hx103_3 := (HB.out.cell (World.block_lt_of_cell? w _ hx103_3)).trans hx103_3; replace p103 := eq_true p103; replace q103 := eq_true q103; go_wp2_with (first | (go_at_call 32; (with_reducible refine (span_empty.calls ((rd_T61 l0_0 (ji6)).f0) ((rd_T61 l0_0 (ji6)).f1) ((rd_T61 l0_0 (ji6)).f2) ((rd_T61 l0_0 (ji6)).f3) true _ A9.out).mono ?_); rintro e w12 ⟨rfl, hb⟩; have n0_ := zC.mk (blk_below (g := gb102) (o := .cells #[.slice (some ad103) l0_0.length c0_0, .slice A0_1 l0_1.length c0_1] 31 (0, 0)) (by (with_reducible repeat (first | refine zA ?_ _ | refine zD ?_ | refine zB ?_ _)); exact BK102.out) hb); have n1_ := zC.mk (below_step (by repeat (first | (with_reducible first | exact HB.out | apply zJ | apply zE | apply zI | refine zF ?_ GE102.out) | exact HB.out)) hb); clear BK102; clear HB; have BK102 := n0_; have HB := n1_; clear n0_ n1_; (try clear hb); (try clear hb2); (try clear hk); (try clear hi)))
    go_roundg k1
    case measure => have := HK1.out; omega
    case rel => exact ⟨(ji6), (by first | rfl | (simp; done) | (simp only [← hji6] <;> (first | rfl | simp)) | (simp [*]; done)), H', ⟨by have := HK1.out; omega⟩, ⟨by (with_reducible repeat (first | refine zA ?_ _ | refine zD ?_ | refine zB ?_ _)); exact BK102.out⟩, ⟨by repeat (first | (with_reducible first | exact HB.out | apply zJ | apply zE | apply zI | refine zF ?_ GE102.out) | exact HB.out)⟩⟩
end Go.Proofs.Ytfeidhmkmbgnoaa.F
end
section
namespace Go.Proofs.Ytfeidhmkmbgnoaa.F
open Go.RowKit Go.Proofs.YtfeidhmkmbgnoaaW.PrintWords Go.Proofs.YtfeidhmkmbgnoaaW.PrintLast Go.Proofs.YtfeidhmkmbgnoaaW.PrintMore
attribute [local go_sem] max2_int min2_int max_two min_two max_three min_three max_four min_four   -- for this text's walks alone
set_option linter.unusedVariables false
set_option linter.unusedSimpArgs false
def span_Next.f (a0_0 : Int) (a0_1 : Int) (a0_2 : Int) (a0_3 : Int) (a1 : Int) (a2 : Int) : Option (Int) := if a0_3 = 2 then (if a2 = 0 then (none) else (some (wrap64 ((wrap64 (a1 + a2)) - (Int.tmod a1 a2))))) else (some (wrap64 (a1 + a0_2)))
set_option maxHeartbeats 8000000 in
set_option maxRecDepth 100000 in
theorem span_Next.calls (a0_0 : Int) (a0_1 : Int) (a0_2 : Int) (a0_3 : Int) (a1 : Int) (a2 : Int) (r : Int) (w : World) (h : span_Next.f a0_0 a0_1 a0_2 a0_3 a1 a2 = some r) :
    Calls Try.prog 40 #[.agg #[.int .i64 a0_0, .int .i64 a0_1, .int .i64 a0_2, .int .u8 a0_3], .int .i64 a1, .int .i64 a2] w fun e w' => e = .returned (.int .i64 r) ∧ Below w.heap.size w w' := by
  have hu61 := Try.underlying61; have HB := zC.mk (Below.refl w.heap.size w); have H : (if a0_3 = 2 then (if a2 = 0 then (none) else (some (wrap64 ((wrap64 (a1 + a2)) - (Int.tmod a1 a2))))) else (some (wrap64 (a1 + a0_2)))) = some r := h
  clear h; by_cases c4 : a0_3 = 2
  rotate_left
  · rw [if_neg c4] at H
    have c4b0 : (a0_3 == 2) = false := beq_eq_false_iff_ne.mpr c4
    have c4b1 : (a0_3 != 2) = true := bne_iff_ne.mpr c4
    obtain rfl := Option.some.inj H
    go_enter Try.func40, Try.ntmps40
    go_wp2_with (first | ((with_reducible refine gate_dst (N := 3) rfl ?_); refine box_event ?hg (N := 3) ?hd (cs := #[.int .i64 a0_0, .int .i64 a0_1, .int .i64 a0_2, .int .u8 a0_3]) (t := 61) ?hr ?_; (case hd => rfl); (case hg => rfl); (case hr => first | (go_simp; done) | (go_simp; rfl)); intro gb105 hg w8 hbox hb; have n0_ := zC.mk (below_step (by repeat (first | (with_reducible first | exact HB.out | apply zJ | apply zE | apply zI) | exact HB.out)) hb); have n1_ := zC.mk (hbox); have n2_ := zC.mk ((by rw [hg]; exact (below_size (by repeat (first | (with_reducible first | exact HB.out | apply zJ | apply zE | apply zI) | exact HB.out))) : w.heap.size ≤ gb105)); have n3_ := zC.mk ((by rw [hg]; exact (below_size (by repeat (first | (with_reducible first | exact HB.out | apply zJ | apply zE | apply zI) | exact HB.out))) : w.heap.size ≤ gb105)); clear HB; have HB := n0_; have BK105 := n1_; have GW105 := n2_; have GE105 := n3_; clear n0_ n1_ n2_ n3_; clear hb hbox hg; have hcz9_0 : w8.cell? ⟨gb105, 0, none⟩ = some (.int .i64 a0_0) := (zH BK105.out 0).trans rfl; have hcz9_1 : w8.cell? ⟨gb105, 1, none⟩ = some (.int .i64 a0_1) := (zH BK105.out 1).trans rfl; have hcz9_2 : w8.cell? ⟨gb105, 2, none⟩ = some (.int .i64 a0_2) := (zH BK105.out 2).trans rfl; have hcz9_3 : w8.cell? ⟨gb105, 3, none⟩ = some (.int .u8 a0_3) := (zH BK105.out 3).trans rfl; have hfz9_0 := zG BK105.out 0; have hfz9_1 := zG BK105.out 1; have hfz9_2 := zG BK105.out 2; have hfz9_3 := zG BK105.out 3))
    go_ret
    exact ⟨by first | rfl | (simp [errW_none, errW_some] <;> rfl) | (simp [*, errW_none, errW_some] <;> rfl), by repeat (first | (with_reducible first | exact HB.out | apply zJ | apply zE | apply zI | refine zF ?_ GE105.out) | exact HB.out)⟩
  rw [if_pos c4] at H; have c4b0 : (a0_3 == 2) = true := beq_iff_eq.mpr c4
  have c4b1 : (a0_3 != 2) = false := bne_eq_false_iff_eq.mpr c4
  clear c4; by_cases c5 : a2 = 0
  · rw [if_pos c5] at H
    exact absurd H (by simp)
  rw [if_neg c5] at H; have c5b0 : (a2 == 0) = false := beq_eq_false_iff_ne.mpr c5
  have c5b1 : (a2 != 0) = true := bne_iff_ne.mpr c5
  obtain rfl := Option.some.inj H
  go_enter Try.func40, Try.ntmps40
  go_wp2_with (first | ((with_reducible refine gate_dst (N := 3) rfl ?_); refine box_event ?hg (N := 3) ?hd (cs := #[.int .i64 a0_0, .int .i64 a0_1, .int .i64 a0_2, .int .u8 a0_3]) (t := 61) ?hr ?_; (case hd => rfl); (case hg => rfl); (case hr => first | (go_simp; done) | (go_simp; rfl)); intro gb105 hg w6 hbox hb; have n0_ := zC.mk (below_step (by repeat (first | (with_reducible first | exact HB.out | apply zJ | apply zE | apply zI) | exact HB.out)) hb); have n1_ := zC.mk (hbox); have n2_ := zC.mk ((by rw [hg]; exact (below_size (by repeat (first | (with_reducible first | exact HB.out | apply zJ | apply zE | apply zI) | exact HB.out))) : w.heap.size ≤ gb105)); have n3_ := zC.mk ((by rw [hg]; exact (below_size (by repeat (first | (with_reducible first | exact HB.out | apply zJ | apply zE | apply zI) | exact HB.out))) : w.heap.size ≤ gb105)); clear HB; have HB := n0_; have BK105 := n1_; have GW105 := n2_; have GE105 := n3_; clear n0_ n1_ n2_ n3_; clear hb hbox hg; have hcz7_0 : w6.cell? ⟨gb105, 0, none⟩ = some (.int .i64 a0_0) := (zH BK105.out 0).trans rfl; have hcz7_1 : w6.cell? ⟨gb105, 1, none⟩ = some (.int .i64 a0_1) := (zH BK105.out 1).trans rfl; have hcz7_2 : w6.cell? ⟨gb105, 2, none⟩ = some (.int .i64 a0_2) := (zH BK105.out 2).trans rfl; have hcz7_3 : w6.cell? ⟨gb105, 3, none⟩ = some (.int .u8 a0_3) := (zH BK105.out 3).trans rfl; have hfz7_0 := zG BK105.out 0; have hfz7_1 := zG BK105.out 1; have hfz7_2 := zG BK105.out 2; have hfz7_3 := zG BK105.out 3))
  go_ret
  exact ⟨by first | rfl | (simp [errW_none, errW_some] <;> rfl) | (simp [*, errW_none, errW_some] <;> rfl), by repeat (first | (with_reducible first | exact HB.out | apply zJ | apply zE | apply zI | refine zF ?_ GE105.out) | exact HB.out)⟩
def span_Ends.f (l0_0 : List (S61)) (l0_1 : List Int) (a1 : Int) : Option (Int × Bool) := if 0 ≤ a1 then (if a1 < (l0_1.length : Int) then (some (rd l0_1 a1, ((rd l0_1 a1) != 0))) else (none)) else (none)
set_option maxHeartbeats 8000000 in
set_option maxRecDepth 100000 in
theorem span_Ends.calls (A0_0 : Option Addr) (c0_0 : Nat) (l0_0 : List (S61)) (A0_1 : Option Addr) (c0_1 : Nat) (l0_1 : List Int) (a1 : Int) (r1 : Int) (r2 : Bool) (w : World) (hr0_0 : Kd.C k61 w A0_0 l0_0.length l0_0) (hc0_0 : l0_0.length ≤ c0_0) (hr0_1 : Kd.C (Kd.int .u8) w A0_1 l0_1.length l0_1) (hc0_1 : l0_1.length ≤ c0_1) (h : span_Ends.f l0_0 l0_1 a1 = some (r1, r2)) :
    Calls Try.prog 41 #[.agg #[.slice A0_0 l0_0.length c0_0, .slice A0_1 l0_1.length c0_1], .int .i64 a1] w fun e w' => e = .returned (.tuple #[.int .u8 r1, .bool r2]) ∧ Below w.heap.size w w' := by
  have hu31 := Try.underlying31; have HR0_0 := zC.mk hr0_0; have HC0_0 := zC.mk hc0_0; clear hr0_0 hc0_0; have HR0_1 := zC.mk hr0_1; have HC0_1 := zC.mk hc0_1; clear hr0_1 hc0_1; have HB := zC.mk (Below.refl w.heap.size w); have H : (if 0 ≤ a1 then (if a1 < (l0_1.length : Int) then (some (rd l0_1 a1, ((rd l0_1 a1) != 0))) else (none)) else (none)) = some (r1, r2) := h
  clear h; by_cases c3 : 0 ≤ a1
  rotate_left
  · rw [if_neg c3] at H
    exact absurd H (by simp)
  rw [if_pos c3] at H; have c3b0 : decide (0 ≤ a1) = true := decide_eq_true c3
  clear c3; by_cases c4 : a1 < (l0_1.length : Int)
  rotate_left
  · rw [if_neg c4] at H
    exact absurd H (by simp)
  rw [if_pos c4] at H; have c4b0 : decide (a1 < (l0_1.length : Int)) = true := decide_eq_true c4
  clear c4; simp only [Option.some.injEq, Prod.mk.injEq] at H; obtain ⟨rfl, rfl⟩ := H; go_enter Try.func41, Try.ntmps41
  go_wp2_with (first | ((with_reducible refine gate_dst (N := 2) rfl ?_); refine box_event ?hg (N := 2) ?hd (cs := #[.slice A0_0 l0_0.length c0_0, .slice A0_1 l0_1.length c0_1]) (t := 31) ?hr ?_; (case hd => rfl); (case hg => rfl); (case hr => first | (go_simp; done) | (go_simp; rfl)); intro gb106 hg w5 hbox hb; have n0_ := zC.mk (below_step (by repeat (first | (with_reducible first | exact HB.out | apply zJ | apply zE | apply zI) | exact HB.out)) hb); have n1_ := zC.mk (hbox); have n2_ := zC.mk ((by rw [hg]; exact (below_size (by repeat (first | (with_reducible first | exact HB.out | apply zJ | apply zE | apply zI) | exact HB.out))) : w.heap.size ≤ gb106)); have n3_ := zC.mk ((by rw [hg]; exact (below_size (by repeat (first | (with_reducible first | exact HB.out | apply zJ | apply zE | apply zI) | exact HB.out))) : w.heap.size ≤ gb106)); clear HB; have HB := n0_; have BK106 := n1_; have GW106 := n2_; have GE106 := n3_; clear n0_ n1_ n2_ n3_; clear hb hbox hg; have hcz6_0 : w5.cell? ⟨gb106, 0, none⟩ = some (.slice A0_0 l0_0.length c0_0) := (zH BK106.out 0).trans rfl; have hcz6_1 : w5.cell? ⟨gb106, 1, none⟩ = some (.slice A0_1 l0_1.length c0_1) := (zH BK106.out 1).trans rfl; have hfz6_0 := zG BK106.out 0; have hfz6_1 := zG BK106.out 1; have p107 : 0 ≤ (a1 : Int) := of_decide_eq_true (by first | (with_reducible assumption) | assumption); have q107 : a1 < (l0_1.length : Int) := of_decide_eq_true (by first | (with_reducible assumption) | assumption); obtain ⟨ad107, e107, hx107_0⟩ := Kd.at_int HR0_1.out a1 p107 q107; cases e107; replace hx107_0 := (HB.out.cell (World.block_lt_of_cell? w _ hx107_0)).trans hx107_0; replace p107 := eq_true p107; replace q107 := eq_true q107; have p108 : 0 ≤ (a1 : Int) := of_decide_eq_true (by first | (with_reducible assumption) | assumption); have q108 : a1 < (l0_1.length : Int) := of_decide_eq_true (by first | (with_reducible assumption) | assumption); obtain ⟨ad108, e108, hx108_0⟩ := Kd.at_int HR0_1.out a1 p108 q108; obtain rfl : ad107 = ad108 := (by injection e108); replace hx108_0 := (HB.out.cell (World.block_lt_of_cell? w _ hx108_0)).trans hx108_0; replace p108 := eq_true p108; replace q108 := eq_true q108))
  repeat (go_quiet (first | ((with_reducible refine gate_dst (N := 2) rfl ?_); refine box_event ?hg (N := 2) ?hd (cs := #[.slice A0_0 l0_0.length c0_0, .slice A0_1 l0_1.length c0_1]) (t := 31) ?hr ?_; (case hd => rfl); (case hg => rfl); (case hr => first | (go_simp; done) | (go_simp; rfl)); intro gb106 hg w5 hbox hb; have n0_ := zC.mk (below_step (by repeat (first | (with_reducible first | exact HB.out | apply zJ | apply zE | apply zI) | exact HB.out)) hb); have n1_ := zC.mk (hbox); have n2_ := zC.mk ((by rw [hg]; exact (below_size (by repeat (first | (with_reducible first | exact HB.out | apply zJ | apply zE | apply zI) | exact HB.out))) : w.heap.size ≤ gb106)); have n3_ := zC.mk ((by rw [hg]; exact (below_size (by repeat (first | (with_reducible first | exact HB.out | apply zJ | apply zE | apply zI) | exact HB.out))) : w.heap.size ≤ gb106)); clear HB; have HB := n0_; have BK106 := n1_; have GW106 := n2_; have GE106 := n3_; clear n0_ n1_ n2_ n3_; clear hb hbox hg; have hcz6_0 : w5.cell? ⟨gb106, 0, none⟩ = some (.slice A0_0 l0_0.length c0_0) := (zH BK106.out 0).trans rfl; have hcz6_1 : w5.cell? ⟨gb106, 1, none⟩ = some (.slice A0_1 l0_1.length c0_1) := (zH BK106.out 1).trans rfl; have hfz6_0 := zG BK106.out 0; have hfz6_1 := zG BK106.out 1; have p107 : 0 ≤ (a1 : Int) := of_decide_eq_true (by first | (with_reducible assumption) | assumption); have q107 : a1 < (l0_1.length : Int) := of_decide_eq_true (by first | (with_reducible assumption) | assumption); obtain ⟨ad107, e107, hx107_0⟩ := Kd.at_int HR0_1.out a1 p107 q107; cases e107; replace hx107_0 := (HB.out.cell (World.block_lt_of_cell? w _ hx107_0)).trans hx107_0; replace p107 := eq_true p107; replace q107 := eq_true q107; have p108 : 0 ≤ (a1 : Int) := of_decide_eq_true (by first | (with_reducible assumption) | assumption); have q108 : a1 < (l0_1.length : Int) := of_decide_eq_true (by first | (with_reducible assumption) | assumption); obtain ⟨ad108, e108, hx108_0⟩ := Kd.at_int HR0_1.out a1 p108 q108; obtain rfl : ad107 = ad108 := (by injection e108); replace hx108_0 := (HB.out.cell (World.block_lt_of_cell? w _ hx108_0)).trans hx108_0; replace p108 := eq_true p108; replace q108 := eq_true q108)); try go_wp2_with (first | ((with_reducible refine gate_dst (N := 2) rfl ?_); refine box_event ?hg (N := 2) ?hd (cs := #[.slice A0_0 l0_0.length c0_0, .slice A0_1 l0_1.length c0_1]) (t := 31) ?hr ?_; (case hd => rfl); (case hg => rfl); (case hr => first | (go_simp; done) | (go_simp; rfl)); intro gb106 hg w5 hbox hb; have n0_ := zC.mk (below_step (by repeat (first | (with_reducible first | exact HB.out | apply zJ | apply zE | apply zI) | exact HB.out)) hb); have n1_ := zC.mk (hbox); have n2_ := zC.mk ((by rw [hg]; exact (below_size (by repeat (first | (with_reducible first | exact HB.out | apply zJ | apply zE | apply zI) | exact HB.out))) : w.heap.size ≤ gb106)); have n3_ := zC.mk ((by rw [hg]; exact (below_size (by repeat (first | (with_reducible first | exact HB.out | apply zJ | apply zE | apply zI) | exact HB.out))) : w.heap.size ≤ gb106)); clear HB; have HB := n0_; have BK106 := n1_; have GW106 := n2_; have GE106 := n3_; clear n0_ n1_ n2_ n3_; clear hb hbox hg; have hcz6_0 : w5.cell? ⟨gb106, 0, none⟩ = some (.slice A0_0 l0_0.length c0_0) := (zH BK106.out 0).trans rfl; have hcz6_1 : w5.cell? ⟨gb106, 1, none⟩ = some (.slice A0_1 l0_1.length c0_1) := (zH BK106.out 1).trans rfl; have hfz6_0 := zG BK106.out 0; have hfz6_1 := zG BK106.out 1; have p107 : 0 ≤ (a1 : Int) := of_decide_eq_true (by first | (with_reducible assumption) | assumption); have q107 : a1 < (l0_1.length : Int) := of_decide_eq_true (by first | (with_reducible assumption) | assumption); obtain ⟨ad107, e107, hx107_0⟩ := Kd.at_int HR0_1.out a1 p107 q107; cases e107; replace hx107_0 := (HB.out.cell (World.block_lt_of_cell? w _ hx107_0)).trans hx107_0; replace p107 := eq_true p107; replace q107 := eq_true q107; have p108 : 0 ≤ (a1 : Int) := of_decide_eq_true (by first | (with_reducible assumption) | assumption); have q108 : a1 < (l0_1.length : Int) := of_decide_eq_true (by first | (with_reducible assumption) | assumption); obtain ⟨ad108, e108, hx108_0⟩ := Kd.at_int HR0_1.out a1 p108 q108; obtain rfl : ad107 = ad108 := (by injection e108); replace hx108_0 := (HB.out.cell (World.block_lt_of_cell? w _ hx108_0)).trans hx108_0; replace p108 := eq_true p108; replace q108 := eq_true q108)))
  go_ret2
  exact ⟨by first | rfl | (simp [errW_none, errW_some] <;> rfl) | (simp [*, errW_none, errW_some] <;> rfl), by repeat (first | (with_reducible first | exact HB.out | apply zJ | apply zE | apply zI | refine zF ?_ GE106.out) | exact HB.out)⟩
end Go.Proofs.Ytfeidhmkmbgnoaa.F
end
section
namespace Go.Proofs.Ytfeidhmkmbgnoaa.F
open Go.RowKit Go.Proofs.YtfeidhmkmbgnoaaW.PrintWords Go.Proofs.YtfeidhmkmbgnoaaW.PrintLast Go.Proofs.YtfeidhmkmbgnoaaW.PrintMore
attribute [local go_sem] max2_int min2_int max_two min_two max_three min_three max_four min_four   -- for this text's walks alone
set_option linter.unusedVariables false
set_option linter.unusedSimpArgs false
def span_Columns.l0 : Nat → Int → Int → List Int → Int → List (S61) → List Int → Option (List Int)
  | 0, _, _, _, _, _, _ => none
  | k + 1, x2, x3, x9, x10, x110000, x110001 => if x10 < x2 then (if 0 ≤ x10 then (if x10 < (x110000.length : Int) then (if 0 ≤ (wrap64 ((x9.length : Int) - 1)) then (if (wrap64 ((x9.length : Int) - 1)) < (x9.length : Int) then ((span_Next.f ((rd_T61 x110000 x10).f0) ((rd_T61 x110000 x10).f1) ((rd_T61 x110000 x10).f2) ((rd_T61 x110000 x10).f3) (rd x9 (wrap64 ((x9.length : Int) - 1))) x3).bind fun t115 => (if x9.length < 17592186044416 then (span_Columns.l0 k x2 x3 (x9 ++ [t115]) (wrap64 (x10 + 1)) x110000 x110001) else (none))) else (none)) else (none)) else (none)) else (none)) else (some x9)
def span_Columns.f (k : Nat) (l0_0 : List (S61)) (l0_1 : List Int) (a1 : Int) (a2 : Int) (a3 : Int) : Option (List Int) := span_Columns.l0 k a2 a3 (([0] : List Int)) a1 l0_0 l0_1
theorem span_Columns.mono_l : ∀ k, (∀ y0 y1 y2 y3 y4 y5, LeO (span_Columns.l0 k y0 y1 y2 y3 y4 y5) (span_Columns.l0 (k + 1) y0 y1 y2 y3 y4 y5))
  | 0 => fun _ _ _ _ _ _ r h => by simp [span_Columns.l0] at h
  | k + 1 => by
    have ih0 := span_Columns.mono_l k
    · intro y0 y1 y2 y3 y4 y5
      unfold span_Columns.l0
      repeat' first
      | (with_reducible exact ih0 _ _ _ _ _ _)
      | (with_reducible exact LeO.refl _)
      | (with_reducible exact LeO.none _)
      | (with_reducible refine LeO.ite ?_ ?_)
      | (with_reducible refine LeO.bind ?_ (fun _ => ?_))
      | exact ih0 _ _ _ _ _ _
      | exact LeO.none _
      | refine LeO.ite ?_ ?_
      | refine LeO.bind ?_ (fun _ => ?_)
theorem span_Columns.mono : ∀ a0 a1 a2 a3 a4 k, LeO (span_Columns.f k a0 a1 a2 a3 a4) (span_Columns.f (k + 1) a0 a1 a2 a3 a4) := by
  intro a0 a1 a2 a3 a4 k
  have ih0 := span_Columns.mono_l k; unfold span_Columns.f
  repeat' first
      | (with_reducible exact ih0 _ _ _ _ _ _)
      | (with_reducible exact LeO.refl _)
      | (with_reducible exact LeO.none _)
      | (with_reducible refine LeO.ite ?_ ?_)
      | (with_reducible refine LeO.bind ?_ (fun _ => ?_))
      | exact ih0 _ _ _ _ _ _
      | exact LeO.none _
      | refine LeO.ite ?_ ?_
      | refine LeO.bind ?_ (fun _ => ?_)
def span_Columns.T5 : Bool × List (List Nat × List Nat) := (true, [([], []), ([], []), ([1], [1]), ([], []), ([2, 3], [2, 3]), ([4], [4]), ([], []), ([], []), ([7], [7]), ([8], [8]), ([6, 9], [6, 9]), ([10], [10]), ([], []), ([5, 11, 12], [5, 11, 12]), ([13], [13]), ([0, 14, 13], [0, 14]), ([15, 15, 0, 1, 2, 3, 4, 5, 6, 7, 8, 9, 10, 11, 12, 13, 14, 15], [0, 6, 7, 15])])
def span_Columns.B5 : List Nat := [0, 0, 2, 0, 14, 30, 0, 0, 128, 384, 960, 1984, 0, 8190, 16382, 32767, 65535]
theorem span_Columns.tab5 : rtab .any (opsOf Try.f33 5) = span_Columns.T5 := by kernel_rfl
theorem span_Columns.bits5 : waitsOk span_Columns.T5.2 span_Columns.B5 = true := by kernel_rfl
set_option maxHeartbeats 8000000 in
set_option maxRecDepth 100000 in
theorem span_Columns.calls (k : Nat) (A0_0 : Option Addr) (c0_0 : Nat) (l0_0 : List (S61)) (A0_1 : Option Addr) (c0_1 : Nat) (l0_1 : List Int) (a1 : Int) (a2 : Int) (a3 : Int) (r : List Int) (w : World) (hr0_0 : Kd.C k61 w A0_0 l0_0.length l0_0) (hc0_0 : l0_0.length ≤ c0_0) (hr0_1 : Kd.C (Kd.int .u8) w A0_1 l0_1.length l0_1) (hc0_1 : l0_1.length ≤ c0_1) (h : span_Columns.f k l0_0 l0_1 a1 a2 a3 = some r) :
    Calls Try.prog 33 #[.agg #[.slice A0_0 l0_0.length c0_0, .slice A0_1 l0_1.length c0_1], .int .i64 a1, .int .i64 a2, .int .i64 a3] w fun e w' => ∃ v0_ : Value, e = .returned (v0_) ∧ Kd.R (Kd.int .i64) 3 w' w.heap.size (fun _ => True) v0_ r ∧ Below w.heap.size w w' := by
  have hu31 := Try.underlying31; have hu61 := Try.underlying61; have HR0_0 := zC.mk hr0_0; have HC0_0 := zC.mk hc0_0; clear hr0_0 hc0_0; have HR0_1 := zC.mk hr0_1; have HC0_1 := zC.mk hc0_1; clear hr0_1 hc0_1; have HB := zC.mk (Below.refl w.heap.size w); have H : (span_Columns.l0 k a2 a3 (([0] : List Int)) a1 l0_0 l0_1) = some r := h
  clear h; obtain ⟨y110, hy110⟩ : ∃ y_ : List Int, y_ = (([0] : List Int)) := ⟨_, rfl⟩; replace H : (span_Columns.l0 k a2 a3 y110 a1 l0_0 l0_1) = some r := by first | (rw [hy110]; with_reducible exact H) | (have H2_ := (Option.bind_some _ _).symm.trans H; rw [hy110]; with_reducible exact H2_) | (have H2_ := (Option.bind_some _ _).symm.trans H; with_reducible exact H2_) | with_reducible exact H | (rw [hy110]; exact H) | exact H
  have Ny110 := zC.mk hy110; clear hy110; have H' := zC.mk H
  clear H; go_enter Try.func33, Try.ntmps33
  go_wp2_with (first | ((with_reducible refine gate_dst (N := 4) rfl ?_); refine box_event ?hg (N := 4) ?hd (cs := #[.slice A0_0 l0_0.length c0_0, .slice A0_1 l0_1.length c0_1]) (t := 31) ?hr ?_; (case hd => rfl); (case hg => rfl); (case hr => first | (go_simp; done) | (go_simp; rfl)); intro gb109 hg w5 hbox hb; have n0_ := zC.mk (below_step (by repeat (first | (with_reducible first | exact HB.out | apply zJ | apply zE | apply zI) | exact HB.out)) hb); have n1_ := zC.mk (hbox); have n2_ := zC.mk ((by rw [hg]; exact (below_size (by repeat (first | (with_reducible first | exact HB.out | apply zJ | apply zE | apply zI) | exact HB.out))) : w.heap.size ≤ gb109)); have n3_ := zC.mk ((by rw [hg]; exact (below_size (by repeat (first | (with_reducible first | exact HB.out | apply zJ | apply zE | apply zI) | exact HB.out))) : w.heap.size ≤ gb109)); clear HB; have HB := n0_; have BK109 := n1_; have GW109 := n2_; have GE109 := n3_; clear n0_ n1_ n2_ n3_; clear hb hbox hg) | ((with_reducible refine gate_dst (N := 11) rfl ?_); refine Kd.R_lit (Kd.int .i64) _ 3 ?hg (N := 11) ?hd (xs := ([0] : List Int)) (inner := [.int .i64 0]) (ok := fun _ => True) (okp := fun _ => True) ?hr ?hp (fun _ hk => hk) trivial (Below.refl _ _) (Nat.le_refl _) (by simp) ?_; (case hd => rfl); (case hg => rfl); (case hr => first | (go_simp; done) | (go_simp; rfl)); (case hp => exact (Reps.one (show Kd.M (Kd.int .i64) _ _ _ 0 [.int .i64 0] from rfl) (Reps.none _ _))); intro v111 w6 ho7 hb hg_ hnew_; clear hg_ hnew_; (first | rw [← Ny110.out] at ho7 | (simp only [Int.reduceToNat] at ho7; rw [← Ny110.out] at ho7)); have n0_ := zC.mk (Kd.R_lower ho7 (below_size (by repeat (first | (with_reducible first | exact HB.out | apply zJ | apply zE | apply zI | refine zF ?_ GE109.out) | exact HB.out)))); have n1_ := zC.mk (blk_below (g := gb109) (o := .cells #[.slice A0_0 l0_0.length c0_0, .slice A0_1 l0_1.length c0_1] 31 (0, 0)) (by (with_reducible repeat (first | refine zA ?_ _ | refine zD ?_ | refine zB ?_ _)); exact BK109.out) hb); have n2_ := zC.mk (below_step (by repeat (first | (with_reducible first | exact HB.out | apply zJ | apply zE | apply zI | refine zF ?_ GE109.out) | exact HB.out)) hb); clear BK109; clear HB; have HO112 := n0_; have BK109 := n1_; have HB := n2_; clear n0_ n1_ n2_; clear hb ho7))
  go_loopg [9, 10] k (fun kq v9 v10 w' => ∃ (x9_1 : List Int) (x10_1 : Int), v10 = .int .i64 x10_1 ∧ zC (span_Columns.l0 kq a2 a3 x9_1 x10_1 l0_0 l0_1 = some r) ∧ zC (kq ≤ k) ∧ zC (Kd.R (Kd.int .i64) 3 w' w.heap.size (fun _ => True) v9 x9_1) ∧ zC (w'.heap[gb109]? = some (.cells #[(.slice A0_0 l0_0.length c0_0), (.slice A0_1 l0_1.length c0_1)] 31 (0, 0))) ∧ zC (Below w.heap.size w w'))
  case atStart => exact ⟨(y110), (a1), (by first | rfl | (simp; done) | (simp [*]; done)), H', ⟨Nat.le_refl _⟩, ⟨by (with_reducible repeat (first | apply Kd.R_alloc | apply Kd.R_drewN | apply Kd.R_drew)); exact HO112.out⟩, ⟨by (with_reducible repeat (first | refine zA ?_ _ | refine zD ?_ | refine zB ?_ _)); exact BK109.out⟩, ⟨by repeat (first | (with_reducible first | exact HB.out | apply zJ | apply zE | apply zI | refine zF ?_ GE109.out) | exact HB.out)⟩⟩
  clear H'; try clear p2
  try clear c3
  obtain ⟨x9_1, x10_1, rfl, HA, HK1, HO_9, BK109, HB⟩ := hrel; cases gk with
  | zero => exact absurd HA.out (by simp [span_Columns.l0])
  | succ k1 =>
    have H := HA.out; clear HA; simp only [span_Columns.l0] at H; by_cases c8 : x10_1 < a2
    rotate_left
    · rw [if_neg c8] at H
      have c8b0 : decide (x10_1 < a2) = false := decide_eq_false c8
      clear c8; obtain rfl := Option.some.inj H
      go_wp2
      go_ret
      exact ⟨_, by first | rfl | (simp [errW_none, errW_some] <;> rfl) | (simp [*, errW_none, errW_some] <;> rfl), by (with_reducible repeat (first | apply Kd.R_alloc | apply Kd.R_drewN | apply Kd.R_drew)); exact HO_9.out, by repeat (first | (with_reducible first | exact HB.out | apply zJ | apply zE | apply zI | refine zF ?_ GE109.out) | exact HB.out)⟩
    rw [if_pos c8] at H; have c8b0 : decide (x10_1 < a2) = true := decide_eq_true c8
    clear c8; by_cases c9 : 0 ≤ x10_1
    rotate_left
    · rw [if_neg c9] at H
      exact absurd H (by simp)
    rw [if_pos c9] at H; have c9b0 : decide (0 ≤ x10_1) = true := decide_eq_true c9
    clear c9; by_cases c10 : x10_1 < (l0_0.length : Int)
    rotate_left
    · rw [if_neg c10] at H
      exact absurd H (by simp)
    rw [if_pos c10] at H; have c10b0 : decide (x10_1 < (l0_0.length : Int)) = true := decide_eq_true c10
    clear c10; obtain ⟨ji11, hji11⟩ : ∃ j_ : Int, (wrap64 ((x9_1.length : Int) - 1)) = j_ := ⟨_, rfl⟩; replace H : (if 0 ≤ (ji11) then (if (ji11) < (x9_1.length : Int) then ((span_Next.f ((rd_T61 l0_0 x10_1).f0) ((rd_T61 l0_0 x10_1).f1) ((rd_T61 l0_0 x10_1).f2) ((rd_T61 l0_0 x10_1).f3) (rd x9_1 (ji11)) a3).bind fun t115 => (if x9_1.length < 17592186044416 then (span_Columns.l0 k1 a2 a3 (x9_1 ++ [t115]) (wrap64 (x10_1 + 1)) l0_0 l0_1) else (none))) else (none)) else (none)) = some r := by first | (rw [hji11] at H; exact H) | (simp only [hji11] at H ⊢; exact H)
    have hji11w : (IntKind.i64.wrap ((x9_1.length : Int) - 1)) = ji11 := (i64_w _).trans hji11
    by_cases c12 : 0 ≤ (ji11)
    rotate_left
    · rw [if_neg c12] at H
      exact absurd H (by simp)
    rw [if_pos c12] at H; have c12b0 : decide (0 ≤ (ji11)) = true := decide_eq_true c12
    clear c12; by_cases c13 : (ji11) < (x9_1.length : Int)
    rotate_left
    · rw [if_neg c13] at H
      exact absurd H (by simp)
    rw [if_pos c13] at H; have c13b0 : decide ((ji11) < (x9_1.length : Int)) = true := decide_eq_true c13
    clear c13; replace H := Option.bind_eq_some_iff.mp H; obtain ⟨t115, A140, H⟩ := H; replace H : (if x9_1.length < 17592186044416 then (span_Columns.l0 k1 a2 a3 (x9_1 ++ [t115]) (wrap64 (x10_1 + 1)) l0_0 l0_1) else (none)) = some r := H; have A14 := zC.mk A140; clear A140; by_cases c15 : x9_1.length < 17592186044416
    rotate_left
    · rw [if_neg c15] at H
      exact absurd H (by simp)
    rw [if_pos c15] at H; have LMc15 := zC.mk c15; clear c15; obtain ⟨y116, hy116⟩ : ∃ y_ : List Int, y_ = (x9_1 ++ [t115]) := ⟨_, rfl⟩; replace H : (span_Columns.l0 k1 a2 a3 y116 (wrap64 (x10_1 + 1)) l0_0 l0_1) = some r := by first | (rw [hy116]; with_reducible exact H) | (have H2_ := (Option.bind_some _ _).symm.trans H; rw [hy116]; with_reducible exact H2_) | (have H2_ := (Option.bind_some _ _).symm.trans H; with_reducible exact H2_) | with_reducible exact H | (rw [hy116]; exact H) | exact H
    have Ny116 := zC.mk hy116; clear hy116; have H' := zC.mk H
    clear H; try go_wp2
    have n0_ := zC.mk (Kd.R_drew HO_9.out); have n1_ := zC.mk (zD BK109.out); have n2_ := zC.mk (zI HB.out); clear HO_9; clear BK109; clear HB; have HO_9 := n0_; have BK109 := n1_; have HB := n2_; clear n0_ n1_ n2_; have p113 : 0 ≤ (x10_1 : Int) := of_decide_eq_true (by first | (with_reducible assumption) | assumption)
    have q113 : x10_1 < (l0_0.length : Int) := of_decide_eq_true (by first | (with_reducible assumption) | assumption)
    obtain ⟨ad113, e113, hx113_0, hx113_1, hx113_2, hx113_3⟩ := at_T61 HR0_0.out x10_1 p113 q113; have hw113_3 := hx113_3; have hw113_2 := hx113_2; have hw113_1 := hx113_1; have hw113_0 := hx113_0; cases e113
    replace hx113_0 := (HB.out.cell (World.block_lt_of_cell? w _ hx113_0)).trans hx113_0; replace hx113_1 := (HB.out.cell (World.block_lt_of_cell? w _ hx113_1)).trans hx113_1; replace hx113_2 := (HB.out.cell (World.block_lt_of_cell? w _ hx113_2)).trans hx113_2; replace hx113_3 := (HB.out.cell (World.block_lt_of_cell? w _ hx113_3)).trans hx113_3; replace p113 := eq_true p113; replace q113 := eq_true q113; obtain ⟨Ao17, co17, eo17⟩ := Kd.R_slice HO_9.out; (first | subst eo17 | (injection eo17 with f1_ f2_ f3_; have f4_ := f1_.symm; have f5_ := f3_.symm; clear f1_ f2_ f3_; subst f4_; subst f5_))
    have p114 : 0 ≤ ((ji11) : Int) := of_decide_eq_true (by first | (with_reducible assumption) | assumption)
    have q114 : (ji11) < (x9_1.length : Int) := of_decide_eq_true (by first | (with_reducible assumption) | assumption)
    obtain ⟨ad114, e114, hx114_0⟩ := Kd.at_int (Kd.R_reads' HO_9.out).2.2 (ji11) p114 q114; cases e114
    replace p114 := eq_true p114; replace q114 := eq_true q114; refine start_ (n := 17) (S := fun w' => w'.cell? ⟨gb109, 0, none⟩ = some (.slice (some ad113) l0_0.length c0_0) ∧ w'.cell? ⟨gb109, 1, none⟩ = some (.slice A0_1 l0_1.length c0_1) ∧ w'.cell? (ad113.add ((x10_1).toNat * 4)) = some (.int .i64 ((rd_T61 l0_0 x10_1).f0)) ∧ w'.cell? ⟨(ad113.add ((x10_1).toNat * 4)).block, (ad113.add ((x10_1).toNat * 4)).off + 1, none⟩ = some (.int .i64 ((rd_T61 l0_0 x10_1).f1)) ∧ w'.cell? ⟨(ad113.add ((x10_1).toNat * 4)).block, (ad113.add ((x10_1).toNat * 4)).off + 2, none⟩ = some (.int .i64 ((rd_T61 l0_0 x10_1).f2)) ∧ w'.cell? ⟨(ad113.add ((x10_1).toNat * 4)).block, (ad113.add ((x10_1).toNat * 4)).off + 3, none⟩ = some (.int .u8 ((rd_T61 l0_0 x10_1).f3)) ∧ w'.cell? (ad114.add ((ji11)).toNat) = some (.int .i64 (rd x9_1 (ji11)))) (ds := [14, 15]) #[false, false, false, false, false, false, false, false, false, false, false, false, false, false, false, false, false] (by kernel_rfl) rfl rfl ⟨(zH BK109.out 0).trans rfl, (zH BK109.out 1).trans rfl, ((HB.out.cell (World.block_lt_of_cell? w _ hw113_0)).trans hw113_0), ((HB.out.cell (World.block_lt_of_cell? w _ hw113_1)).trans hw113_1), ((HB.out.cell (World.block_lt_of_cell? w _ hw113_2)).trans hw113_2), ((HB.out.cell (World.block_lt_of_cell? w _ hw113_3)).trans hw113_3), hx114_0⟩ (fun hHeld => ?_); refine with_tabW span_Columns.tab5 span_Columns.bits5 (fun HT_ HW_ => ?_)
    generalize wr.drew = w16 at HO_9 BK109 HB hx113_0 hx113_1 hx113_2 hx113_3 hx114_0 hHeld ⊢
    refine pure_ (i := 0) (N := some 18) (v := ?_) (a' := ?_) (tf_ 1 17) rfl rfl (any_of HT_.out (by kernel_rfl)) (fun _ _ _ h => h) (Or.inl ⟨by rfl, ?_⟩) ?_ ?_
    rotate_left
    · intro w'
      go_simp
      with_reducible rfl
    rotate_left
    · simp only [Act.put, sA_, sB_, sC_, i64_w, i32_w]
      rfl
    refine pure_ (i := 1) (N := some 19) (v := ?_) (a' := ?_) (tf_ 2 17) rfl rfl (any_of HT_.out (by kernel_rfl)) (fun _ _ _ h => h) (Or.inl ⟨by rfl, ?_⟩) ?_ ?_
    rotate_left
    · intro w'
      go_simp
      with_reducible rfl
    rotate_left
    · simp only [Act.put, sA_, sB_, sC_, i64_w, i32_w]
      rfl
    refine pure_ (i := 3) (N := some 21) (v := ?_) (a' := ?_) #[true, true, false, true, false, false, false, false, false, false, false, false, false, false, false, false, false] rfl rfl (any_of HT_.out (by kernel_rfl)) (fun _ _ _ h => h) (Or.inl ⟨by rfl, ?_⟩) ?_ ?_
    rotate_left
    · intro w'
      go_simp
      with_reducible rfl
    rotate_left
    · simp only [Act.put, sA_, sB_, sC_, i64_w, i32_w]
      rfl
    refine pure_ (i := 6) (N := some 24) (v := ?_) (a' := ?_) #[true, true, false, true, false, false, true, false, false, false, false, false, false, false, false, false, false] rfl rfl (any_of HT_.out (by kernel_rfl)) (fun _ _ _ h => h) (Or.inl ⟨by rfl, ?_⟩) ?_ ?_
    rotate_left
    · intro w'
      go_simp
      with_reducible rfl
    rotate_left
    · simp only [Act.put, sA_, sB_, sC_, i64_w, i32_w]
      rfl
    refine pure_ (i := 7) (N := some 25) (v := ?_) (a' := ?_) #[true, true, false, true, false, false, true, true, false, false, false, false, false, false, false, false, false] rfl rfl (any_of HT_.out (by kernel_rfl)) (fun _ _ _ h => h) (Or.inl ⟨by rfl, ?_⟩) ?_ ?_
    rotate_left
    · intro w'
      go_simp
      with_reducible rfl
    rotate_left
    · simp only [Act.put, sA_, sB_, sC_, i64_w, i32_w]
      rfl
    refine pure_ (i := 8) (N := some 26) (v := ?_) (a' := ?_) #[true, true, false, true, false, false, true, true, true, false, false, false, false, false, false, false, false] rfl rfl (any_of HT_.out (by kernel_rfl)) (fun _ _ _ h => h) (Or.inl ⟨by rfl, ?_⟩) ?_ ?_
    rotate_left
    · intro w'
      go_simp
      with_reducible rfl
    rotate_left
    · simp only [Act.put, sA_, sB_, sC_, i64_w, i32_w]
      rfl
    refine pure_ (i := 9) (N := some 27) (v := ?_) (a' := ?_) #[true, true, false, true, false, false, true, true, true, true, false, false, false, false, false, false, false] rfl rfl (any_of HT_.out (by kernel_rfl)) (fun _ _ _ h => h) (Or.inl ⟨by rfl, ?_⟩) ?_ ?_
    rotate_left
    · intro w'
      go_simp
      with_reducible rfl
    rotate_left
    · simp only [Act.put, sA_, sB_, sC_, i64_w, i32_w]
      rfl
    refine pure_ (i := 10) (N := some 28) (v := ?_) (a' := ?_) #[true, true, false, true, false, false, true, true, true, true, true, false, false, false, false, false, false] rfl rfl (any_of HT_.out (by kernel_rfl)) (fun _ _ _ h => h) (Or.inl ⟨by rfl, ?_⟩) ?_ ?_
    rotate_left
    · intro w'
      go_simp
      with_reducible rfl
    rotate_left
    · simp only [Act.put, sA_, sB_, sC_, i64_w, i32_w]
      rfl
    refine pure_ (i := 12) (N := some 30) (v := ?_) (a' := ?_) #[true, true, false, true, false, false, true, true, true, true, true, false, true, false, false, false, false] rfl rfl (any_of HT_.out (by kernel_rfl)) (fun _ _ _ h => h) (Or.inl ⟨by rfl, ?_⟩) ?_ ?_
    rotate_left
    · intro w'
      go_simp
      with_reducible rfl
    rotate_left
    · simp only [Act.put, sA_, sB_, sC_, i64_w, i32_w]
      rfl
    refine take_ (i := 2) (N := some 20) (v := ?_) (a' := ?_) #[true, true, true, true, false, false, true, true, true, true, true, false, true, false, false, false, false] rfl rfl (take_ofW HT_.out HW_.out (by kernel_rfl)) (fun _ _ _ h => h) (Or.inl ⟨by rfl, ?_⟩) hHeld ?_ ?_
    rotate_left
    · rintro w' ⟨s0, s1, s2, s3, s4, s5, s6⟩
      go_simp
      with_reducible rfl
    rotate_left
    · simp only [Act.put, sA_, sB_, sC_, i64_w, i32_w]
      rfl
    refine pure_ (i := 4) (N := some 22) (v := ?_) (a' := ?_) #[true, true, true, true, true, false, true, true, true, true, true, false, true, false, false, false, false] rfl rfl (any_of HT_.out (by kernel_rfl)) (fun _ _ _ h => h) (Or.inl ⟨by rfl, ?_⟩) ?_ ?_
    rotate_left
    · intro w'
      go_simp
      with_reducible rfl
    rotate_left
    · simp only [Act.put, sA_, sB_, sC_, i64_w, i32_w]
      rfl
    refine take_ (i := 5) (N := some 23) (v := ?_) (a' := ?_) #[true, true, true, true, true, true, true, true, true, true, true, false, true, false, false, false, false] rfl rfl (take_ofW HT_.out HW_.out (by kernel_rfl)) (fun _ _ _ h => h) (Or.inl ⟨by rfl, ?_⟩) hHeld ?_ ?_
    rotate_left
    · rintro w' ⟨s0, s1, s2, s3, s4, s5, s6⟩
      go_simp
      with_reducible rfl
    rotate_left
    · simp only [Act.put, sA_, sB_, sC_, i64_w, i32_w]
      rfl
    refine take_ (i := 11) (N := some 29) (v := ?_) (a' := ?_) (tf_ 13 17) rfl rfl (take_ofW HT_.out HW_.out (by kernel_rfl)) (fun _ _ _ h => h) (Or.inl ⟨by rfl, ?_⟩) hHeld ?_ ?_
    rotate_left
    · rintro w' ⟨s0, s1, s2, s3, s4, s5, s6⟩
      go_simp
      with_reducible rfl
    rotate_left
    · simp only [Act.put, sA_, sB_, sC_, i64_w, i32_w]
      rfl
    refine one_ (i := 13) (N := some 31) #[true, true, true, true, true, true, true, true, true, true, true, true, true, true, false, false, false] rfl rfl (one_of HT_.out (by kernel_rfl)) (by decide) (fun K hK => ?_)
    refine goes_ Try.func40 (by kernel_rfl) rfl #[.agg #[.int .i64 ((rd_T61 l0_0 x10_1).f0), .int .i64 ((rd_T61 l0_0 x10_1).f1), .int .i64 ((rd_T61 l0_0 x10_1).f2), .int .u8 ((rd_T61 l0_0 x10_1).f3)], .int .i64 (rd x9_1 (ji11)), .int .i64 a3] (by rfl) rfl rfl (by (try simp only [List.map_toArray, List.map_cons, List.map_nil]); first | done | (simp only [hji11]; rfl) | rfl | (simp only [List.length_drop, List.length_take]; rfl)) ?_
    with_reducible refine (span_Next.calls ((rd_T61 l0_0 x10_1).f0) ((rd_T61 l0_0 x10_1).f1) ((rd_T61 l0_0 x10_1).f2) ((rd_T61 l0_0 x10_1).f3) (rd x9_1 (ji11)) a3 t115 _ A14.out).mono ?_
    rintro e w18 ⟨rfl, hb⟩
    have HS6_ := (hb.cell (World.block_lt_of_cell? _ _ (hHeld.2.2.2.2.2.2))).trans (hHeld.2.2.2.2.2.2); refine ⟨_, rfl, ?_⟩
    have n0_ := zC.mk (Kd.R_below (by (with_reducible repeat (first | apply Kd.R_alloc | apply Kd.R_drewN | apply Kd.R_drew)); exact HO_9.out) hb)
    have n1_ := zC.mk (blk_below (g := gb109) (o := .cells #[.slice (some ad113) l0_0.length c0_0, .slice A0_1 l0_1.length c0_1] 31 (0, 0)) (by (with_reducible repeat (first | refine zA ?_ _ | refine zD ?_ | refine zB ?_ _)); exact BK109.out) hb)
    have n2_ := zC.mk (below_step (by repeat (first | (with_reducible first | exact HB.out | apply zJ | apply zE | apply zI | refine zF ?_ GE109.out) | exact HB.out)) hb)
    clear HO_9 BK109 HB; have HO_9 := n0_; have BK109 := n1_; have HB := n2_; clear n0_ n1_ n2_; (try clear hb)
    (try clear hb2)
    (try clear hk)
    (try clear hi)
    refine hK.out _ _ ⟨(zH BK109.out 0).trans rfl, (zH BK109.out 1).trans rfl, ((HB.out.cell (World.block_lt_of_cell? w _ hw113_0)).trans hw113_0), ((HB.out.cell (World.block_lt_of_cell? w _ hw113_1)).trans hw113_1), ((HB.out.cell (World.block_lt_of_cell? w _ hw113_2)).trans hw113_2), ((HB.out.cell (World.block_lt_of_cell? w _ hw113_3)).trans hw113_3), HS6_⟩ (fun hHeld => ?_)
    clear hK K; refine norm_ (a' := ?_) ?_ ?_
    rotate_left
    · show Act.put _ (some 31) _ = _
      simp only [Act.put, sA_, sB_, sC_, i64_w, i32_w]; rfl
    refine last_ (i := 14) (N := some 32) #[true, true, true, true, true, true, true, true, true, true, true, true, true, true, true, false, false] rfl rfl (one_of HT_.out (by kernel_rfl)) (by decide) (fun K hK => ?_)
    refine value_ (w1 := ?_) (v := ?_) (by rfl) rfl ?_ ?_
    rotate_left 2
    · go_simp
      constructor
      · rfl
      rfl
    refine hK.out _ _ ?_
    clear hK K; refine norm_ (a' := ?_) ?_ ?_
    rotate_left
    · show Act.put _ (some 32) _ = _
      simp only [Act.put, sA_, sB_, sC_, i64_w, i32_w]; rfl
    refine last_ (i := 15) (N := some 33) #[true, true, true, true, true, true, true, true, true, true, true, true, true, true, true, true, false] rfl rfl (one_of HT_.out (by kernel_rfl)) (by decide) (fun K hK => ?_)
    refine Kd.R_append_step (Kd.int .i64) (w0 := w) w.heap.size (by rfl) (.tmp 18) (.tmp 32) 37 3 (.int .i64 0) 8 rfl Try.underlying37 info3 rfl (by decide) (by omega) (.slice (some ad114) x9_1.length co17) x9_1 t115 [.int .i64 t115] (fun _ => True) (fun _ => False) rfl rfl ?aP (fun _ hk => hk.elim) ?aF ?aO ?aB ?aS ?aL ?_
    (case aP => exact rfl)
    (case aB => exact (by repeat (first | (with_reducible first | exact HB.out | apply zJ | apply zE | apply zI | refine zF ?_ GE109.out) | exact HB.out)))
    (case aF => exact (fun _ _ => trivial))
    (case aO => exact (by (with_reducible repeat (first | apply Kd.R_alloc | apply Kd.R_drewN | apply Kd.R_drew)); exact HO_9.out))
    (case aS => exact (below_size (by repeat (first | (with_reducible first | exact HB.out | apply zJ | apply zE | apply zI | refine zF ?_ GE109.out) | exact HB.out))))
    (case aL => have := LMc15.out; omega)
    intro v117 w19 ho hb hg hat
    rw [← Ny116.out] at ho; have n0_ := zC.mk (blk_grown (g := gb109) (o := .cells #[.slice (some ad113) l0_0.length c0_0, .slice A0_1 l0_1.length c0_1] 31 (0, 0)) (by (with_reducible repeat (first | refine zA ?_ _ | refine zD ?_ | refine zB ?_ _)); exact BK109.out) hg (Kd.R_ne HO_9.out BK109.out (by decide)))
    have n1_ := zC.mk (hb); have n2_ := zC.mk (ho); clear BK109; clear HB; clear HO_9; have BK109 := n0_; have HB := n1_; have HO118 := n2_; clear n0_ n1_ n2_; clear ho hb hg hat; refine hK.out _ _ ?_
    clear hK K; refine norm_ (a' := ?_) ?_ ?_
    rotate_left
    · show Act.put _ (some 33) _ = _
      simp only [Act.put, sA_, sB_, sC_, i64_w, i32_w]; rfl
    refine pure_ (i := 16) (N := some 9) (v := ?_) (a' := ?_) #[true, true, true, true, true, true, true, true, true, true, true, true, true, true, true, true, true] rfl rfl (any_of HT_.out (by kernel_rfl)) (fun _ _ _ h => h) (Or.inl ⟨by rfl, ?_⟩) ?_ ?_
    rotate_left
    · intro w'
      go_simp
      with_reducible rfl
    rotate_left
    · simp only [Act.put, sA_, sB_, sC_, i64_w, i32_w]
      rfl
    refine done_ (done_of HT_.out (by kernel_rfl)) ?_
    try go_wp2
    go_roundg k1
    case measure => have := HK1.out; omega
    case rel => exact ⟨(y116), (wrap64 (x10_1 + 1)), (by first | rfl | (simp; done) | (simp [*]; done)), H', ⟨by have := HK1.out; omega⟩, ⟨by (with_reducible repeat (first | apply Kd.R_alloc | apply Kd.R_drewN | apply Kd.R_drew)); exact HO118.out⟩, ⟨by (with_reducible repeat (first | refine zA ?_ _ | refine zD ?_ | refine zB ?_ _)); exact BK109.out⟩, ⟨by repeat (first | (with_reducible first | exact HB.out | apply zJ | apply zE | apply zI | refine zF ?_ GE109.out) | exact HB.out)⟩⟩
end Go.Proofs.Ytfeidhmkmbgnoaa.F
end
section
namespace Go.Proofs.Ytfeidhmkmbgnoaa.F
open Go.RowKit Go.Proofs.YtfeidhmkmbgnoaaW.PrintWords Go.Proofs.YtfeidhmkmbgnoaaW.PrintLast Go.Proofs.YtfeidhmkmbgnoaaW.PrintMore
attribute [local go_sem] max2_int min2_int max_two min_two max_three min_three max_four min_four   -- for this text's walks alone
set_option linter.unusedVariables false
set_option linter.unusedSimpArgs false
def span_Cells.f (k : Nat) (l0_0 : List (S61)) (l0_1 : List Int) (a1 : Int) (a2 : Int) (a3 : Int) (a4 : Int) : Option (Int) := (span_Trim.f k l0_0 l0_1 a1 a2).bind fun t120 => ((span_Columns.f k l0_0 l0_1 a1 t120 a4).bind fun t121 => (if 0 ≤ (wrap64 ((t121.length : Int) - 1)) then (if (wrap64 ((t121.length : Int) - 1)) < (t121.length : Int) then (if a3 = 3 then (some (wrap64 ((rd t121 (wrap64 ((t121.length : Int) - 1))) + 1))) else (some (rd t121 (wrap64 ((t121.length : Int) - 1))))) else (none)) else (none)))
theorem span_Cells.mono : ∀ a0 a1 a2 a3 a4 a5 k, LeO (span_Cells.f k a0 a1 a2 a3 a4 a5) (span_Cells.f (k + 1) a0 a1 a2 a3 a4 a5) := by
  intro a0 a1 a2 a3 a4 a5 k
  unfold span_Cells.f
  repeat' first
      | (with_reducible exact span_Columns.mono _ _ _ _ _ _)
      | (with_reducible exact span_Trim.mono _ _ _ _ _)
      | (with_reducible exact LeO.refl _)
      | (with_reducible exact LeO.none _)
      | (with_reducible refine LeO.ite ?_ ?_)
      | (with_reducible refine LeO.bind ?_ (fun _ => ?_))
      | exact span_Columns.mono _ _ _ _ _ _
      | exact span_Trim.mono _ _ _ _ _
      | exact LeO.none _
      | refine LeO.ite ?_ ?_
      | refine LeO.bind ?_ (fun _ => ?_)
def span_Cells.T1 : Bool × List (List Nat × List Nat) := (true, [([], []), ([], []), ([], []), ([], []), ([], []), ([2, 3, 4], [2, 3, 4]), ([], []), ([0, 1, 5, 6, 5], [0, 1, 5, 6]), ([7, 7, 0, 1, 2, 3, 4, 5, 6, 7], [7])])
def span_Cells.B1 : List Nat := [0, 0, 0, 0, 0, 28, 0, 127, 255]
theorem span_Cells.tab1 : rtab .any (opsOf Try.f20 1) = span_Cells.T1 := by kernel_rfl
theorem span_Cells.bits1 : waitsOk span_Cells.T1.2 span_Cells.B1 = true := by kernel_rfl
set_option maxHeartbeats 8000000 in
set_option maxRecDepth 100000 in
theorem span_Cells.calls (k : Nat) (A0_0 : Option Addr) (c0_0 : Nat) (l0_0 : List (S61)) (A0_1 : Option Addr) (c0_1 : Nat) (l0_1 : List Int) (a1 : Int) (a2 : Int) (a3 : Int) (a4 : Int) (r : Int) (w : World) (hr0_0 : Kd.C k61 w A0_0 l0_0.length l0_0) (hc0_0 : l0_0.length ≤ c0_0) (hr0_1 : Kd.C (Kd.int .u8) w A0_1 l0_1.length l0_1) (hc0_1 : l0_1.length ≤ c0_1) (h : span_Cells.f k l0_0 l0_1 a1 a2 a3 a4 = some r) :
    Calls Try.prog 20 #[.agg #[.slice A0_0 l0_0.length c0_0, .slice A0_1 l0_1.length c0_1], .int .i64 a1, .int .i64 a2, .int .u8 a3, .int .i64 a4] w fun e w' => e = .returned (.int .i64 r) ∧ Below w.heap.size w w' := by
  have hu31 := Try.underlying31; have HR0_0 := zC.mk hr0_0; have HC0_0 := zC.mk hc0_0; clear hr0_0 hc0_0; have HR0_1 := zC.mk hr0_1; have HC0_1 := zC.mk hc0_1; clear hr0_1 hc0_1; have HB := zC.mk (Below.refl w.heap.size w); have H : ((span_Trim.f k l0_0 l0_1 a1 a2).bind fun t120 => ((span_Columns.f k l0_0 l0_1 a1 t120 a4).bind fun t121 => (if 0 ≤ (wrap64 ((t121.length : Int) - 1)) then (if (wrap64 ((t121.length : Int) - 1)) < (t121.length : Int) then (if a3 = 3 then (some (wrap64 ((rd t121 (wrap64 ((t121.length : Int) - 1))) + 1))) else (some (rd t121 (wrap64 ((t121.length : Int) - 1))))) else (none)) else (none)))) = some r := h
  clear h; replace H := Option.bind_eq_some_iff.mp H; obtain ⟨t120, A60, H⟩ := H; replace H : ((span_Columns.f k l0_0 l0_1 a1 t120 a4).bind fun t121 => (if 0 ≤ (wrap64 ((t121.length : Int) - 1)) then (if (wrap64 ((t121.length : Int) - 1)) < (t121.length : Int) then (if a3 = 3 then (some (wrap64 ((rd t121 (wrap64 ((t121.length : Int) - 1))) + 1))) else (some (rd t121 (wrap64 ((t121.length : Int) - 1))))) else (none)) else (none))) = some r := H
  have A6 := zC.mk A60; clear A60; replace H := Option.bind_eq_some_iff.mp H; obtain ⟨t121, A70, H⟩ := H; replace H : (if 0 ≤ (wrap64 ((t121.length : Int) - 1)) then (if (wrap64 ((t121.length : Int) - 1)) < (t121.length : Int) then (if a3 = 3 then (some (wrap64 ((rd t121 (wrap64 ((t121.length : Int) - 1))) + 1))) else (some (rd t121 (wrap64 ((t121.length : Int) - 1))))) else (none)) else (none)) = some r := H; have A7 := zC.mk A70; clear A70; obtain ⟨ji8, hji8⟩ : ∃ j_ : Int, (wrap64 ((t121.length : Int) - 1)) = j_ := ⟨_, rfl⟩; replace H : (if 0 ≤ (ji8) then (if (ji8) < (t121.length : Int) then (if a3 = 3 then (some (wrap64 ((rd t121 (ji8)) + 1))) else (some (rd t121 (ji8)))) else (none)) else (none)) = some r := by first | (rw [hji8] at H; exact H) | (simp only [hji8] at H ⊢; exact H)
  (try rw [hji8] at A6)
  (try rw [hji8] at A7)
  have hji8w : (IntKind.i64.wrap ((t121.length : Int) - 1)) = ji8 := (i64_w _).trans hji8
  by_cases c9 : 0 ≤ (ji8)
  rotate_left
  · rw [if_neg c9] at H
    exact absurd H (by simp)
  rw [if_pos c9] at H; have c9b0 : decide (0 ≤ (ji8)) = true := decide_eq_true c9
  clear c9; by_cases c10 : (ji8) < (t121.length : Int)
  rotate_left
  · rw [if_neg c10] at H
    exact absurd H (by simp)
  rw [if_pos c10] at H; have c10b0 : decide ((ji8) < (t121.length : Int)) = true := decide_eq_true c10
  clear c10; by_cases c11 : a3 = 3
  · rw [if_pos c11] at H
    have c11b0 : (a3 == 3) = true := beq_iff_eq.mpr c11
    have c11b1 : (a3 != 3) = false := bne_eq_false_iff_eq.mpr c11
    clear c11; obtain rfl := Option.some.inj H
    go_enter Try.func20, Try.ntmps20
    try go_wp2_with (first | ((with_reducible refine gate_dst (N := 5) rfl ?_); refine box_event ?hg (N := 5) ?hd (cs := #[.slice A0_0 l0_0.length c0_0, .slice A0_1 l0_1.length c0_1]) (t := 31) ?hr ?_; (case hd => rfl); (case hg => rfl); (case hr => first | (go_simp; done) | (go_simp; rfl)); intro gb119 hg w12 hbox hb; have n0_ := zC.mk (below_step (by repeat (first | (with_reducible first | exact HB.out | apply zJ | apply zE | apply zI) | exact HB.out)) hb); have n1_ := zC.mk (hbox); have n2_ := zC.mk ((by rw [hg]; exact (below_size (by repeat (first | (with_reducible first | exact HB.out | apply zJ | apply zE | apply zI) | exact HB.out))) : w.heap.size ≤ gb119)); have n3_ := zC.mk ((by rw [hg]; exact (below_size (by repeat (first | (with_reducible first | exact HB.out | apply zJ | apply zE | apply zI) | exact HB.out))) : w.heap.size ≤ gb119)); clear HB; have HB := n0_; have BK119 := n1_; have GW119 := n2_; have GE119 := n3_; clear n0_ n1_ n2_ n3_; clear hb hbox hg))
    have n0_ := zC.mk (zD BK119.out); have n1_ := zC.mk (zI HB.out); clear BK119; clear HB; have BK119 := n0_; have HB := n1_; clear n0_ n1_; refine start_ (n := 9) (S := fun w' => w'.cell? ⟨gb119, 0, none⟩ = some (.slice A0_0 l0_0.length c0_0) ∧ w'.cell? ⟨gb119, 1, none⟩ = some (.slice A0_1 l0_1.length c0_1)) (ds := []) #[false, false, false, false, false, false, false, false, false] (by kernel_rfl) rfl rfl ⟨(zH BK119.out 0).trans rfl, (zH BK119.out 1).trans rfl⟩ (fun hHeld => ?_); refine with_tabW span_Cells.tab1 span_Cells.bits1 (fun HT_ HW_ => ?_)
    generalize w12.drew = w13 at BK119 HB hHeld ⊢
    refine pure_ (i := 1) (N := some 14) (v := ?_) (a' := ?_) #[false, true, false, false, false, false, false, false, false] rfl rfl (any_of HT_.out (by kernel_rfl)) (fun _ _ _ h => h) (Or.inl ⟨by rfl, ?_⟩) ?_ ?_
    rotate_left
    · intro w'
      go_simp
      with_reducible rfl
    rotate_left
    · simp only [Act.put, sA_, sB_, sC_, i64_w, i32_w]
      rfl
    refine pure_ (i := 3) (N := some 16) (v := ?_) (a' := ?_) #[false, true, false, true, false, false, false, false, false] rfl rfl (any_of HT_.out (by kernel_rfl)) (fun _ _ _ h => h) (Or.inl ⟨by rfl, ?_⟩) ?_ ?_
    rotate_left
    · intro w'
      go_simp
      with_reducible rfl
    rotate_left
    · simp only [Act.put, sA_, sB_, sC_, i64_w, i32_w]
      rfl
    refine pure_ (i := 4) (N := some 17) (v := ?_) (a' := ?_) #[false, true, false, true, true, false, false, false, false] rfl rfl (any_of HT_.out (by kernel_rfl)) (fun _ _ _ h => h) (Or.inl ⟨by rfl, ?_⟩) ?_ ?_
    rotate_left
    · intro w'
      go_simp
      with_reducible rfl
    rotate_left
    · simp only [Act.put, sA_, sB_, sC_, i64_w, i32_w]
      rfl
    refine pure_ (i := 6) (N := some 19) (v := ?_) (a' := ?_) #[false, true, false, true, true, false, true, false, false] rfl rfl (any_of HT_.out (by kernel_rfl)) (fun _ _ _ h => h) (Or.inl ⟨by rfl, ?_⟩) ?_ ?_
    rotate_left
    · intro w'
      go_simp
      with_reducible rfl
    rotate_left
    · simp only [Act.put, sA_, sB_, sC_, i64_w, i32_w]
      rfl
    refine take_ (i := 0) (N := some 13) (v := ?_) (a' := ?_) #[true, true, false, true, true, false, true, false, false] rfl rfl (take_ofW HT_.out HW_.out (by kernel_rfl)) (fun _ _ _ h => h) (Or.inl ⟨by rfl, ?_⟩) hHeld ?_ ?_
    rotate_left
    · rintro w' ⟨s0, s1⟩
      go_simp
      with_reducible rfl
    rotate_left
    · simp only [Act.put, sA_, sB_, sC_, i64_w, i32_w]
      rfl
    refine take_ (i := 2) (N := some 15) (v := ?_) (a' := ?_) #[true, true, true, true, true, false, true, false, false] rfl rfl (take_ofW HT_.out HW_.out (by kernel_rfl)) (fun _ _ _ h => h) (Or.inl ⟨by rfl, ?_⟩) hHeld ?_ ?_
    rotate_left
    · rintro w' ⟨s0, s1⟩
      go_simp
      with_reducible rfl
    rotate_left
    · simp only [Act.put, sA_, sB_, sC_, i64_w, i32_w]
      rfl
    refine one_ (i := 5) (N := some 18) #[true, true, true, true, true, true, true, false, false] rfl rfl (one_of HT_.out (by kernel_rfl)) (by decide) (fun K hK => ?_)
    refine goes_ Try.func19 (by kernel_rfl) rfl #[.agg #[.slice A0_0 l0_0.length c0_0, .slice A0_1 l0_1.length c0_1], .int .i64 a1, .int .i64 a2] (by rfl) rfl rfl (by (try simp only [List.map_toArray, List.map_cons, List.map_nil]); first | done | rfl | (simp only [List.length_drop, List.length_take]; rfl)) ?_
    with_reducible refine (span_Trim.calls k _ _ l0_0 _ _ l0_1 a1 a2 t120 _ ?side1 ?side2 ?side3 ?side4 A6.out).mono ?_
    (case side1 => repeat (first | exact (Kd.C_below HR0_0.out HB.out) | (with_reducible refine Kd.C_alloc ?_ _) | (with_reducible refine Kd.C_drewN ?_ _) | (with_reducible refine Kd.C_drew ?_)))
    (case side2 => exact HC0_0.out)
    (case side3 => repeat (first | exact (Kd.C_below HR0_1.out HB.out) | (with_reducible refine Kd.C_alloc ?_ _) | (with_reducible refine Kd.C_drewN ?_ _) | (with_reducible refine Kd.C_drew ?_)))
    (case side4 => exact HC0_1.out)
    rintro e w14 ⟨rfl, hb⟩
    refine ⟨_, rfl, ?_⟩
    have n0_ := zC.mk (blk_below (g := gb119) (o := .cells #[.slice A0_0 l0_0.length c0_0, .slice A0_1 l0_1.length c0_1] 31 (0, 0)) (by (with_reducible repeat (first | refine zA ?_ _ | refine zD ?_ | refine zB ?_ _)); exact BK119.out) hb)
    have n1_ := zC.mk (below_step (by repeat (first | (with_reducible first | exact HB.out | apply zJ | apply zE | apply zI | refine zF ?_ GE119.out) | exact HB.out)) hb)
    clear BK119 HB; have BK119 := n0_; have HB := n1_; clear n0_ n1_; (try clear hb)
    (try clear hb2)
    (try clear hk)
    (try clear hi)
    refine hK.out _ _ ⟨(zH BK119.out 0).trans rfl, (zH BK119.out 1).trans rfl⟩ (fun hHeld => ?_)
    clear hK K; refine norm_ (a' := ?_) ?_ ?_
    rotate_left
    · show Act.put _ (some 18) _ = _
      simp only [Act.put, sA_, sB_, sC_, i64_w, i32_w]; rfl
    refine one_ (i := 7) (N := some 20) #[true, true, true, true, true, true, true, true, false] rfl rfl (one_of HT_.out (by kernel_rfl)) (by decide) (fun K hK => ?_)
    refine goes_ Try.func33 (by kernel_rfl) rfl #[.agg #[.slice A0_0 l0_0.length c0_0, .slice A0_1 l0_1.length c0_1], .int .i64 a1, .int .i64 t120, .int .i64 a4] (by rfl) rfl rfl (by (try simp only [List.map_toArray, List.map_cons, List.map_nil]); first | done | rfl | (simp only [List.length_drop, List.length_take]; rfl)) ?_
    with_reducible refine (span_Columns.calls k _ _ l0_0 _ _ l0_1 a1 t120 a4 t121 _ ?side1 ?side2 ?side3 ?side4 A7.out).mono ?_
    (case side1 => repeat (first | exact (Kd.C_below HR0_0.out HB.out) | (with_reducible refine Kd.C_alloc ?_ _) | (with_reducible refine Kd.C_drewN ?_ _) | (with_reducible refine Kd.C_drew ?_)))
    (case side2 => exact HC0_0.out)
    (case side3 => repeat (first | exact (Kd.C_below HR0_1.out HB.out) | (with_reducible refine Kd.C_alloc ?_ _) | (with_reducible refine Kd.C_drewN ?_ _) | (with_reducible refine Kd.C_drew ?_)))
    (case side4 => exact HC0_1.out)
    rintro e w15 ⟨v122, rfl, ho0, hb⟩
    refine ⟨_, rfl, ?_⟩
    have n0_ := zC.mk (Kd.R_lower ho0 (below_size (by repeat (first | (with_reducible first | exact HB.out | apply zJ | apply zE | apply zI | refine zF ?_ GE119.out) | exact HB.out))))
    have n1_ := zC.mk (blk_below (g := gb119) (o := .cells #[.slice A0_0 l0_0.length c0_0, .slice A0_1 l0_1.length c0_1] 31 (0, 0)) (by (with_reducible repeat (first | refine zA ?_ _ | refine zD ?_ | refine zB ?_ _)); exact BK119.out) hb)
    have n2_ := zC.mk (below_step (by repeat (first | (with_reducible first | exact HB.out | apply zJ | apply zE | apply zI | refine zF ?_ GE119.out) | exact HB.out)) hb)
    clear BK119 HB; have HO123 := n0_; have BK119 := n1_; have HB := n2_; clear n0_ n1_ n2_; (try clear hb)
    (try clear hb2)
    (try clear hk)
    (try clear hi)
    (try clear ho0)
    refine hK.out _ _ ⟨(zH BK119.out 0).trans rfl, (zH BK119.out 1).trans rfl⟩ (fun hHeld => ?_)
    clear hK K; refine norm_ (a' := ?_) ?_ ?_
    rotate_left
    · show Act.put _ (some 20) _ = _
      simp only [Act.put, sA_, sB_, sC_, i64_w, i32_w]; rfl
    refine pure_ (i := 8) (N := some 11) (v := ?_) (a' := ?_) #[true, true, true, true, true, true, true, true, true] rfl rfl (any_of HT_.out (by kernel_rfl)) (fun _ _ _ h => h) (Or.inl ⟨by rfl, ?_⟩) ?_ ?_
    rotate_left
    · intro w'
      go_simp
      with_reducible rfl
    rotate_left
    · simp only [Act.put, sA_, sB_, sC_, i64_w, i32_w]
      rfl
    refine done_ (done_of HT_.out (by kernel_rfl)) ?_
    obtain ⟨Ao16, co16, eo16⟩ := Kd.R_slice HO123.out; subst eo16; have p124 : 0 ≤ ((ji8) : Int) := of_decide_eq_true (by first | (with_reducible assumption) | assumption)
    have q124 : (ji8) < (t121.length : Int) := of_decide_eq_true (by first | (with_reducible assumption) | assumption)
    obtain ⟨ad124, e124, hx124_0⟩ := Kd.at_int (Kd.R_reads' HO123.out).2.2 (ji8) p124 q124; cases e124
    replace p124 := eq_true p124; replace q124 := eq_true q124; try go_wp2
    go_ret
    exact ⟨by first | rfl | (simp [errW_none, errW_some] <;> rfl) | (simp only [← hji8]; first | rfl | (simp [errW_none, errW_some] <;> rfl)) | (simp [*, errW_none, errW_some] <;> rfl), by repeat (first | (with_reducible first | exact HB.out | apply zJ | apply zE | apply zI | refine zF ?_ GE119.out) | exact HB.out)⟩
  rw [if_neg c11] at H; have c11b0 : (a3 == 3) = false := beq_eq_false_iff_ne.mpr c11
  have c11b1 : (a3 != 3) = true := bne_iff_ne.mpr c11
  obtain rfl := Option.some.inj H
  go_enter Try.func20, Try.ntmps20
  try go_wp2_with (first | ((with_reducible refine gate_dst (N := 5) rfl ?_); refine box_event ?hg (N := 5) ?hd (cs := #[.slice A0_0 l0_0.length c0_0, .slice A0_1 l0_1.length c0_1]) (t := 31) ?hr ?_; (case hd => rfl); (case hg => rfl); (case hr => first | (go_simp; done) | (go_simp; rfl)); intro gb119 hg w17 hbox hb; have n0_ := zC.mk (below_step (by repeat (first | (with_reducible first | exact HB.out | apply zJ | apply zE | apply zI) | exact HB.out)) hb); have n1_ := zC.mk (hbox); have n2_ := zC.mk ((by rw [hg]; exact (below_size (by repeat (first | (with_reducible first | exact HB.out | apply zJ | apply zE | apply zI) | exact HB.out))) : w.heap.size ≤ gb119)); have n3_ := zC.mk ((by rw [hg]; exact (below_size (by repeat (first | (with_reducible first | exact HB.out | apply zJ | apply zE | apply zI) | exact HB.out))) : w.heap.size ≤ gb119)); clear HB; have HB := n0_; have BK119 := n1_; have GW119 := n2_; have GE119 := n3_; clear n0_ n1_ n2_ n3_; clear hb hbox hg))
  have n0_ := zC.mk (zD BK119.out); have n1_ := zC.mk (zI HB.out); clear BK119; clear HB; have BK119 := n0_; have HB := n1_; clear n0_ n1_; refine start_ (n := 9) (S := fun w' => w'.cell? ⟨gb119, 0, none⟩ = some (.slice A0_0 l0_0.length c0_0) ∧ w'.cell? ⟨gb119, 1, none⟩ = some (.slice A0_1 l0_1.length c0_1)) (ds := []) #[false, false, false, false, false, false, false, false, false] (by kernel_rfl) rfl rfl ⟨(zH BK119.out 0).trans rfl, (zH BK119.out 1).trans rfl⟩ (fun hHeld => ?_); refine with_tabW span_Cells.tab1 span_Cells.bits1 (fun HT_ HW_ => ?_)
  generalize w17.drew = w18 at BK119 HB hHeld ⊢
  refine pure_ (i := 1) (N := some 14) (v := ?_) (a' := ?_) #[false, true, false, false, false, false, false, false, false] rfl rfl (any_of HT_.out (by kernel_rfl)) (fun _ _ _ h => h) (Or.inl ⟨by rfl, ?_⟩) ?_ ?_
  rotate_left
  · intro w'
    go_simp
    with_reducible rfl
  rotate_left
  · simp only [Act.put, sA_, sB_, sC_, i64_w, i32_w]
    rfl
  refine pure_ (i := 3) (N := some 16) (v := ?_) (a' := ?_) #[false, true, false, true, false, false, false, false, false] rfl rfl (any_of HT_.out (by kernel_rfl)) (fun _ _ _ h => h) (Or.inl ⟨by rfl, ?_⟩) ?_ ?_
  rotate_left
  · intro w'
    go_simp
    with_reducible rfl
  rotate_left
  · simp only [Act.put, sA_, sB_, sC_, i64_w, i32_w]
    rfl
  refine pure_ (i := 4) (N := some 17) (v := ?_) (a' := ?_) #[false, true, false, true, true, false, false, false, false] rfl rfl (any_of HT_.out (by kernel_rfl)) (fun _ _ _ h => h) (Or.inl ⟨by rfl, ?_⟩) ?_ ?_
  rotate_left
  · intro w'
    go_simp
    with_reducible rfl
  rotate_left
  · simp only [Act.put, sA_, sB_, sC_, i64_w, i32_w]
    rfl
  refine pure_ (i := 6) (N := some 19) (v := ?_) (a' := ?_) #[false, true, false, true, true, false, true, false, false] rfl rfl (any_of HT_.out (by kernel_rfl)) (fun _ _ _ h => h) (Or.inl ⟨by rfl, ?_⟩) ?_ ?_
  rotate_left
  · intro w'
    go_simp
    with_reducible rfl
  rotate_left
  · simp only [Act.put, sA_, sB_, sC_, i64_w, i32_w]
    rfl
  refine take_ (i := 0) (N := some 13) (v := ?_) (a' := ?_) #[true, true, false, true, true, false, true, false, false] rfl rfl (take_ofW HT_.out HW_.out (by kernel_rfl)) (fun _ _ _ h => h) (Or.inl ⟨by rfl, ?_⟩) hHeld ?_ ?_
  rotate_left
  · rintro w' ⟨s0, s1⟩
    go_simp
    with_reducible rfl
  rotate_left
  · simp only [Act.put, sA_, sB_, sC_, i64_w, i32_w]
    rfl
  refine take_ (i := 2) (N := some 15) (v := ?_) (a' := ?_) #[true, true, true, true, true, false, true, false, false] rfl rfl (take_ofW HT_.out HW_.out (by kernel_rfl)) (fun _ _ _ h => h) (Or.inl ⟨by rfl, ?_⟩) hHeld ?_ ?_
  rotate_left
  · rintro w' ⟨s0, s1⟩
    go_simp
    with_reducible rfl
  rotate_left
  · simp only [Act.put, sA_, sB_, sC_, i64_w, i32_w]
    rfl
  refine one_ (i := 5) (N := some 18) #[true, true, true, true, true, true, true, false, false] rfl rfl (one_of HT_.out (by kernel_rfl)) (by decide) (fun K hK => ?_)
  refine goes_ Try.func19 (by kernel_rfl) rfl #[.agg #[.slice A0_0 l0_0.length c0_0, .slice A0_1 l0_1.length c0_1], .int .i64 a1, .int .i64 a2] (by rfl) rfl rfl (by (try simp only [List.map_toArray, List.map_cons, List.map_nil]); first | done | rfl | (simp only [List.length_drop, List.length_take]; rfl)) ?_
  with_reducible refine (span_Trim.calls k _ _ l0_0 _ _ l0_1 a1 a2 t120 _ ?side1 ?side2 ?side3 ?side4 A6.out).mono ?_
  (case side1 => repeat (first | exact (Kd.C_below HR0_0.out HB.out) | (with_reducible refine Kd.C_alloc ?_ _) | (with_reducible refine Kd.C_drewN ?_ _) | (with_reducible refine Kd.C_drew ?_)))
  (case side2 => exact HC0_0.out)
  (case side3 => repeat (first | exact (Kd.C_below HR0_1.out HB.out) | (with_reducible refine Kd.C_alloc ?_ _) | (with_reducible refine Kd.C_drewN ?_ _) | (with_reducible refine Kd.C_drew ?_)))
  (case side4 => exact HC0_1.out)
  rintro e w19 ⟨rfl, hb⟩
  refine ⟨_, rfl, ?_⟩
  have n0_ := zC.mk (blk_below (g := gb119) (o := .cells #[.slice A0_0 l0_0.length c0_0, .slice A0_1 l0_1.length c0_1] 31 (0, 0)) (by (with_reducible repeat (first | refine zA ?_ _ | refine zD ?_ | refine zB ?_ _)); exact BK119.out) hb)
  have n1_ := zC.mk (below_step (by repeat (first | (with_reducible first | exact HB.out | apply zJ | apply zE | apply zI | refine zF ?_ GE119.out) | exact HB.out)) hb)
  clear BK119 HB; have BK119 := n0_; have HB := n1_; clear n0_ n1_; (try clear hb)
  (try clear hb2)
  (try clear hk)
  (try clear hi)
  refine hK.out _ _ ⟨(zH BK119.out 0).trans rfl, (zH BK119.out 1).trans rfl⟩ (fun hHeld => ?_)
  clear hK K; refine norm_ (a' := ?_) ?_ ?_
  rotate_left
  · show Act.put _ (some 18) _ = _
    simp only [Act.put, sA_, sB_, sC_, i64_w, i32_w]; rfl
  refine one_ (i := 7) (N := some 20) #[true, true, true, true, true, true, true, true, false] rfl rfl (one_of HT_.out (by kernel_rfl)) (by decide) (fun K hK => ?_)
  refine goes_ Try.func33 (by kernel_rfl) rfl #[.agg #[.slice A0_0 l0_0.length c0_0, .slice A0_1 l0_1.length c0_1], .int .i64 a1, .int .i64 t120, .int .i64 a4] (by rfl) rfl rfl (by (try simp only [List.map_toArray, List.map_cons, List.map_nil]); first | done | rfl | (simp only [List.length_drop, List.length_take]; rfl)) ?_
  with_reducible refine (span_Columns.calls k _ _ l0_0 _ _ l0_1 a1 t120 a4 t121 _ ?side1 ?side2 ?side3 ?side4 A7.out).mono ?_
  (case side1 => repeat (first | exact (Kd.C_below HR0_0.out HB.out) | (with_reducible refine Kd.C_alloc ?_ _) | (with_reducible refine Kd.C_drewN ?_ _) | (with_reducible refine Kd.C_drew ?_)))
  (case side2 => exact HC0_0.out)
  (case side3 => repeat (first | exact (Kd.C_below HR0_1.out HB.out) | (with_reducible refine Kd.C_alloc ?_ _) | (with_reducible refine Kd.C_drewN ?_ _) | (with_reducible refine Kd.C_drew ?_)))
  (case side4 => exact HC0_1.out)
  rintro e w20 ⟨v122, rfl, ho0, hb⟩
  refine ⟨_, rfl, ?_⟩
  have n0_ := zC.mk (Kd.R_lower ho0 (below_size (by repeat (first | (with_reducible first | exact HB.out | apply zJ | apply zE | apply zI | refine zF ?_ GE119.out) | exact HB.out))))
  have n1_ := zC.mk (blk_below (g := gb119) (o := .cells #[.slice A0_0 l0_0.length c0_0, .slice A0_1 l0_1.length c0_1] 31 (0, 0)) (by (with_reducible repeat (first | refine zA ?_ _ | refine zD ?_ | refine zB ?_ _)); exact BK119.out) hb)
  have n2_ := zC.mk (below_step (by repeat (first | (with_reducible first | exact HB.out | apply zJ | apply zE | apply zI | refine zF ?_ GE119.out) | exact HB.out)) hb)
  clear BK119 HB; have HO123 := n0_; have BK119 := n1_; have HB := n2_; clear n0_ n1_ n2_; (try clear hb)
  (try clear hb2)
  (try clear hk)
  (try clear hi)
  (try clear ho0)
  refine hK.out _ _ ⟨(zH BK119.out 0).trans rfl, (zH BK119.out 1).trans rfl⟩ (fun hHeld => ?_)
  clear hK K; refine norm_ (a' := ?_) ?_ ?_
  rotate_left
  · show Act.put _ (some 20) _ = _
    simp only [Act.put, sA_, sB_, sC_, i64_w, i32_w]; rfl
  refine pure_ (i := 8) (N := some 11) (v := ?_) (a' := ?_) #[true, true, true, true, true, true, true, true, true] rfl rfl (any_of HT_.out (by kernel_rfl)) (fun _ _ _ h => h) (Or.inl ⟨by rfl, ?_⟩) ?_ ?_
  rotate_left
  · intro w'
    go_simp
    with_reducible rfl
  rotate_left
  · simp only [Act.put, sA_, sB_, sC_, i64_w, i32_w]
    rfl
  refine done_ (done_of HT_.out (by kernel_rfl)) ?_
  obtain ⟨Ao21, co21, eo21⟩ := Kd.R_slice HO123.out; subst eo21; have p124 : 0 ≤ ((ji8) : Int) := of_decide_eq_true (by first | (with_reducible assumption) | assumption)
  have q124 : (ji8) < (t121.length : Int) := of_decide_eq_true (by first | (with_reducible assumption) | assumption)
  obtain ⟨ad124, e124, hx124_0⟩ := Kd.at_int (Kd.R_reads' HO123.out).2.2 (ji8) p124 q124; cases e124
  replace p124 := eq_true p124; replace q124 := eq_true q124; try go_wp2
  go_ret
  exact ⟨by first | rfl | (simp [errW_none, errW_some] <;> rfl) | (simp only [← hji8]; first | rfl | (simp [errW_none, errW_some] <;> rfl)) | (simp [*, errW_none, errW_some] <;> rfl), by repeat (first | (with_reducible first | exact HB.out | apply zJ | apply zE | apply zI | refine zF ?_ GE119.out) | exact HB.out)⟩
end Go.Proofs.Ytfeidhmkmbgnoaa.F
end
section
namespace Go.Proofs.Ytfeidhmkmbgnoaa.F
open Go.RowKit Go.Proofs.YtfeidhmkmbgnoaaW.PrintWords Go.Proofs.YtfeidhmkmbgnoaaW.PrintLast Go.Proofs.YtfeidhmkmbgnoaaW.PrintMore
attribute [local go_sem] max2_int min2_int max_two min_two max_three min_three max_four min_four   -- for this text's walks alone
set_option linter.unusedVariables false
set_option linter.unusedSimpArgs false
def span_Make.f (k : Nat) (l0_0 : List (S61)) (l0_1 : List Int) (a1 : Int) (a2 : Int) (a3 : Int) (a4 : Int) : Option (Int × Int × Int × Int) := (span_Cells.f k l0_0 l0_1 a1 a2 a3 a4).bind fun t127 => (some (a1, a2, t127, a3))
theorem span_Make.mono : ∀ a0 a1 a2 a3 a4 a5 k, LeO (span_Make.f k a0 a1 a2 a3 a4 a5) (span_Make.f (k + 1) a0 a1 a2 a3 a4 a5) := by
  intro a0 a1 a2 a3 a4 a5 k
  unfold span_Make.f
  repeat' first
      | (with_reducible exact span_Cells.mono _ _ _ _ _ _ _)
      | (with_reducible exact LeO.refl _)
      | (with_reducible exact LeO.none _)
      | (with_reducible refine LeO.ite ?_ ?_)
      | (with_reducible refine LeO.bind ?_ (fun _ => ?_))
      | exact span_Cells.mono _ _ _ _ _ _ _
      | exact LeO.none _
      | refine LeO.ite ?_ ?_
      | refine LeO.bind ?_ (fun _ => ?_)
set_option maxHeartbeats 8000000 in
set_option maxRecDepth 100000 in
theorem span_Make.calls (k : Nat) (A0_0 : Option Addr) (c0_0 : Nat) (l0_0 : List (S61)) (A0_1 : Option Addr) (c0_1 : Nat) (l0_1 : List Int) (a1 : Int) (a2 : Int) (a3 : Int) (a4 : Int) (r1 : Int) (r2 : Int) (r3 : Int) (r4 : Int) (w : World) (hr0_0 : Kd.C k61 w A0_0 l0_0.length l0_0) (hc0_0 : l0_0.length ≤ c0_0) (hr0_1 : Kd.C (Kd.int .u8) w A0_1 l0_1.length l0_1) (hc0_1 : l0_1.length ≤ c0_1) (h : span_Make.f k l0_0 l0_1 a1 a2 a3 a4 = some (r1, r2, r3, r4)) :
    Calls Try.prog 42 #[.agg #[.slice A0_0 l0_0.length c0_0, .slice A0_1 l0_1.length c0_1], .int .i64 a1, .int .i64 a2, .int .u8 a3, .int .i64 a4] w fun e w' => e = .returned (.agg #[.int .i64 r1, .int .i64 r2, .int .i64 r3, .int .u8 r4]) ∧ Below w.heap.size w w' := by
  have hu31 := Try.underlying31; have hu45 := Try.underlying45; have HR0_0 := zC.mk hr0_0; have HC0_0 := zC.mk hc0_0; clear hr0_0 hc0_0; have HR0_1 := zC.mk hr0_1; have HC0_1 := zC.mk hc0_1; clear hr0_1 hc0_1; have HB := zC.mk (Below.refl w.heap.size w); have H : ((span_Cells.f k l0_0 l0_1 a1 a2 a3 a4).bind fun t127 => (some (a1, a2, t127, a3))) = some (r1, r2, r3, r4) := h
  clear h; replace H := Option.bind_eq_some_iff.mp H; obtain ⟨t127, A60, H⟩ := H; replace H : (some (a1, a2, t127, a3)) = some (r1, r2, r3, r4) := H; have A6 := zC.mk A60; clear A60; simp only [Option.some.injEq, Prod.mk.injEq] at H; obtain ⟨rfl, rfl, rfl, rfl⟩ := H; go_enter Try.func42, Try.ntmps42
  go_wp2_with (first | ((with_reducible refine gate_dst (N := 5) rfl ?_); refine box_event ?hg (N := 5) ?hd (cs := #[.slice A0_0 l0_0.length c0_0, .slice A0_1 l0_1.length c0_1]) (t := 31) ?hr ?_; (case hd => rfl); (case hg => rfl); (case hr => first | (go_simp; done) | (go_simp; rfl)); intro gb125 hg w7 hbox hb; have n0_ := zC.mk (below_step (by repeat (first | (with_reducible first | exact HB.out | apply zJ | apply zE | apply zI) | exact HB.out)) hb); have n1_ := zC.mk (hbox); have n2_ := zC.mk ((by rw [hg]; exact (below_size (by repeat (first | (with_reducible first | exact HB.out | apply zJ | apply zE | apply zI) | exact HB.out))) : w.heap.size ≤ gb125)); have n3_ := zC.mk ((by rw [hg]; exact (below_size (by repeat (first | (with_reducible first | exact HB.out | apply zJ | apply zE | apply zI) | exact HB.out))) : w.heap.size ≤ gb125)); clear HB; have HB := n0_; have BK125 := n1_; have GW125 := n2_; have GE125 := n3_; clear n0_ n1_ n2_ n3_; clear hb hbox hg) | ((with_reducible refine gate_dst (N := 10) rfl ?_); refine box_event ?hg (N := 10) ?hd (cs := #[.int .i64 0, .int .i64 0, .int .i64 0, .int .u8 0]) (t := 45) ?hr ?_; (case hd => rfl); (case hg => rfl); (case hr => first | (go_simp; done) | (go_simp; rfl)); intro gb126 hg w8 hbox hb; have n0_ := zC.mk (blk_below (g := gb125) (o := .cells #[.slice A0_0 l0_0.length c0_0, .slice A0_1 l0_1.length c0_1] 31 (0, 0)) (by (with_reducible repeat (first | refine zA ?_ _ | refine zD ?_ | refine zB ?_ _)); exact BK125.out) hb); have n1_ := zC.mk (below_step (by repeat (first | (with_reducible first | exact HB.out | apply zJ | apply zE | apply zI | refine zF ?_ GE125.out) | exact HB.out)) hb); have n2_ := zC.mk (hbox); have n3_ := zC.mk ((by rw [hg]; exact (below_size (by repeat (first | (with_reducible first | exact HB.out | apply zJ | apply zE | apply zI | refine zF ?_ GE125.out) | exact HB.out))) : w.heap.size ≤ gb126)); have n4_ := zC.mk ((by rw [hg]; exact (below_size (by repeat (first | (with_reducible first | exact HB.out | apply zJ | apply zE | apply zI | refine zF ?_ GE125.out) | exact HB.out))) : w.heap.size ≤ gb126)); have n5_ := zC.mk ((by rw [hg]; exact Nat.ne_of_lt (blk_lt (g := gb125) (o := .cells #[.slice A0_0 l0_0.length c0_0, .slice A0_1 l0_1.length c0_1] 31 (0, 0)) (by (with_reducible repeat (first | refine zA ?_ _ | refine zD ?_ | refine zB ?_ _)); exact BK125.out)) : gb125 ≠ gb126)); have n6_ := zC.mk ((by rw [hg]; exact Nat.ne_of_gt (blk_lt (g := gb125) (o := .cells #[.slice A0_0 l0_0.length c0_0, .slice A0_1 l0_1.length c0_1] 31 (0, 0)) (by (with_reducible repeat (first | refine zA ?_ _ | refine zD ?_ | refine zB ?_ _)); exact BK125.out)) : gb126 ≠ gb125)); clear BK125; clear HB; have BK125 := n0_; have HB := n1_; have BK126 := n2_; have GW126 := n3_; have GE126 := n4_; have NB125_126 := n5_; have NB126_125 := n6_; clear n0_ n1_ n2_ n3_ n4_ n5_ n6_; clear hb hbox hg; have hnb9 := NB125_126.out; have hnc9 := NB126_125.out; have hcz10_0 : w8.cell? ⟨gb125, 0, none⟩ = some (.slice A0_0 l0_0.length c0_0) := (zH BK125.out 0).trans rfl; have hcz10_1 : w8.cell? ⟨gb125, 1, none⟩ = some (.slice A0_1 l0_1.length c0_1) := (zH BK125.out 1).trans rfl; have hfz10_0 := zG BK125.out 0; have hfz10_1 := zG BK125.out 1) | ((with_reducible refine gate_callee (f := 20) rfl ?_); refine goesL_ (some 18) rfl rfl Try.func20 (by kernel_rfl) rfl #[.agg #[.slice A0_0 l0_0.length c0_0, .slice A0_1 l0_1.length c0_1], .int .i64 a1, .int .i64 a2, .int .u8 a3, .int .i64 a4] rfl (by (try simp only [List.map_toArray, List.map_cons, List.map_nil]); first | done | rfl | (simp only [List.length_drop, List.length_take]; rfl)) ?_; (with_reducible refine (span_Cells.calls k _ _ l0_0 _ _ l0_1 a1 a2 a3 a4 t127 _ ?side1 ?side2 ?side3 ?side4 A6.out).mono ?_); (case side1 => repeat (first | exact (Kd.C_below HR0_0.out HB.out) | (with_reducible refine Kd.C_alloc ?_ _) | (with_reducible refine Kd.C_drewN ?_ _) | (with_reducible refine Kd.C_drew ?_))); (case side2 => exact HC0_0.out); (case side3 => repeat (first | exact (Kd.C_below HR0_1.out HB.out) | (with_reducible refine Kd.C_alloc ?_ _) | (with_reducible refine Kd.C_drewN ?_ _) | (with_reducible refine Kd.C_drew ?_))); (case side4 => exact HC0_1.out); rintro e w11 ⟨rfl, hb⟩; refine ⟨_, rfl, ?_⟩; have n0_ := zC.mk (blk_below (g := gb125) (o := .cells #[.slice A0_0 l0_0.length c0_0, .slice A0_1 l0_1.length c0_1] 31 (0, 0)) (by (with_reducible repeat (first | refine zA ?_ _ | refine zD ?_ | refine zB ?_ _)); exact BK125.out) hb); have n1_ := zC.mk (blk_below (g := gb126) (o := .cells #[.int .i64 0, .int .i64 0, .int .i64 0, .int .u8 0] 45 (0, 0)) (by (with_reducible repeat (first | refine zA ?_ _ | refine zD ?_ | refine zB ?_ _)); exact BK126.out) hb); have n2_ := zC.mk (below_step (by repeat (first | (with_reducible first | exact HB.out | apply zJ | apply zE | apply zI | refine zF ?_ GE125.out | refine zF ?_ GE126.out) | exact HB.out)) hb); clear BK125; clear BK126; clear HB; have BK125 := n0_; have BK126 := n1_; have HB := n2_; clear n0_ n1_ n2_; (try clear hb); (try clear hb2); (try clear hk); (try clear hi); have hcz12_0 : w11.cell? ⟨gb126, 0, none⟩ = some (.int .i64 0) := (zH BK126.out 0).trans rfl; have hcz12_1 : w11.cell? ⟨gb126, 1, none⟩ = some (.int .i64 0) := (zH BK126.out 1).trans rfl; have hcz12_2 : w11.cell? ⟨gb126, 2, none⟩ = some (.int .i64 0) := (zH BK126.out 2).trans rfl; have hcz12_3 : w11.cell? ⟨gb126, 3, none⟩ = some (.int .u8 0) := (zH BK126.out 3).trans rfl; have hfz12_0 := zG BK126.out 0; have hfz12_1 := zG BK126.out 1; have hfz12_2 := zG BK126.out 2; have hfz12_3 := zG BK126.out 3) | ((with_reducible refine gate_store (t := 45) (p := 10) rfl ?_); refine store_event (t := 45) (p := 10) (v := ?vo_w13) (w1 := ((((w11.setCell ⟨gb126, 0, none⟩ (.int .i64 a1)).setCell ⟨gb126, 1, none⟩ (.int .i64 a2)).setCell ⟨gb126, 2, none⟩ (.int .i64 t127)).setCell ⟨gb126, 3, none⟩ (.int .u8 a3))) ?hg ?ho ?hn ?hr ?_; (case ho => rfl); (case hg => rfl); (case hn => rfl); (case hr => first | (go_simp; done) | (go_simp; rfl)); intro w13 hw; have n0_ : zC (w13.heap[gb125]? = some (.cells #[.slice A0_0 l0_0.length c0_0, .slice A0_1 l0_1.length c0_1] 31 (0, 0))) := ⟨(by rw [hw]; exact (by (with_reducible repeat (first | refine zA ?_ _ | refine zD ?_ | refine zB ?_ _)); refine blk_far ?_ NB125_126.out _; (with_reducible repeat (first | refine zA ?_ _ | refine zD ?_ | refine zB ?_ _)); refine blk_far ?_ NB125_126.out _; (with_reducible repeat (first | refine zA ?_ _ | refine zD ?_ | refine zB ?_ _)); refine blk_far ?_ NB125_126.out _; (with_reducible repeat (first | refine zA ?_ _ | refine zD ?_ | refine zB ?_ _)); refine blk_far ?_ NB125_126.out _; (with_reducible repeat (first | refine zA ?_ _ | refine zD ?_ | refine zB ?_ _)); exact BK125.out))⟩; have n1_ : zC (w13.heap[gb126]? = some (.cells #[.int .i64 a1, .int .i64 a2, .int .i64 t127, .int .u8 a3] 45 (0, 0))) := ⟨(by rw [hw]; exact (by (with_reducible repeat (first | refine zA ?_ _ | refine zD ?_ | refine zB ?_ _)); refine blk_put (cs := #[.int .i64 a1, .int .i64 a2, .int .i64 t127, .int .u8 0]) ?_ 3 _ rfl; (with_reducible repeat (first | refine zA ?_ _ | refine zD ?_ | refine zB ?_ _)); refine blk_put (cs := #[.int .i64 a1, .int .i64 a2, .int .i64 0, .int .u8 0]) ?_ 2 _ rfl; (with_reducible repeat (first | refine zA ?_ _ | refine zD ?_ | refine zB ?_ _)); refine blk_put (cs := #[.int .i64 a1, .int .i64 0, .int .i64 0, .int .u8 0]) ?_ 1 _ rfl; (with_reducible repeat (first | refine zA ?_ _ | refine zD ?_ | refine zB ?_ _)); refine blk_put (cs := #[.int .i64 0, .int .i64 0, .int .i64 0, .int .u8 0]) ?_ 0 _ rfl; (with_reducible repeat (first | refine zA ?_ _ | refine zD ?_ | refine zB ?_ _)); exact BK126.out))⟩; have n2_ : zC (Below w.heap.size w w13) := ⟨(by rw [hw]; exact (by repeat (first | (with_reducible first | exact HB.out | apply zJ | apply zE | apply zI | refine zF ?_ GE125.out | refine zF ?_ GE126.out) | exact HB.out)))⟩; clear hw; clear BK125; clear BK126; clear HB; have BK125 := n0_; have BK126 := n1_; have HB := n2_; clear n0_ n1_ n2_))
  refine bodyPost_ret (results_cell_row rfl _ _ gb126 45 #[.int .i64 a1, .int .i64 a2, .int .i64 t127, .int .u8 a3] (0, 0) _ rfl (by (with_reducible repeat (first | refine zA ?_ _ | refine zD ?_ | refine zB ?_ _)); exact BK126.out) Try.underlying45 rfl (by kernel_rfl)) rfl ?_
  exact ⟨by first | rfl | (simp [errW_none, errW_some] <;> rfl) | (simp [*, errW_none, errW_some] <;> rfl), by repeat (first | (with_reducible first | exact HB.out | apply zJ | apply zE | apply zI | refine zF ?_ GE125.out | refine zF ?_ GE126.out) | exact HB.out)⟩
end Go.Proofs.Ytfeidhmkmbgnoaa.F
end
section
namespace Go.Proofs.Ytfeidhmkmbgnoaa.F
open Go.RowKit Go.Proofs.YtfeidhmkmbgnoaaW.PrintWords Go.Proofs.YtfeidhmkmbgnoaaW.PrintLast Go.Proofs.YtfeidhmkmbgnoaaW.PrintMore
attribute [local go_sem] max2_int min2_int max_two min_two max_three min_three max_four min_four   -- for this text's walks alone
set_option linter.unusedVariables false
set_option linter.unusedSimpArgs false
mutual
def first_one.j2 : Nat → Int → Int → Int → Int → List (S61) → List Int → Int → Int → Int → Int → Int → Nat → Option (Int × Int × Int × Int)
  | 0, _, _, _, _, _, _, _, _, _, _, _, _ => none
  | k + 1, x1, x2, x9, x10, x129000, x129001, x130000, x130001, x130002, x130003, x130004, x130005 => if x9 ≥ 0 then (if 0 ≤ x9 then (if x9 < (x129001.length : Int) then ((span_Make.f k x129000 x129001 x1 x9 (rd x129001 x9) x130001).bind fun bt138 => (some (bt138.1, bt138.2.1, bt138.2.2.1, bt138.2.2.2))) else (none)) else (none)) else (if x10 = x2 then (if 0 ≤ x2 then (if x2 < (x129001.length : Int) then (if x10 < x2 then (if 0 ≤ x10 then (if x10 < (x129001.length : Int) then (if (rd x129001 x10) = 1 then ((span_Make.f k x129000 x129001 x1 x10 1 x130001).bind fun bt144 => (some (bt144.1, bt144.2.1, bt144.2.2.1, bt144.2.2.2))) else ((span_Make.f k x129000 x129001 x1 x10 (rd x129001 x2) x130001).bind fun bt148 => (some (bt148.1, bt148.2.1, bt148.2.2.1, bt148.2.2.2)))) else (none)) else (none)) else ((span_Make.f k x129000 x129001 x1 x10 (rd x129001 x2) x130001).bind fun bt152 => (some (bt152.1, bt152.2.1, bt152.2.2.1, bt152.2.2.2)))) else (none)) else (none)) else (if x10 < x2 then (if 0 ≤ x10 then (if x10 < (x129001.length : Int) then (if (rd x129001 x10) = 1 then ((span_Make.f k x129000 x129001 x1 x10 1 x130001).bind fun bt157 => (some (bt157.1, bt157.2.1, bt157.2.2.1, bt157.2.2.2))) else ((span_Make.f k x129000 x129001 x1 x10 4 x130001).bind fun bt161 => (some (bt161.1, bt161.2.1, bt161.2.2.1, bt161.2.2.2)))) else (none)) else (none)) else ((span_Make.f k x129000 x129001 x1 x10 4 x130001).bind fun bt165 => (some (bt165.1, bt165.2.1, bt165.2.2.1, bt165.2.2.2)))))
def first_one.l0 : Nat → Int → Int → Int → Int → Int → Int → Int → List (S61) → List Int → Int → Int → Int → Int → Int → Nat → Option (Int × Int × Int × Int)
  | 0, _, _, _, _, _, _, _, _, _, _, _, _, _, _, _ => none
  | k + 1, x1, x2, x9, x10, x11, x12, x13, x129000, x129001, x130000, x130001, x130002, x130003, x130004, x130005 => if x13 ≤ x2 then (if 0 ≤ (wrap64 (x13 - 1)) then (if (wrap64 (x13 - 1)) < (x129000.length : Int) then ((span_Next.f ((rd_T61 x129000 (wrap64 (x13 - 1))).f0) ((rd_T61 x129000 (wrap64 (x13 - 1))).f1) ((rd_T61 x129000 (wrap64 (x13 - 1))).f2) ((rd_T61 x129000 (wrap64 (x13 - 1))).f3) x11 x130001).bind fun t133 => ((span_Trim.f k x129000 x129001 (wrap64 (x13 - 1)) x13).bind fun t134 => (if t134 = x13 then (first_one.j1 k x1 x2 x9 x10 t133 t133 x13 x129000 x129001 x130000 x130001 x130002 x130003 x130004 x130005) else (first_one.j1 k x1 x2 x9 x10 t133 x12 x13 x129000 x129001 x130000 x130001 x130002 x130003 x130004 x130005)))) else (none)) else (none)) else (first_one.j2 k x1 x2 x9 x10 x129000 x129001 x130000 x130001 x130002 x130003 x130004 x130005)
def first_one.j1 : Nat → Int → Int → Int → Int → Int → Int → Int → List (S61) → List Int → Int → Int → Int → Int → Int → Nat → Option (Int × Int × Int × Int)
  | 0, _, _, _, _, _, _, _, _, _, _, _, _, _, _, _ => none
  | k + 1, x1, x2, x9, x10, x11, x12, x13, x129000, x129001, x130000, x130001, x130002, x130003, x130004, x130005 => if x12 > x130000 then (first_one.j2 k x1 x2 x9 x10 x129000 x129001 x130000 x130001 x130002 x130003 x130004 x130005) else ((span_Ends.f x129000 x129001 x13).bind fun bt135 => (if bt135.2 = true then (if bt135.1 = 3 then (if x12 < x130000 then (first_one.l0 k x1 x2 x13 x13 x11 x12 (wrap64 (x13 + 1)) x129000 x129001 x130000 x130001 x130002 x130003 x130004 x130005) else (first_one.l0 k x1 x2 x9 x13 x11 x12 (wrap64 (x13 + 1)) x129000 x129001 x130000 x130001 x130002 x130003 x130004 x130005)) else (first_one.l0 k x1 x2 x13 x13 x11 x12 (wrap64 (x13 + 1)) x129000 x129001 x130000 x130001 x130002 x130003 x130004 x130005)) else (first_one.l0 k x1 x2 x9 x13 x11 x12 (wrap64 (x13 + 1)) x129000 x129001 x130000 x130001 x130002 x130003 x130004 x130005)))
end
def first_one.f (k : Nat) (l0_0 : List (S61)) (l0_1 : List Int) (a1 : Int) (a2 : Int) (a3_0 : Int) (a3_1 : Int) (a3_2 : Int) (a3_3 : Int) (a3_4 : Int) (a3_5 : Nat) : Option (Int × Int × Int × Int) := first_one.l0 k a1 a2 (-1) (wrap64 (a1 + 1)) 0 0 (wrap64 (a1 + 1)) l0_0 l0_1 a3_0 a3_1 a3_2 a3_3 a3_4 a3_5
theorem first_one.mono_l : ∀ k, (∀ y0 y1 y2 y3 y4 y5 y6 y7 y8 y9 y10 y11, LeO (first_one.j2 k y0 y1 y2 y3 y4 y5 y6 y7 y8 y9 y10 y11) (first_one.j2 (k + 1) y0 y1 y2 y3 y4 y5 y6 y7 y8 y9 y10 y11)) ∧ (∀ y0 y1 y2 y3 y4 y5 y6 y7 y8 y9 y10 y11 y12 y13 y14, LeO (first_one.l0 k y0 y1 y2 y3 y4 y5 y6 y7 y8 y9 y10 y11 y12 y13 y14) (first_one.l0 (k + 1) y0 y1 y2 y3 y4 y5 y6 y7 y8 y9 y10 y11 y12 y13 y14)) ∧ (∀ y0 y1 y2 y3 y4 y5 y6 y7 y8 y9 y10 y11 y12 y13 y14, LeO (first_one.j1 k y0 y1 y2 y3 y4 y5 y6 y7 y8 y9 y10 y11 y12 y13 y14) (first_one.j1 (k + 1) y0 y1 y2 y3 y4 y5 y6 y7 y8 y9 y10 y11 y12 y13 y14))
  | 0 => ⟨fun _ _ _ _ _ _ _ _ _ _ _ _ r h => by simp [first_one.j2] at h, fun _ _ _ _ _ _ _ _ _ _ _ _ _ _ _ r h => by simp [first_one.l0] at h, fun _ _ _ _ _ _ _ _ _ _ _ _ _ _ _ r h => by simp [first_one.j1] at h⟩
  | k + 1 => by
    obtain ⟨ih0, ih1, ih2⟩ := first_one.mono_l k; refine ⟨?_, ?_, ?_⟩
    · intro y0 y1 y2 y3 y4 y5 y6 y7 y8 y9 y10 y11
      unfold first_one.j2
      repeat' first
      | (with_reducible exact ih0 _ _ _ _ _ _ _ _ _ _ _ _)
      | (with_reducible exact ih1 _ _ _ _ _ _ _ _ _ _ _ _ _ _ _)
      | (with_reducible exact ih2 _ _ _ _ _ _ _ _ _ _ _ _ _ _ _)
      | (with_reducible exact span_Make.mono _ _ _ _ _ _ _)
      | (with_reducible exact span_Trim.mono _ _ _ _ _)
      | (with_reducible exact LeO.refl _)
      | (with_reducible exact LeO.none _)
      | (with_reducible refine LeO.ite ?_ ?_)
      | (with_reducible refine LeO.bind ?_ (fun _ => ?_))
      | exact ih0 _ _ _ _ _ _ _ _ _ _ _ _
      | exact ih1 _ _ _ _ _ _ _ _ _ _ _ _ _ _ _
      | exact ih2 _ _ _ _ _ _ _ _ _ _ _ _ _ _ _
      | exact span_Make.mono _ _ _ _ _ _ _
      | exact span_Trim.mono _ _ _ _ _
      | exact LeO.none _
      | refine LeO.ite ?_ ?_
      | refine LeO.bind ?_ (fun _ => ?_)
    · intro y0 y1 y2 y3 y4 y5 y6 y7 y8 y9 y10 y11 y12 y13 y14
      unfold first_one.l0
      repeat' first
      | (with_reducible exact ih0 _ _ _ _ _ _ _ _ _ _ _ _)
      | (with_reducible exact ih1 _ _ _ _ _ _ _ _ _ _ _ _ _ _ _)
      | (with_reducible exact ih2 _ _ _ _ _ _ _ _ _ _ _ _ _ _ _)
      | (with_reducible exact span_Make.mono _ _ _ _ _ _ _)
      | (with_reducible exact span_Trim.mono _ _ _ _ _)
      | (with_reducible exact LeO.refl _)
      | (with_reducible exact LeO.none _)
      | (with_reducible refine LeO.ite ?_ ?_)
      | (with_reducible refine LeO.bind ?_ (fun _ => ?_))
      | exact ih0 _ _ _ _ _ _ _ _ _ _ _ _
      | exact ih1 _ _ _ _ _ _ _ _ _ _ _ _ _ _ _
      | exact ih2 _ _ _ _ _ _ _ _ _ _ _ _ _ _ _
      | exact span_Make.mono _ _ _ _ _ _ _
      | exact span_Trim.mono _ _ _ _ _
      | exact LeO.none _
      | refine LeO.ite ?_ ?_
      | refine LeO.bind ?_ (fun _ => ?_)
    · intro y0 y1 y2 y3 y4 y5 y6 y7 y8 y9 y10 y11 y12 y13 y14
      unfold first_one.j1
      repeat' first
      | (with_reducible exact ih0 _ _ _ _ _ _ _ _ _ _ _ _)
      | (with_reducible exact ih1 _ _ _ _ _ _ _ _ _ _ _ _ _ _ _)
      | (with_reducible exact ih2 _ _ _ _ _ _ _ _ _ _ _ _ _ _ _)
      | (with_reducible exact span_Make.mono _ _ _ _ _ _ _)
      | (with_reducible exact span_Trim.mono _ _ _ _ _)
      | (with_reducible exact LeO.refl _)
      | (with_reducible exact LeO.none _)
      | (with_reducible refine LeO.ite ?_ ?_)
      | (with_reducible refine LeO.bind ?_ (fun _ => ?_))
      | exact ih0 _ _ _ _ _ _ _ _ _ _ _ _
      | exact ih1 _ _ _ _ _ _ _ _ _ _ _ _ _ _ _
      | exact ih2 _ _ _ _ _ _ _ _ _ _ _ _ _ _ _
      | exact span_Make.mono _ _ _ _ _ _ _
      | exact span_Trim.mono _ _ _ _ _
      | exact LeO.none _
      | refine LeO.ite ?_ ?_
      | refine LeO.bind ?_ (fun _ => ?_)
theorem first_one.mono : ∀ a0 a1 a2 a3 a4 a5 a6 a7 a8 a9 k, LeO (first_one.f k a0 a1 a2 a3 a4 a5 a6 a7 a8 a9) (first_one.f (k + 1) a0 a1 a2 a3 a4 a5 a6 a7 a8 a9) := by
  intro a0 a1 a2 a3 a4 a5 a6 a7 a8 a9 k
  obtain ⟨ih0, ih1, ih2⟩ := first_one.mono_l k; unfold first_one.f
  repeat' first
      | (with_reducible exact ih0 _ _ _ _ _ _ _ _ _ _ _ _)
      | (with_reducible exact ih1 _ _ _ _ _ _ _ _ _ _ _ _ _ _ _)
      | (with_reducible exact ih2 _ _ _ _ _ _ _ _ _ _ _ _ _ _ _)
      | (with_reducible exact span_Make.mono _ _ _ _ _ _ _)
      | (with_reducible exact span_Trim.mono _ _ _ _ _)
      | (with_reducible exact LeO.refl _)
      | (with_reducible exact LeO.none _)
      | (with_reducible refine LeO.ite ?_ ?_)
      | (with_reducible refine LeO.bind ?_ (fun _ => ?_))
      | exact ih0 _ _ _ _ _ _ _ _ _ _ _ _
      | exact ih1 _ _ _ _ _ _ _ _ _ _ _ _ _ _ _
      | exact ih2 _ _ _ _ _ _ _ _ _ _ _ _ _ _ _
      | exact span_Make.mono _ _ _ _ _ _ _
      | exact span_Trim.mono _ _ _ _ _
      | exact LeO.none _
      | refine LeO.ite ?_ ?_
      | refine LeO.bind ?_ (fun _ => ?_)
def first_one.T16 : Bool × List (List Nat × List Nat) := (true, [([], []), ([], []), ([], []), ([], []), ([3], [3]), ([], []), ([4, 5], [4, 5]), ([6], [6]), ([], []), ([8], [8]), ([0, 1, 2, 7, 9], [0, 1, 2, 7, 9]), ([10, 10, 0, 1, 2, 3, 4, 5, 6, 7, 8, 9, 10], [10])])
def first_one.B16 : List Nat := [0, 0, 0, 0, 8, 0, 56, 120, 0, 256, 1023, 2047]
theorem first_one.tab16 : rtab .any (opsOf Try.f29 16) = first_one.T16 := by kernel_rfl
theorem first_one.bits16 : waitsOk first_one.T16.2 first_one.B16 = true := by kernel_rfl
set_option maxHeartbeats 8000000 in
set_option maxRecDepth 100000 in
theorem first_one.calls (k : Nat) (A0_0 : Option Addr) (c0_0 : Nat) (l0_0 : List (S61)) (A0_1 : Option Addr) (c0_1 : Nat) (l0_1 : List Int) (a1 : Int) (a2 : Int) (a3_0 : Int) (a3_1 : Int) (a3_2 : Int) (a3_3 : Int) (a3_4 : Int) (a3_5 : Nat) (r1 : Int) (r2 : Int) (r3 : Int) (r4 : Int) (w : World) (hr0_0 : Kd.C k61 w A0_0 l0_0.length l0_0) (hc0_0 : l0_0.length ≤ c0_0) (hr0_1 : Kd.C (Kd.int .u8) w A0_1 l0_1.length l0_1) (hc0_1 : l0_1.length ≤ c0_1) (h : first_one.f k l0_0 l0_1 a1 a2 a3_0 a3_1 a3_2 a3_3 a3_4 a3_5 = some (r1, r2, r3, r4)) :
    Calls Try.prog 29 #[.agg #[.slice A0_0 l0_0.length c0_0, .slice A0_1 l0_1.length c0_1], .int .i64 a1, .int .i64 a2, .agg #[.int .i64 a3_0, .int .i64 a3_1, .int .u8 a3_2, .int .i64 a3_3, .int .i64 a3_4, .float .f64 a3_5]] w fun e w' => e = .returned (.agg #[.int .i64 r1, .int .i64 r2, .int .i64 r3, .int .u8 r4]) ∧ Below w.heap.size w w' := by
  have hu31 := Try.underlying31; have hu35 := Try.underlying35; have hu45 := Try.underlying45; have hu61 := Try.underlying61; have HR0_0 := zC.mk hr0_0; have HC0_0 := zC.mk hc0_0; clear hr0_0 hc0_0; have HR0_1 := zC.mk hr0_1; have HC0_1 := zC.mk hc0_1; clear hr0_1 hc0_1; have HB := zC.mk (Below.refl w.heap.size w); have H : (first_one.l0 k a1 a2 (-1) (wrap64 (a1 + 1)) 0 0 (wrap64 (a1 + 1)) l0_0 l0_1 a3_0 a3_1 a3_2 a3_3 a3_4 a3_5) = some (r1, r2, r3, r4) := h
  clear h; have HC5 := zC.mk H; clear H; go_enter Try.func29, Try.ntmps29
  go_upto_block 0 with (first | ((with_reducible refine gate_dst (N := 4) rfl ?_); refine box_event ?hg (N := 4) ?hd (cs := #[.slice A0_0 l0_0.length c0_0, .slice A0_1 l0_1.length c0_1]) (t := 31) ?hr ?_; (case hd => rfl); (case hg => rfl); (case hr => first | (go_simp; done) | (go_simp; rfl)); intro gb128 hg w6 hbox hb; have n0_ := zC.mk (below_step (by repeat (first | (with_reducible first | exact HB.out | apply zJ | apply zE | apply zI) | exact HB.out)) hb); have n1_ := zC.mk (hbox); have n2_ := zC.mk ((by rw [hg]; exact (below_size (by repeat (first | (with_reducible first | exact HB.out | apply zJ | apply zE | apply zI) | exact HB.out))) : w.heap.size ≤ gb128)); have n3_ := zC.mk ((by rw [hg]; exact (below_size (by repeat (first | (with_reducible first | exact HB.out | apply zJ | apply zE | apply zI) | exact HB.out))) : w.heap.size ≤ gb128)); clear HB; have HB := n0_; have BK128 := n1_; have GW128 := n2_; have GE128 := n3_; clear n0_ n1_ n2_ n3_; clear hb hbox hg) | ((with_reducible refine gate_dst (N := 7) rfl ?_); refine box_event ?hg (N := 7) ?hd (cs := #[.int .i64 a3_0, .int .i64 a3_1, .int .u8 a3_2, .int .i64 a3_3, .int .i64 a3_4, .float .f64 a3_5]) (t := 35) ?hr ?_; (case hd => rfl); (case hg => rfl); (case hr => first | (go_simp; done) | (go_simp; rfl)); intro gb129 hg w7 hbox hb; have n0_ := zC.mk (blk_below (g := gb128) (o := .cells #[.slice A0_0 l0_0.length c0_0, .slice A0_1 l0_1.length c0_1] 31 (0, 0)) (by (with_reducible repeat (first | refine zA ?_ _ | refine zD ?_ | refine zB ?_ _)); exact BK128.out) hb); have n1_ := zC.mk (below_step (by repeat (first | (with_reducible first | exact HB.out | apply zJ | apply zE | apply zI | refine zF ?_ GE128.out) | exact HB.out)) hb); have n2_ := zC.mk (hbox); have n3_ := zC.mk ((by rw [hg]; exact (below_size (by repeat (first | (with_reducible first | exact HB.out | apply zJ | apply zE | apply zI | refine zF ?_ GE128.out) | exact HB.out))) : w.heap.size ≤ gb129)); have n4_ := zC.mk ((by rw [hg]; exact (below_size (by repeat (first | (with_reducible first | exact HB.out | apply zJ | apply zE | apply zI | refine zF ?_ GE128.out) | exact HB.out))) : w.heap.size ≤ gb129)); have n5_ := zC.mk ((by rw [hg]; exact Nat.ne_of_lt (blk_lt (g := gb128) (o := .cells #[.slice A0_0 l0_0.length c0_0, .slice A0_1 l0_1.length c0_1] 31 (0, 0)) (by (with_reducible repeat (first | refine zA ?_ _ | refine zD ?_ | refine zB ?_ _)); exact BK128.out)) : gb128 ≠ gb129)); have n6_ := zC.mk ((by rw [hg]; exact Nat.ne_of_gt (blk_lt (g := gb128) (o := .cells #[.slice A0_0 l0_0.length c0_0, .slice A0_1 l0_1.length c0_1] 31 (0, 0)) (by (with_reducible repeat (first | refine zA ?_ _ | refine zD ?_ | refine zB ?_ _)); exact BK128.out)) : gb129 ≠ gb128)); clear BK128; clear HB; have BK128 := n0_; have HB := n1_; have BK129 := n2_; have GW129 := n3_; have GE129 := n4_; have NB128_129 := n5_; have NB129_128 := n6_; clear n0_ n1_ n2_ n3_ n4_ n5_ n6_; clear hb hbox hg) | ((with_reducible refine gate_dst (N := 8) rfl ?_); refine box_event ?hg (N := 8) ?hd (cs := #[.int .i64 0, .int .i64 0, .int .i64 0, .int .u8 0]) (t := 45) ?hr ?_; (case hd => rfl); (case hg => rfl); (case hr => first | (go_simp; done) | (go_simp; rfl)); intro gb130 hg w8 hbox hb; have n0_ := zC.mk (blk_below (g := gb128) (o := .cells #[.slice A0_0 l0_0.length c0_0, .slice A0_1 l0_1.length c0_1] 31 (0, 0)) (by (with_reducible repeat (first | refine zA ?_ _ | refine zD ?_ | refine zB ?_ _)); exact BK128.out) hb); have n1_ := zC.mk (blk_below (g := gb129) (o := .cells #[.int .i64 a3_0, .int .i64 a3_1, .int .u8 a3_2, .int .i64 a3_3, .int .i64 a3_4, .float .f64 a3_5] 35 (0, 0)) (by (with_reducible repeat (first | refine zA ?_ _ | refine zD ?_ | refine zB ?_ _)); exact BK129.out) hb); have n2_ := zC.mk (below_step (by repeat (first | (with_reducible first | exact HB.out | apply zJ | apply zE | apply zI | refine zF ?_ GE128.out | refine zF ?_ GE129.out) | exact HB.out)) hb); have n3_ := zC.mk (hbox); have n4_ := zC.mk ((by rw [hg]; exact (below_size (by repeat (first | (with_reducible first | exact HB.out | apply zJ | apply zE | apply zI | refine zF ?_ GE128.out | refine zF ?_ GE129.out) | exact HB.out))) : w.heap.size ≤ gb130)); have n5_ := zC.mk ((by rw [hg]; exact (below_size (by repeat (first | (with_reducible first | exact HB.out | apply zJ | apply zE | apply zI | refine zF ?_ GE128.out | refine zF ?_ GE129.out) | exact HB.out))) : w.heap.size ≤ gb130)); have n6_ := zC.mk ((by rw [hg]; exact Nat.ne_of_lt (blk_lt (g := gb128) (o := .cells #[.slice A0_0 l0_0.length c0_0, .slice A0_1 l0_1.length c0_1] 31 (0, 0)) (by (with_reducible repeat (first | refine zA ?_ _ | refine zD ?_ | refine zB ?_ _)); exact BK128.out)) : gb128 ≠ gb130)); have n7_ := zC.mk ((by rw [hg]; exact Nat.ne_of_gt (blk_lt (g := gb128) (o := .cells #[.slice A0_0 l0_0.length c0_0, .slice A0_1 l0_1.length c0_1] 31 (0, 0)) (by (with_reducible repeat (first | refine zA ?_ _ | refine zD ?_ | refine zB ?_ _)); exact BK128.out)) : gb130 ≠ gb128)); have n8_ := zC.mk ((by rw [hg]; exact Nat.ne_of_lt (blk_lt (g := gb129) (o := .cells #[.int .i64 a3_0, .int .i64 a3_1, .int .u8 a3_2, .int .i64 a3_3, .int .i64 a3_4, .float .f64 a3_5] 35 (0, 0)) (by (with_reducible repeat (first | refine zA ?_ _ | refine zD ?_ | refine zB ?_ _)); exact BK129.out)) : gb129 ≠ gb130)); have n9_ := zC.mk ((by rw [hg]; exact Nat.ne_of_gt (blk_lt (g := gb129) (o := .cells #[.int .i64 a3_0, .int .i64 a3_1, .int .u8 a3_2, .int .i64 a3_3, .int .i64 a3_4, .float .f64 a3_5] 35 (0, 0)) (by (with_reducible repeat (first | refine zA ?_ _ | refine zD ?_ | refine zB ?_ _)); exact BK129.out)) : gb130 ≠ gb129)); clear BK128; clear BK129; clear HB; have BK128 := n0_; have BK129 := n1_; have HB := n2_; have BK130 := n3_; have GW130 := n4_; have GE130 := n5_; have NB128_130 := n6_; have NB130_128 := n7_; have NB129_130 := n8_; have NB130_129 := n9_; clear n0_ n1_ n2_ n3_ n4_ n5_ n6_ n7_ n8_ n9_; clear hb hbox hg))
  (try simp only [Act.put, sA_, sB_, sC_])
  go_cut [9, 10] (fun v9 v10 wc => ∃ (kq : Nat) (x9_4 : Int) (x10_4 : Int), v9 = .int .i64 x9_4 ∧ v10 = .int .i64 x10_4 ∧ zC (first_one.j2 kq a1 a2 x9_4 x10_4 l0_0 l0_1 a3_0 a3_1 a3_2 a3_3 a3_4 a3_5 = some (r1, r2, r3, r4)) ∧ zC (kq ≤ k) ∧ zC (wc.heap[gb128]? = some (.cells #[(.slice A0_0 l0_0.length c0_0), (.slice A0_1 l0_1.length c0_1)] 31 (0, 0))) ∧ zC (wc.heap[gb129]? = some (.cells #[.int .i64 a3_0, .int .i64 a3_1, .int .u8 a3_2, .int .i64 a3_3, .int .i64 a3_4, .float .f64 a3_5] 35 (0, 0))) ∧ zC (wc.heap[gb130]? = some (.cells #[.int .i64 0, .int .i64 0, .int .i64 0, .int .u8 0] 45 (0, 0))) ∧ zC (Below w.heap.size w wc))
  case first =>
    have H := HC5.out; clear HC5; have H' := zC.mk H
    clear H; go_wp2
    go_loopg [9, 10, 11, 12, 13] k (fun kq v9 v10 v11 v12 v13 w' => ∃ (x9_1 : Int) (x10_1 : Int) (x11_1 : Int) (x12_1 : Int) (x13_1 : Int), v9 = .int .i64 x9_1 ∧ v10 = .int .i64 x10_1 ∧ v11 = .int .i64 x11_1 ∧ v12 = .int .i64 x12_1 ∧ v13 = .int .i64 x13_1 ∧ zC (first_one.l0 kq a1 a2 x9_1 x10_1 x11_1 x12_1 x13_1 l0_0 l0_1 a3_0 a3_1 a3_2 a3_3 a3_4 a3_5 = some (r1, r2, r3, r4)) ∧ zC (kq ≤ k) ∧ zC (w'.heap[gb128]? = some (.cells #[(.slice A0_0 l0_0.length c0_0), (.slice A0_1 l0_1.length c0_1)] 31 (0, 0))) ∧ zC (w'.heap[gb129]? = some (.cells #[.int .i64 a3_0, .int .i64 a3_1, .int .u8 a3_2, .int .i64 a3_3, .int .i64 a3_4, .float .f64 a3_5] 35 (0, 0))) ∧ zC (w'.heap[gb130]? = some (.cells #[.int .i64 0, .int .i64 0, .int .i64 0, .int .u8 0] 45 (0, 0))) ∧ zC (Below w.heap.size w w'))
    case atStart => exact ⟨((-1)), (wrap64 (a1 + 1)), (0), (0), (wrap64 (a1 + 1)), (by first | rfl | (simp; done) | (simp [*]; done)), (by first | rfl | (simp; done) | (simp [*]; done)), (by first | rfl | (simp; done) | (simp [*]; done)), (by first | rfl | (simp; done) | (simp [*]; done)), (by first | rfl | (simp; done) | (simp [*]; done)), H', ⟨Nat.le_refl _⟩, ⟨by (with_reducible repeat (first | refine zA ?_ _ | refine zD ?_ | refine zB ?_ _)); exact BK128.out⟩, ⟨by (with_reducible repeat (first | refine zA ?_ _ | refine zD ?_ | refine zB ?_ _)); exact BK129.out⟩, ⟨by (with_reducible repeat (first | refine zA ?_ _ | refine zD ?_ | refine zB ?_ _)); exact BK130.out⟩, ⟨by repeat (first | (with_reducible first | exact HB.out | apply zJ | apply zE | apply zI | refine zF ?_ GE128.out | refine zF ?_ GE129.out | refine zF ?_ GE130.out) | exact HB.out)⟩⟩
    clear H'; try clear c2
    try clear p2
    try clear p6
    obtain ⟨x9_1, x10_1, x11_1, x12_1, x13_1, rfl, rfl, rfl, rfl, rfl, HA, HK1, BK128, BK129, BK130, HB⟩ := hrel; cases gk with
    | zero => exact absurd HA.out (by simp [first_one.l0])
    | succ k1 =>
      have H := HA.out; clear HA; simp only [first_one.l0] at H; by_cases c9 : x13_1 ≤ a2
      rotate_left
      · rw [if_neg c9] at H
        have c9b0 : decide (x13_1 ≤ a2) = false := decide_eq_false c9
        clear c9; (first | rw [c9b0] | (simp only [i64_w, i32_w]; rw [c9b0]) | skip)
        have H' := zC.mk H
        clear H; go_wp2
        go_meet
        case rel => exact ⟨_, (x9_1), (x10_1), (by first | rfl | (simp; done) | (simp [*]; done)), (by first | rfl | (simp; done) | (simp [*]; done)), H', ⟨by have := HK1.out; first | omega | exact Nat.le_refl _⟩, ⟨by (with_reducible repeat (first | refine zA ?_ _ | refine zD ?_ | refine zB ?_ _)); exact BK128.out⟩, ⟨by (with_reducible repeat (first | refine zA ?_ _ | refine zD ?_ | refine zB ?_ _)); exact BK129.out⟩, ⟨by (with_reducible repeat (first | refine zA ?_ _ | refine zD ?_ | refine zB ?_ _)); exact BK130.out⟩, ⟨by repeat (first | (with_reducible first | exact HB.out | apply zJ | apply zE | apply zI | refine zF ?_ GE128.out | refine zF ?_ GE129.out | refine zF ?_ GE130.out) | exact HB.out)⟩⟩
      rw [if_pos c9] at H; have c9b0 : decide (x13_1 ≤ a2) = true := decide_eq_true c9
      clear c9; (first | rw [c9b0] | (simp only [i64_w, i32_w]; rw [c9b0]) | skip)
      obtain ⟨ji10, hji10⟩ : ∃ j_ : Int, (wrap64 (x13_1 - 1)) = j_ := ⟨_, rfl⟩; replace H : (if 0 ≤ (ji10) then (if (ji10) < (l0_0.length : Int) then ((span_Next.f ((rd_T61 l0_0 (ji10)).f0) ((rd_T61 l0_0 (ji10)).f1) ((rd_T61 l0_0 (ji10)).f2) ((rd_T61 l0_0 (ji10)).f3) x11_1 a3_1).bind fun t133 => ((span_Trim.f k1 l0_0 l0_1 (ji10) x13_1).bind fun t134 => (if t134 = x13_1 then (first_one.j1 k1 a1 a2 x9_1 x10_1 t133 t133 x13_1 l0_0 l0_1 a3_0 a3_1 a3_2 a3_3 a3_4 a3_5) else (first_one.j1 k1 a1 a2 x9_1 x10_1 t133 x12_1 x13_1 l0_0 l0_1 a3_0 a3_1 a3_2 a3_3 a3_4 a3_5)))) else (none)) else (none)) = some (r1, r2, r3, r4) := by first | (rw [hji10] at H; exact H) | (simp only [hji10] at H ⊢; exact H)
      have hji10w : (IntKind.i64.wrap (x13_1 - 1)) = ji10 := (i64_w _).trans hji10
      by_cases c11 : 0 ≤ (ji10)
      rotate_left
      · rw [if_neg c11] at H
        exact absurd H (by simp)
      rw [if_pos c11] at H; have c11b0 : decide (0 ≤ (ji10)) = true := decide_eq_true c11
      clear c11; by_cases c12 : (ji10) < (l0_0.length : Int)
      rotate_left
      · rw [if_neg c12] at H
        exact absurd H (by simp)
      rw [if_pos c12] at H; have c12b0 : decide ((ji10) < (l0_0.length : Int)) = true := decide_eq_true c12
      clear c12; replace H := Option.bind_eq_some_iff.mp H; obtain ⟨t133, A130, H⟩ := H; replace H : ((span_Trim.f k1 l0_0 l0_1 (ji10) x13_1).bind fun t134 => (if t134 = x13_1 then (first_one.j1 k1 a1 a2 x9_1 x10_1 t133 t133 x13_1 l0_0 l0_1 a3_0 a3_1 a3_2 a3_3 a3_4 a3_5) else (first_one.j1 k1 a1 a2 x9_1 x10_1 t133 x12_1 x13_1 l0_0 l0_1 a3_0 a3_1 a3_2 a3_3 a3_4 a3_5))) = some (r1, r2, r3, r4) := H
      have A13 := zC.mk A130; clear A130; replace H := Option.bind_eq_some_iff.mp H; obtain ⟨t134, A140, H⟩ := H; replace H : (if t134 = x13_1 then (first_one.j1 k1 a1 a2 x9_1 x10_1 t133 t133 x13_1 l0_0 l0_1 a3_0 a3_1 a3_2 a3_3 a3_4 a3_5) else (first_one.j1 k1 a1 a2 x9_1 x10_1 t133 x12_1 x13_1 l0_0 l0_1 a3_0 a3_1 a3_2 a3_3 a3_4 a3_5)) = some (r1, r2, r3, r4) := H; have A14 := zC.mk A140; clear A140; have HC15 := zC.mk H; clear H; have hnb16 := NB128_129.out; have hnc16 := NB129_128.out; have hnb17 := NB128_130.out; have hnc17 := NB130_128.out; have hcz18_0 : wr.cell? ⟨gb128, 0, none⟩ = some (.slice A0_0 l0_0.length c0_0) := (zH BK128.out 0).trans rfl
      have hcz18_1 : wr.cell? ⟨gb128, 1, none⟩ = some (.slice A0_1 l0_1.length c0_1) := (zH BK128.out 1).trans rfl
      have hfz18_0 := zG BK128.out 0; have hfz18_1 := zG BK128.out 1; have p131 : 0 ≤ ((ji10) : Int) := of_decide_eq_true (by first | (with_reducible assumption) | assumption)
      have q131 : (ji10) < (l0_0.length : Int) := of_decide_eq_true (by first | (with_reducible assumption) | assumption)
      obtain ⟨ad131, e131, hx131_0, hx131_1, hx131_2, hx131_3⟩ := at_T61 HR0_0.out (ji10) p131 q131; cases e131
      replace hx131_0 := (HB.out.cell (World.block_lt_of_cell? w _ hx131_0)).trans hx131_0; replace hx131_1 := (HB.out.cell (World.block_lt_of_cell? w _ hx131_1)).trans hx131_1; replace hx131_2 := (HB.out.cell (World.block_lt_of_cell? w _ hx131_2)).trans hx131_2; replace hx131_3 := (HB.out.cell (World.block_lt_of_cell? w _ hx131_3)).trans hx131_3; replace p131 := eq_true p131; replace q131 := eq_true q131; go_upto_if 44 with (first | ((with_reducible refine gate_dst (N := 14) rfl ?_); refine box_event ?hg (N := 14) ?hd (cs := #[.int .i64 0, .int .i64 0, .int .i64 0, .int .u8 0]) (t := 61) ?hr ?_; (case hd => rfl); (case hg => rfl); (case hr => first | (go_simp; done) | (go_simp; rfl)); intro gb132 hg w19 hbox hb; have n0_ := zC.mk (blk_below (g := gb128) (o := .cells #[.slice (some ad131) l0_0.length c0_0, .slice A0_1 l0_1.length c0_1] 31 (0, 0)) (by (with_reducible repeat (first | refine zA ?_ _ | refine zD ?_ | refine zB ?_ _)); exact BK128.out) hb); have n1_ := zC.mk (blk_below (g := gb129) (o := .cells #[.int .i64 a3_0, .int .i64 a3_1, .int .u8 a3_2, .int .i64 a3_3, .int .i64 a3_4, .float .f64 a3_5] 35 (0, 0)) (by (with_reducible repeat (first | refine zA ?_ _ | refine zD ?_ | refine zB ?_ _)); exact BK129.out) hb); have n2_ := zC.mk (blk_below (g := gb130) (o := .cells #[.int .i64 0, .int .i64 0, .int .i64 0, .int .u8 0] 45 (0, 0)) (by (with_reducible repeat (first | refine zA ?_ _ | refine zD ?_ | refine zB ?_ _)); exact BK130.out) hb); have n3_ := zC.mk (below_step (by repeat (first | (with_reducible first | exact HB.out | apply zJ | apply zE | apply zI | refine zF ?_ GE128.out | refine zF ?_ GE129.out | refine zF ?_ GE130.out) | exact HB.out)) hb); have n4_ := zC.mk (hbox); have n5_ := zC.mk ((by rw [hg]; exact (below_size (by repeat (first | (with_reducible first | exact HB.out | apply zJ | apply zE | apply zI | refine zF ?_ GE128.out | refine zF ?_ GE129.out | refine zF ?_ GE130.out) | exact HB.out))) : w.heap.size ≤ gb132)); have n6_ := zC.mk ((by rw [hg]; exact (below_size (by repeat (first | (with_reducible first | exact HB.out | apply zJ | apply zE | apply zI | refine zF ?_ GE128.out | refine zF ?_ GE129.out | refine zF ?_ GE130.out) | exact HB.out))) : w.heap.size ≤ gb132)); have n7_ := zC.mk ((by rw [hg]; exact Nat.ne_of_lt (blk_lt (g := gb128) (o := .cells #[.slice (some ad131) l0_0.length c0_0, .slice A0_1 l0_1.length c0_1] 31 (0, 0)) (by (with_reducible repeat (first | refine zA ?_ _ | refine zD ?_ | refine zB ?_ _)); exact BK128.out)) : gb128 ≠ gb132)); have n8_ := zC.mk ((by rw [hg]; exact Nat.ne_of_gt (blk_lt (g := gb128) (o := .cells #[.slice (some ad131) l0_0.length c0_0, .slice A0_1 l0_1.length c0_1] 31 (0, 0)) (by (with_reducible repeat (first | refine zA ?_ _ | refine zD ?_ | refine zB ?_ _)); exact BK128.out)) : gb132 ≠ gb128)); have n9_ := zC.mk ((by rw [hg]; exact Nat.ne_of_lt (blk_lt (g := gb129) (o := .cells #[.int .i64 a3_0, .int .i64 a3_1, .int .u8 a3_2, .int .i64 a3_3, .int .i64 a3_4, .float .f64 a3_5] 35 (0, 0)) (by (with_reducible repeat (first | refine zA ?_ _ | refine zD ?_ | refine zB ?_ _)); exact BK129.out)) : gb129 ≠ gb132)); have n10_ := zC.mk ((by rw [hg]; exact Nat.ne_of_gt (blk_lt (g := gb129) (o := .cells #[.int .i64 a3_0, .int .i64 a3_1, .int .u8 a3_2, .int .i64 a3_3, .int .i64 a3_4, .float .f64 a3_5] 35 (0, 0)) (by (with_reducible repeat (first | refine zA ?_ _ | refine zD ?_ | refine zB ?_ _)); exact BK129.out)) : gb132 ≠ gb129)); have n11_ := zC.mk ((by rw [hg]; exact Nat.ne_of_lt (blk_lt (g := gb130) (o := .cells #[.int .i64 0, .int .i64 0, .int .i64 0, .int .u8 0] 45 (0, 0)) (by (with_reducible repeat (first | refine zA ?_ _ | refine zD ?_ | refine zB ?_ _)); exact BK130.out)) : gb130 ≠ gb132)); have n12_ := zC.mk ((by rw [hg]; exact Nat.ne_of_gt (blk_lt (g := gb130) (o := .cells #[.int .i64 0, .int .i64 0, .int .i64 0, .int .u8 0] 45 (0, 0)) (by (with_reducible repeat (first | refine zA ?_ _ | refine zD ?_ | refine zB ?_ _)); exact BK130.out)) : gb132 ≠ gb130)); clear BK128; clear BK129; clear BK130; clear HB; have BK128 := n0_; have BK129 := n1_; have BK130 := n2_; have HB := n3_; have BK132 := n4_; have GW132 := n5_; have GE132 := n6_; have NB128_132 := n7_; have NB132_128 := n8_; have NB129_132 := n9_; have NB132_129 := n10_; have NB130_132 := n11_; have NB132_130 := n12_; clear n0_ n1_ n2_ n3_ n4_ n5_ n6_ n7_ n8_ n9_ n10_ n11_ n12_; clear hb hbox hg; have hnb20 := NB132_128.out; have hnc20 := NB128_132.out; have hnb21 := NB132_129.out; have hnc21 := NB129_132.out; have hnb22 := NB132_130.out; have hnc22 := NB130_132.out; have hcz23_0 : w19.cell? ⟨gb132, 0, none⟩ = some (.int .i64 0) := (zH BK132.out 0).trans rfl; have hcz23_1 : w19.cell? ⟨gb132, 1, none⟩ = some (.int .i64 0) := (zH BK132.out 1).trans rfl; have hcz23_2 : w19.cell? ⟨gb132, 2, none⟩ = some (.int .i64 0) := (zH BK132.out 2).trans rfl; have hcz23_3 : w19.cell? ⟨gb132, 3, none⟩ = some (.int .u8 0) := (zH BK132.out 3).trans rfl; have hfz23_0 := zG BK132.out 0; have hfz23_1 := zG BK132.out 1; have hfz23_2 := zG BK132.out 2; have hfz23_3 := zG BK132.out 3) | ((with_reducible refine gate_store (t := 61) (p := 14) rfl ?_); refine store_event (t := 61) (p := 14) (v := ?vo_w24) (w1 := ((((w19.setCell ⟨gb132, 0, none⟩ (.int .i64 ((rd_T61 l0_0 (ji10)).f0))).setCell ⟨gb132, 1, none⟩ (.int .i64 ((rd_T61 l0_0 (ji10)).f1))).setCell ⟨gb132, 2, none⟩ (.int .i64 ((rd_T61 l0_0 (ji10)).f2))).setCell ⟨gb132, 3, none⟩ (.int .u8 ((rd_T61 l0_0 (ji10)).f3)))) ?hg ?ho ?hn ?hr ?_; (case ho => rfl); (case hg => rfl); (case hn => rfl); (case hr => first | (go_simp; done) | (go_simp; rfl)); intro w24 hw; have n0_ : zC (w24.heap[gb128]? = some (.cells #[.slice (some ad131) l0_0.length c0_0, .slice A0_1 l0_1.length c0_1] 31 (0, 0))) := ⟨(by rw [hw]; exact (by (with_reducible repeat (first | refine zA ?_ _ | refine zD ?_ | refine zB ?_ _)); refine blk_far ?_ NB128_132.out _; (with_reducible repeat (first | refine zA ?_ _ | refine zD ?_ | refine zB ?_ _)); refine blk_far ?_ NB128_132.out _; (with_reducible repeat (first | refine zA ?_ _ | refine zD ?_ | refine zB ?_ _)); refine blk_far ?_ NB128_132.out _; (with_reducible repeat (first | refine zA ?_ _ | refine zD ?_ | refine zB ?_ _)); refine blk_far ?_ NB128_132.out _; (with_reducible repeat (first | refine zA ?_ _ | refine zD ?_ | refine zB ?_ _)); exact BK128.out))⟩; have n1_ : zC (w24.heap[gb129]? = some (.cells #[.int .i64 a3_0, .int .i64 a3_1, .int .u8 a3_2, .int .i64 a3_3, .int .i64 a3_4, .float .f64 a3_5] 35 (0, 0))) := ⟨(by rw [hw]; exact (by (with_reducible repeat (first | refine zA ?_ _ | refine zD ?_ | refine zB ?_ _)); refine blk_far ?_ NB129_132.out _; (with_reducible repeat (first | refine zA ?_ _ | refine zD ?_ | refine zB ?_ _)); refine blk_far ?_ NB129_132.out _; (with_reducible repeat (first | refine zA ?_ _ | refine zD ?_ | refine zB ?_ _)); refine blk_far ?_ NB129_132.out _; (with_reducible repeat (first | refine zA ?_ _ | refine zD ?_ | refine zB ?_ _)); refine blk_far ?_ NB129_132.out _; (with_reducible repeat (first | refine zA ?_ _ | refine zD ?_ | refine zB ?_ _)); exact BK129.out))⟩; have n2_ : zC (w24.heap[gb130]? = some (.cells #[.int .i64 0, .int .i64 0, .int .i64 0, .int .u8 0] 45 (0, 0))) := ⟨(by rw [hw]; exact (by (with_reducible repeat (first | refine zA ?_ _ | refine zD ?_ | refine zB ?_ _)); refine blk_far ?_ NB130_132.out _; (with_reducible repeat (first | refine zA ?_ _ | refine zD ?_ | refine zB ?_ _)); refine blk_far ?_ NB130_132.out _; (with_reducible repeat (first | refine zA ?_ _ | refine zD ?_ | refine zB ?_ _)); refine blk_far ?_ NB130_132.out _; (with_reducible repeat (first | refine zA ?_ _ | refine zD ?_ | refine zB ?_ _)); refine blk_far ?_ NB130_132.out _; (with_reducible repeat (first | refine zA ?_ _ | refine zD ?_ | refine zB ?_ _)); exact BK130.out))⟩; have n3_ : zC (w24.heap[gb132]? = some (.cells #[.int .i64 ((rd_T61 l0_0 (ji10)).f0), .int .i64 ((rd_T61 l0_0 (ji10)).f1), .int .i64 ((rd_T61 l0_0 (ji10)).f2), .int .u8 ((rd_T61 l0_0 (ji10)).f3)] 61 (0, 0))) := ⟨(by rw [hw]; exact (by (with_reducible repeat (first | refine zA ?_ _ | refine zD ?_ | refine zB ?_ _)); refine blk_put (cs := #[.int .i64 ((rd_T61 l0_0 (ji10)).f0), .int .i64 ((rd_T61 l0_0 (ji10)).f1), .int .i64 ((rd_T61 l0_0 (ji10)).f2), .int .u8 0]) ?_ 3 _ rfl; (with_reducible repeat (first | refine zA ?_ _ | refine zD ?_ | refine zB ?_ _)); refine blk_put (cs := #[.int .i64 ((rd_T61 l0_0 (ji10)).f0), .int .i64 ((rd_T61 l0_0 (ji10)).f1), .int .i64 0, .int .u8 0]) ?_ 2 _ rfl; (with_reducible repeat (first | refine zA ?_ _ | refine zD ?_ | refine zB ?_ _)); refine blk_put (cs := #[.int .i64 ((rd_T61 l0_0 (ji10)).f0), .int .i64 0, .int .i64 0, .int .u8 0]) ?_ 1 _ rfl; (with_reducible repeat (first | refine zA ?_ _ | refine zD ?_ | refine zB ?_ _)); refine blk_put (cs := #[.int .i64 0, .int .i64 0, .int .i64 0, .int .u8 0]) ?_ 0 _ rfl; (with_reducible repeat (first | refine zA ?_ _ | refine zD ?_ | refine zB ?_ _)); exact BK132.out))⟩; have n4_ : zC (Below w.heap.size w w24) := ⟨(by rw [hw]; exact (by repeat (first | (with_reducible first | exact HB.out | apply zJ | apply zE | apply zI | refine zF ?_ GE128.out | refine zF ?_ GE129.out | refine zF ?_ GE130.out | refine zF ?_ GE132.out) | exact HB.out)))⟩; clear hw; clear BK128; clear BK129; clear BK130; clear BK132; clear HB; have BK128 := n0_; have BK129 := n1_; have BK130 := n2_; have BK132 := n3_; have HB := n4_; clear n0_ n1_ n2_ n3_ n4_; have hcz25_0 : w24.cell? ⟨gb132, 0, none⟩ = some (.int .i64 ((rd_T61 l0_0 (ji10)).f0)) := (zH BK132.out 0).trans rfl; have hcz25_1 : w24.cell? ⟨gb132, 1, none⟩ = some (.int .i64 ((rd_T61 l0_0 (ji10)).f1)) := (zH BK132.out 1).trans rfl; have hcz25_2 : w24.cell? ⟨gb132, 2, none⟩ = some (.int .i64 ((rd_T61 l0_0 (ji10)).f2)) := (zH BK132.out 2).trans rfl; have hcz25_3 : w24.cell? ⟨gb132, 3, none⟩ = some (.int .u8 ((rd_T61 l0_0 (ji10)).f3)) := (zH BK132.out 3).trans rfl; have hfz25_0 := zG BK132.out 0; have hfz25_1 := zG BK132.out 1; have hfz25_2 := zG BK132.out 2; have hfz25_3 := zG BK132.out 3; have hnb26 := NB129_130.out; have hnc26 := NB130_129.out; have hcz27_0 : w24.cell? ⟨gb129, 0, none⟩ = some (.int .i64 a3_0) := (zH BK129.out 0).trans rfl; have hcz27_1 : w24.cell? ⟨gb129, 1, none⟩ = some (.int .i64 a3_1) := (zH BK129.out 1).trans rfl; have hcz27_2 : w24.cell? ⟨gb129, 2, none⟩ = some (.int .u8 a3_2) := (zH BK129.out 2).trans rfl; have hcz27_3 : w24.cell? ⟨gb129, 3, none⟩ = some (.int .i64 a3_3) := (zH BK129.out 3).trans rfl; have hcz27_4 : w24.cell? ⟨gb129, 4, none⟩ = some (.int .i64 a3_4) := (zH BK129.out 4).trans rfl; have hcz27_5 : w24.cell? ⟨gb129, 5, none⟩ = some (.float .f64 a3_5) := (zH BK129.out 5).trans rfl; have hfz27_0 := zG BK129.out 0; have hfz27_1 := zG BK129.out 1; have hfz27_2 := zG BK129.out 2; have hfz27_3 := zG BK129.out 3; have hfz27_4 := zG BK129.out 4; have hfz27_5 := zG BK129.out 5) | ((with_reducible refine gate_callee (f := 40) rfl ?_); refine goesL_ (some 37) rfl rfl Try.func40 (by kernel_rfl) rfl #[.agg #[.int .i64 ((rd_T61 l0_0 (ji10)).f0), .int .i64 ((rd_T61 l0_0 (ji10)).f1), .int .i64 ((rd_T61 l0_0 (ji10)).f2), .int .u8 ((rd_T61 l0_0 (ji10)).f3)], .int .i64 x11_1, .int .i64 a3_1] rfl (by (try simp only [List.map_toArray, List.map_cons, List.map_nil]); first | done | (simp only [hji10]; rfl) | rfl | (simp only [List.length_drop, List.length_take]; rfl)) ?_; (with_reducible refine (span_Next.calls ((rd_T61 l0_0 (ji10)).f0) ((rd_T61 l0_0 (ji10)).f1) ((rd_T61 l0_0 (ji10)).f2) ((rd_T61 l0_0 (ji10)).f3) x11_1 a3_1 t133 _ A13.out).mono ?_); rintro e w28 ⟨rfl, hb⟩; refine ⟨_, rfl, ?_⟩; have n0_ := zC.mk (blk_below (g := gb128) (o := .cells #[.slice (some ad131) l0_0.length c0_0, .slice A0_1 l0_1.length c0_1] 31 (0, 0)) (by (with_reducible repeat (first | refine zA ?_ _ | refine zD ?_ | refine zB ?_ _)); exact BK128.out) hb); have n1_ := zC.mk (blk_below (g := gb129) (o := .cells #[.int .i64 a3_0, .int .i64 a3_1, .int .u8 a3_2, .int .i64 a3_3, .int .i64 a3_4, .float .f64 a3_5] 35 (0, 0)) (by (with_reducible repeat (first | refine zA ?_ _ | refine zD ?_ | refine zB ?_ _)); exact BK129.out) hb); have n2_ := zC.mk (blk_below (g := gb130) (o := .cells #[.int .i64 0, .int .i64 0, .int .i64 0, .int .u8 0] 45 (0, 0)) (by (with_reducible repeat (first | refine zA ?_ _ | refine zD ?_ | refine zB ?_ _)); exact BK130.out) hb); have n3_ := zC.mk (blk_below (g := gb132) (o := .cells #[.int .i64 ((rd_T61 l0_0 (ji10)).f0), .int .i64 ((rd_T61 l0_0 (ji10)).f1), .int .i64 ((rd_T61 l0_0 (ji10)).f2), .int .u8 ((rd_T61 l0_0 (ji10)).f3)] 61 (0, 0)) (by (with_reducible repeat (first | refine zA ?_ _ | refine zD ?_ | refine zB ?_ _)); exact BK132.out) hb); have n4_ := zC.mk (below_step (by repeat (first | (with_reducible first | exact HB.out | apply zJ | apply zE | apply zI | refine zF ?_ GE128.out | refine zF ?_ GE129.out | refine zF ?_ GE130.out | refine zF ?_ GE132.out) | exact HB.out)) hb); clear BK128; clear BK129; clear BK130; clear BK132; clear HB; have BK128 := n0_; have BK129 := n1_; have BK130 := n2_; have BK132 := n3_; have HB := n4_; clear n0_ n1_ n2_ n3_ n4_; (try clear hb); (try clear hb2); (try clear hk); (try clear hi); have hcz29_0 : w28.cell? ⟨gb128, 0, none⟩ = some (.slice (some ad131) l0_0.length c0_0) := (zH BK128.out 0).trans rfl; have hcz29_1 : w28.cell? ⟨gb128, 1, none⟩ = some (.slice A0_1 l0_1.length c0_1) := (zH BK128.out 1).trans rfl; have hfz29_0 := zG BK128.out 0; have hfz29_1 := zG BK128.out 1) | ((with_reducible refine gate_callee (f := 19) rfl ?_); refine goesL_ (some 42) rfl rfl Try.func19 (by kernel_rfl) rfl #[.agg #[.slice (some ad131) l0_0.length c0_0, .slice A0_1 l0_1.length c0_1], .int .i64 ji10, .int .i64 x13_1] rfl (by (try simp only [List.map_toArray, List.map_cons, List.map_nil]); first | done | (simp only [hji10]; rfl) | rfl | (simp only [List.length_drop, List.length_take]; rfl)) ?_; (with_reducible refine (span_Trim.calls k1 _ _ l0_0 _ _ l0_1 ji10 x13_1 t134 _ ?side1 ?side2 ?side3 ?side4 A14.out).mono ?_); (case side1 => repeat (first | exact (Kd.C_below HR0_0.out HB.out) | (with_reducible refine Kd.C_alloc ?_ _) | (with_reducible refine Kd.C_drewN ?_ _) | (with_reducible refine Kd.C_drew ?_))); (case side2 => exact HC0_0.out); (case side3 => repeat (first | exact (Kd.C_below HR0_1.out HB.out) | (with_reducible refine Kd.C_alloc ?_ _) | (with_reducible refine Kd.C_drewN ?_ _) | (with_reducible refine Kd.C_drew ?_))); (case side4 => exact HC0_1.out); rintro e w30 ⟨rfl, hb⟩; refine ⟨_, rfl, ?_⟩; have n0_ := zC.mk (blk_below (g := gb128) (o := .cells #[.slice (some ad131) l0_0.length c0_0, .slice A0_1 l0_1.length c0_1] 31 (0, 0)) (by (with_reducible repeat (first | refine zA ?_ _ | refine zD ?_ | refine zB ?_ _)); exact BK128.out) hb); have n1_ := zC.mk (blk_below (g := gb129) (o := .cells #[.int .i64 a3_0, .int .i64 a3_1, .int .u8 a3_2, .int .i64 a3_3, .int .i64 a3_4, .float .f64 a3_5] 35 (0, 0)) (by (with_reducible repeat (first | refine zA ?_ _ | refine zD ?_ | refine zB ?_ _)); exact BK129.out) hb); have n2_ := zC.mk (blk_below (g := gb130) (o := .cells #[.int .i64 0, .int .i64 0, .int .i64 0, .int .u8 0] 45 (0, 0)) (by (with_reducible repeat (first | refine zA ?_ _ | refine zD ?_ | refine zB ?_ _)); exact BK130.out) hb); have n3_ := zC.mk (blk_below (g := gb132) (o := .cells #[.int .i64 ((rd_T61 l0_0 (ji10)).f0), .int .i64 ((rd_T61 l0_0 (ji10)).f1), .int .i64 ((rd_T61 l0_0 (ji10)).f2), .int .u8 ((rd_T61 l0_0 (ji10)).f3)] 61 (0, 0)) (by (with_reducible repeat (first | refine zA ?_ _ | refine zD ?_ | refine zB ?_ _)); exact BK132.out) hb); have n4_ := zC.mk (below_step (by repeat (first | (with_reducible first | exact HB.out | apply zJ | apply zE | apply zI | refine zF ?_ GE128.out | refine zF ?_ GE129.out | refine zF ?_ GE130.out | refine zF ?_ GE132.out) | exact HB.out)) hb); clear BK128; clear BK129; clear BK130; clear BK132; clear HB; have BK128 := n0_; have BK129 := n1_; have BK130 := n2_; have BK132 := n3_; have HB := n4_; clear n0_ n1_ n2_ n3_ n4_; (try clear hb); (try clear hb2); (try clear hk); (try clear hi)))
      (try simp only [Act.put, sA_, sB_, sC_])
      go_cut [12] (fun v12 wc => ∃ (kq : Nat) (x12_14 : Int), v12 = .int .i64 x12_14 ∧ zC (first_one.j1 kq a1 a2 x9_1 x10_1 t133 x12_14 x13_1 l0_0 l0_1 a3_0 a3_1 a3_2 a3_3 a3_4 a3_5 = some (r1, r2, r3, r4)) ∧ zC (kq ≤ k1) ∧ zC (wc.heap[gb128]? = some (.cells #[(.slice (some ad131) l0_0.length c0_0), (.slice A0_1 l0_1.length c0_1)] 31 (0, 0))) ∧ zC (wc.heap[gb129]? = some (.cells #[.int .i64 a3_0, .int .i64 a3_1, .int .u8 a3_2, .int .i64 a3_3, .int .i64 a3_4, .float .f64 a3_5] 35 (0, 0))) ∧ zC (wc.heap[gb130]? = some (.cells #[.int .i64 0, .int .i64 0, .int .i64 0, .int .u8 0] 45 (0, 0))) ∧ zC (wc.heap[gb132]? = some (.cells #[.int .i64 ((rd_T61 l0_0 (ji10)).f0), .int .i64 ((rd_T61 l0_0 (ji10)).f1), .int .i64 ((rd_T61 l0_0 (ji10)).f2), .int .u8 ((rd_T61 l0_0 (ji10)).f3)] 61 (0, 0))) ∧ zC (Below w.heap.size w wc))
      case first =>
        have H := HC15.out; clear HC15; by_cases c31 : t134 = x13_1
        · rw [if_pos c31] at H
          have c31b0 : (t134 == x13_1) = true := beq_iff_eq.mpr c31
          have c31b1 : (t134 != x13_1) = false := bne_eq_false_iff_eq.mpr c31
          clear c31; (first | rw [c31b0] | (simp only [i64_w, i32_w]; rw [c31b0]) | skip)
          have H' := zC.mk H
          clear H; go_wp2
          go_meet
          case rel => exact ⟨_, (t133), (by first | rfl | (simp; done) | (simp [*]; done)), H', ⟨by have := HK1.out; first | omega | exact Nat.le_refl _⟩, ⟨by (with_reducible repeat (first | refine zA ?_ _ | refine zD ?_ | refine zB ?_ _)); exact BK128.out⟩, ⟨by (with_reducible repeat (first | refine zA ?_ _ | refine zD ?_ | refine zB ?_ _)); exact BK129.out⟩, ⟨by (with_reducible repeat (first | refine zA ?_ _ | refine zD ?_ | refine zB ?_ _)); exact BK130.out⟩, ⟨by (with_reducible repeat (first | refine zA ?_ _ | refine zD ?_ | refine zB ?_ _)); exact BK132.out⟩, ⟨by repeat (first | (with_reducible first | exact HB.out | apply zJ | apply zE | apply zI | refine zF ?_ GE128.out | refine zF ?_ GE129.out | refine zF ?_ GE130.out | refine zF ?_ GE132.out) | exact HB.out)⟩⟩
        rw [if_neg c31] at H; have c31b0 : (t134 == x13_1) = false := beq_eq_false_iff_ne.mpr c31
        have c31b1 : (t134 != x13_1) = true := bne_iff_ne.mpr c31
        (first | rw [c31b0] | (simp only [i64_w, i32_w]; rw [c31b0]) | skip)
        have H' := zC.mk H
        clear H; go_wp2
        go_meet
        case rel => exact ⟨_, (x12_1), (by first | rfl | (simp; done) | (simp [*]; done)), H', ⟨by have := HK1.out; first | omega | exact Nat.le_refl _⟩, ⟨by (with_reducible repeat (first | refine zA ?_ _ | refine zD ?_ | refine zB ?_ _)); exact BK128.out⟩, ⟨by (with_reducible repeat (first | refine zA ?_ _ | refine zD ?_ | refine zB ?_ _)); exact BK129.out⟩, ⟨by (with_reducible repeat (first | refine zA ?_ _ | refine zD ?_ | refine zB ?_ _)); exact BK130.out⟩, ⟨by (with_reducible repeat (first | refine zA ?_ _ | refine zD ?_ | refine zB ?_ _)); exact BK132.out⟩, ⟨by repeat (first | (with_reducible first | exact HB.out | apply zJ | apply zE | apply zI | refine zF ?_ GE128.out | refine zF ?_ GE129.out | refine zF ?_ GE130.out | refine zF ?_ GE132.out) | exact HB.out)⟩⟩
      clear HC15; try clear c1
      try clear p1
      try clear q1
      try clear hx1
      try clear c2
      try clear p2
      try clear c3
      try clear c4
      try clear p6
      try clear c9
      try clear c9b0
      try clear c11
      try clear c11b0
      try clear c12
      try clear c12b0
      try clear p13
      try clear q13
      try clear hx13
      try clear c16
      try clear c17
      try clear c19
      try clear c20
      try clear c21
      try clear c22
      try clear c26
      try clear c29
      try clear c31
      try clear c31b0
      try clear c31b1
      try clear hcz18_0
      try clear hcz18_1
      try clear hcz23_0
      try clear hcz23_1
      try clear hcz23_2
      try clear hcz23_3
      try clear hcz25_0
      try clear hcz25_1
      try clear hcz25_2
      try clear hcz25_3
      try clear hcz27_0
      try clear hcz27_1
      try clear hcz27_2
      try clear hcz27_3
      try clear hcz27_4
      try clear hcz27_5
      try clear hcz29_0
      try clear hcz29_1
      try clear hfz18_0
      try clear hfz18_1
      try clear hfz23_0
      try clear hfz23_1
      try clear hfz23_2
      try clear hfz23_3
      try clear hfz25_0
      try clear hfz25_1
      try clear hfz25_2
      try clear hfz25_3
      try clear hfz27_0
      try clear hfz27_1
      try clear hfz27_2
      try clear hfz27_3
      try clear hfz27_4
      try clear hfz27_5
      try clear hfz29_0
      try clear hfz29_1
      try clear hx131_0
      try clear hx131_1
      try clear hx131_2
      try clear hx131_3
      try clear p131
      try clear p2
      try clear p6
      try clear q131
      obtain ⟨kq, x12_14, rfl, HA, HJ14, BK128, BK129, BK130, BK132, HB⟩ := hcut; cases kq with
      | zero => exact absurd HA.out (by simp [first_one.j1])
      | succ kj14 =>
        have H := HA.out; clear HA; simp only [first_one.j1] at H; by_cases c32 : x12_14 > a3_0
        · rw [if_pos c32] at H
          have c32b0 : decide (a3_0 < x12_14) = true := decide_eq_true c32
          clear c32; have H' := zC.mk H
          clear H; have hnb33 := NB129_128.out; have hnc33 := NB128_129.out; have hnb34 := NB129_130.out; have hnc34 := NB130_129.out; have hnb35 := NB129_132.out; have hnc35 := NB132_129.out; have hcz36_0 : wc.cell? ⟨gb129, 0, none⟩ = some (.int .i64 a3_0) := (zH BK129.out 0).trans rfl
          have hcz36_1 : wc.cell? ⟨gb129, 1, none⟩ = some (.int .i64 a3_1) := (zH BK129.out 1).trans rfl
          have hcz36_2 : wc.cell? ⟨gb129, 2, none⟩ = some (.int .u8 a3_2) := (zH BK129.out 2).trans rfl
          have hcz36_3 : wc.cell? ⟨gb129, 3, none⟩ = some (.int .i64 a3_3) := (zH BK129.out 3).trans rfl
          have hcz36_4 : wc.cell? ⟨gb129, 4, none⟩ = some (.int .i64 a3_4) := (zH BK129.out 4).trans rfl
          have hcz36_5 : wc.cell? ⟨gb129, 5, none⟩ = some (.float .f64 a3_5) := (zH BK129.out 5).trans rfl
          have hfz36_0 := zG BK129.out 0; have hfz36_1 := zG BK129.out 1; have hfz36_2 := zG BK129.out 2; have hfz36_3 := zG BK129.out 3; have hfz36_4 := zG BK129.out 4; have hfz36_5 := zG BK129.out 5; go_wp2
          go_meet
          case rel => exact ⟨_, (x9_1), (x10_1), (by first | rfl | (simp; done) | (simp [*]; done)), (by first | rfl | (simp; done) | (simp [*]; done)), H', ⟨by have := HK1.out; have := HJ14.out; first | omega | exact Nat.le_refl _⟩, ⟨by (with_reducible repeat (first | refine zA ?_ _ | refine zD ?_ | refine zB ?_ _)); exact BK128.out⟩, ⟨by (with_reducible repeat (first | refine zA ?_ _ | refine zD ?_ | refine zB ?_ _)); exact BK129.out⟩, ⟨by (with_reducible repeat (first | refine zA ?_ _ | refine zD ?_ | refine zB ?_ _)); exact BK130.out⟩, ⟨by repeat (first | (with_reducible first | exact HB.out | apply zJ | apply zE | apply zI | refine zF ?_ GE128.out | refine zF ?_ GE129.out | refine zF ?_ GE130.out | refine zF ?_ GE132.out) | exact HB.out)⟩⟩
        rw [if_neg c32] at H; have c32b0 : decide (a3_0 < x12_14) = false := decide_eq_false c32
        clear c32; replace H := Option.bind_eq_some_iff.mp H; obtain ⟨⟨t135, t136⟩, A370, H⟩ := H; replace H : (if t136 = true then (if t135 = 3 then (if x12_14 < a3_0 then (first_one.l0 kj14 a1 a2 x13_1 x13_1 t133 x12_14 (wrap64 (x13_1 + 1)) l0_0 l0_1 a3_0 a3_1 a3_2 a3_3 a3_4 a3_5) else (first_one.l0 kj14 a1 a2 x9_1 x13_1 t133 x12_14 (wrap64 (x13_1 + 1)) l0_0 l0_1 a3_0 a3_1 a3_2 a3_3 a3_4 a3_5)) else (first_one.l0 kj14 a1 a2 x13_1 x13_1 t133 x12_14 (wrap64 (x13_1 + 1)) l0_0 l0_1 a3_0 a3_1 a3_2 a3_3 a3_4 a3_5)) else (first_one.l0 kj14 a1 a2 x9_1 x13_1 t133 x12_14 (wrap64 (x13_1 + 1)) l0_0 l0_1 a3_0 a3_1 a3_2 a3_3 a3_4 a3_5)) = some (r1, r2, r3, r4) := H; have A37 := zC.mk A370; clear A370; by_cases c38 : t136 = true
        rotate_left
        · replace c38 := Bool.eq_false_iff.mpr c38
          subst c38; have H1 : (first_one.l0 kj14 a1 a2 x9_1 x13_1 t133 x12_14 (wrap64 (x13_1 + 1)) l0_0 l0_1 a3_0 a3_1 a3_2 a3_3 a3_4 a3_5) = some (r1, r2, r3, r4) := by rw [if_neg (show ¬ (false = true) by decide)] at H; exact H
          clear H; have H := H1; clear H1; have H' := zC.mk H
          clear H; have hnb67 := NB129_128.out; have hnc67 := NB128_129.out; have hnb68 := NB129_130.out; have hnc68 := NB130_129.out; have hnb69 := NB129_132.out; have hnc69 := NB132_129.out; have hcz70_0 : wc.cell? ⟨gb129, 0, none⟩ = some (.int .i64 a3_0) := (zH BK129.out 0).trans rfl
          have hcz70_1 : wc.cell? ⟨gb129, 1, none⟩ = some (.int .i64 a3_1) := (zH BK129.out 1).trans rfl
          have hcz70_2 : wc.cell? ⟨gb129, 2, none⟩ = some (.int .u8 a3_2) := (zH BK129.out 2).trans rfl
          have hcz70_3 : wc.cell? ⟨gb129, 3, none⟩ = some (.int .i64 a3_3) := (zH BK129.out 3).trans rfl
          have hcz70_4 : wc.cell? ⟨gb129, 4, none⟩ = some (.int .i64 a3_4) := (zH BK129.out 4).trans rfl
          have hcz70_5 : wc.cell? ⟨gb129, 5, none⟩ = some (.float .f64 a3_5) := (zH BK129.out 5).trans rfl
          have hfz70_0 := zG BK129.out 0; have hfz70_1 := zG BK129.out 1; have hfz70_2 := zG BK129.out 2; have hfz70_3 := zG BK129.out 3; have hfz70_4 := zG BK129.out 4; have hfz70_5 := zG BK129.out 5; have hnb71 := NB128_130.out; have hnc71 := NB130_128.out; have hnb72 := NB128_132.out; have hnc72 := NB132_128.out; have hcz73_0 : wc.cell? ⟨gb128, 0, none⟩ = some (.slice (some ad131) l0_0.length c0_0) := (zH BK128.out 0).trans rfl
          have hcz73_1 : wc.cell? ⟨gb128, 1, none⟩ = some (.slice A0_1 l0_1.length c0_1) := (zH BK128.out 1).trans rfl
          have hfz73_0 := zG BK128.out 0; have hfz73_1 := zG BK128.out 1; go_wp2_with (first | ((with_reducible refine gate_callee (f := 41) rfl ?_); refine goesL_ (some 54) rfl rfl Try.func41 (by kernel_rfl) rfl #[.agg #[.slice (some ad131) l0_0.length c0_0, .slice A0_1 l0_1.length c0_1], .int .i64 x13_1] rfl (by (try simp only [List.map_toArray, List.map_cons, List.map_nil]); first | done | rfl | (simp only [List.length_drop, List.length_take]; rfl)) ?_; (with_reducible refine (span_Ends.calls _ _ l0_0 _ _ l0_1 x13_1 t135 false _ ?side1 ?side2 ?side3 ?side4 A37.out).mono ?_); (case side1 => repeat (first | exact (Kd.C_below HR0_0.out HB.out) | (with_reducible refine Kd.C_alloc ?_ _) | (with_reducible refine Kd.C_drewN ?_ _) | (with_reducible refine Kd.C_drew ?_))); (case side2 => exact HC0_0.out); (case side3 => repeat (first | exact (Kd.C_below HR0_1.out HB.out) | (with_reducible refine Kd.C_alloc ?_ _) | (with_reducible refine Kd.C_drewN ?_ _) | (with_reducible refine Kd.C_drew ?_))); (case side4 => exact HC0_1.out); rintro e w74 ⟨rfl, hb⟩; refine ⟨_, rfl, ?_⟩; have n0_ := zC.mk (blk_below (g := gb128) (o := .cells #[.slice (some ad131) l0_0.length c0_0, .slice A0_1 l0_1.length c0_1] 31 (0, 0)) (by (with_reducible repeat (first | refine zA ?_ _ | refine zD ?_ | refine zB ?_ _)); exact BK128.out) hb); have n1_ := zC.mk (blk_below (g := gb129) (o := .cells #[.int .i64 a3_0, .int .i64 a3_1, .int .u8 a3_2, .int .i64 a3_3, .int .i64 a3_4, .float .f64 a3_5] 35 (0, 0)) (by (with_reducible repeat (first | refine zA ?_ _ | refine zD ?_ | refine zB ?_ _)); exact BK129.out) hb); have n2_ := zC.mk (blk_below (g := gb130) (o := .cells #[.int .i64 0, .int .i64 0, .int .i64 0, .int .u8 0] 45 (0, 0)) (by (with_reducible repeat (first | refine zA ?_ _ | refine zD ?_ | refine zB ?_ _)); exact BK130.out) hb); have n3_ := zC.mk (blk_below (g := gb132) (o := .cells #[.int .i64 ((rd_T61 l0_0 (ji10)).f0), .int .i64 ((rd_T61 l0_0 (ji10)).f1), .int .i64 ((rd_T61 l0_0 (ji10)).f2), .int .u8 ((rd_T61 l0_0 (ji10)).f3)] 61 (0, 0)) (by (with_reducible repeat (first | refine zA ?_ _ | refine zD ?_ | refine zB ?_ _)); exact BK132.out) hb); have n4_ := zC.mk (below_step (by repeat (first | (with_reducible first | exact HB.out | apply zJ | apply zE | apply zI | refine zF ?_ GE128.out | refine zF ?_ GE129.out | refine zF ?_ GE130.out | refine zF ?_ GE132.out) | exact HB.out)) hb); clear BK128; clear BK129; clear BK130; clear BK132; clear HB; have BK128 := n0_; have BK129 := n1_; have BK130 := n2_; have BK132 := n3_; have HB := n4_; clear n0_ n1_ n2_ n3_ n4_; (try clear hb); (try clear hb2); (try clear hk); (try clear hi)))
          go_roundg kj14
          case measure => have := HK1.out; have := HJ14.out; omega
          case rel => exact ⟨(x9_1), (x13_1), (t133), (x12_14), (wrap64 (x13_1 + 1)), (by first | rfl | (simp; done) | (simp [*]; done)), (by first | rfl | (simp; done) | (simp [*]; done)), (by first | rfl | (simp; done) | (simp [*]; done)), (by first | rfl | (simp; done) | (simp [*]; done)), (by first | rfl | (simp; done) | (simp [*]; done)), H', ⟨by have := HK1.out; have := HJ14.out; omega⟩, ⟨by (with_reducible repeat (first | refine zA ?_ _ | refine zD ?_ | refine zB ?_ _)); exact BK128.out⟩, ⟨by (with_reducible repeat (first | refine zA ?_ _ | refine zD ?_ | refine zB ?_ _)); exact BK129.out⟩, ⟨by (with_reducible repeat (first | refine zA ?_ _ | refine zD ?_ | refine zB ?_ _)); exact BK130.out⟩, ⟨by repeat (first | (with_reducible first | exact HB.out | apply zJ | apply zE | apply zI | refine zF ?_ GE128.out | refine zF ?_ GE129.out | refine zF ?_ GE130.out | refine zF ?_ GE132.out) | exact HB.out)⟩⟩
        subst c38; have H1 : (if t135 = 3 then (if x12_14 < a3_0 then (first_one.l0 kj14 a1 a2 x13_1 x13_1 t133 x12_14 (wrap64 (x13_1 + 1)) l0_0 l0_1 a3_0 a3_1 a3_2 a3_3 a3_4 a3_5) else (first_one.l0 kj14 a1 a2 x9_1 x13_1 t133 x12_14 (wrap64 (x13_1 + 1)) l0_0 l0_1 a3_0 a3_1 a3_2 a3_3 a3_4 a3_5)) else (first_one.l0 kj14 a1 a2 x13_1 x13_1 t133 x12_14 (wrap64 (x13_1 + 1)) l0_0 l0_1 a3_0 a3_1 a3_2 a3_3 a3_4 a3_5)) = some (r1, r2, r3, r4) := by rw [if_pos rfl] at H; exact H
        clear H; have H := H1; clear H1; by_cases c39 : t135 = 3
        rotate_left
        · rw [if_neg c39] at H
          have c39b0 : (t135 == 3) = false := beq_eq_false_iff_ne.mpr c39
          have c39b1 : (t135 != 3) = true := bne_iff_ne.mpr c39
          have H' := zC.mk H
          clear H; have hnb59 := NB129_128.out; have hnc59 := NB128_129.out; have hnb60 := NB129_130.out; have hnc60 := NB130_129.out; have hnb61 := NB129_132.out; have hnc61 := NB132_129.out; have hcz62_0 : wc.cell? ⟨gb129, 0, none⟩ = some (.int .i64 a3_0) := (zH BK129.out 0).trans rfl
          have hcz62_1 : wc.cell? ⟨gb129, 1, none⟩ = some (.int .i64 a3_1) := (zH BK129.out 1).trans rfl
          have hcz62_2 : wc.cell? ⟨gb129, 2, none⟩ = some (.int .u8 a3_2) := (zH BK129.out 2).trans rfl
          have hcz62_3 : wc.cell? ⟨gb129, 3, none⟩ = some (.int .i64 a3_3) := (zH BK129.out 3).trans rfl
          have hcz62_4 : wc.cell? ⟨gb129, 4, none⟩ = some (.int .i64 a3_4) := (zH BK129.out 4).trans rfl
          have hcz62_5 : wc.cell? ⟨gb129, 5, none⟩ = some (.float .f64 a3_5) := (zH BK129.out 5).trans rfl
          have hfz62_0 := zG BK129.out 0; have hfz62_1 := zG BK129.out 1; have hfz62_2 := zG BK129.out 2; have hfz62_3 := zG BK129.out 3; have hfz62_4 := zG BK129.out 4; have hfz62_5 := zG BK129.out 5; have hnb63 := NB128_130.out; have hnc63 := NB130_128.out; have hnb64 := NB128_132.out; have hnc64 := NB132_128.out; have hcz65_0 : wc.cell? ⟨gb128, 0, none⟩ = some (.slice (some ad131) l0_0.length c0_0) := (zH BK128.out 0).trans rfl
          have hcz65_1 : wc.cell? ⟨gb128, 1, none⟩ = some (.slice A0_1 l0_1.length c0_1) := (zH BK128.out 1).trans rfl
          have hfz65_0 := zG BK128.out 0; have hfz65_1 := zG BK128.out 1; go_wp2_with (first | ((with_reducible refine gate_callee (f := 41) rfl ?_); refine goesL_ (some 54) rfl rfl Try.func41 (by kernel_rfl) rfl #[.agg #[.slice (some ad131) l0_0.length c0_0, .slice A0_1 l0_1.length c0_1], .int .i64 x13_1] rfl (by (try simp only [List.map_toArray, List.map_cons, List.map_nil]); first | done | rfl | (simp only [List.length_drop, List.length_take]; rfl)) ?_; (with_reducible refine (span_Ends.calls _ _ l0_0 _ _ l0_1 x13_1 t135 true _ ?side1 ?side2 ?side3 ?side4 A37.out).mono ?_); (case side1 => repeat (first | exact (Kd.C_below HR0_0.out HB.out) | (with_reducible refine Kd.C_alloc ?_ _) | (with_reducible refine Kd.C_drewN ?_ _) | (with_reducible refine Kd.C_drew ?_))); (case side2 => exact HC0_0.out); (case side3 => repeat (first | exact (Kd.C_below HR0_1.out HB.out) | (with_reducible refine Kd.C_alloc ?_ _) | (with_reducible refine Kd.C_drewN ?_ _) | (with_reducible refine Kd.C_drew ?_))); (case side4 => exact HC0_1.out); rintro e w66 ⟨rfl, hb⟩; refine ⟨_, rfl, ?_⟩; have n0_ := zC.mk (blk_below (g := gb128) (o := .cells #[.slice (some ad131) l0_0.length c0_0, .slice A0_1 l0_1.length c0_1] 31 (0, 0)) (by (with_reducible repeat (first | refine zA ?_ _ | refine zD ?_ | refine zB ?_ _)); exact BK128.out) hb); have n1_ := zC.mk (blk_below (g := gb129) (o := .cells #[.int .i64 a3_0, .int .i64 a3_1, .int .u8 a3_2, .int .i64 a3_3, .int .i64 a3_4, .float .f64 a3_5] 35 (0, 0)) (by (with_reducible repeat (first | refine zA ?_ _ | refine zD ?_ | refine zB ?_ _)); exact BK129.out) hb); have n2_ := zC.mk (blk_below (g := gb130) (o := .cells #[.int .i64 0, .int .i64 0, .int .i64 0, .int .u8 0] 45 (0, 0)) (by (with_reducible repeat (first | refine zA ?_ _ | refine zD ?_ | refine zB ?_ _)); exact BK130.out) hb); have n3_ := zC.mk (blk_below (g := gb132) (o := .cells #[.int .i64 ((rd_T61 l0_0 (ji10)).f0), .int .i64 ((rd_T61 l0_0 (ji10)).f1), .int .i64 ((rd_T61 l0_0 (ji10)).f2), .int .u8 ((rd_T61 l0_0 (ji10)).f3)] 61 (0, 0)) (by (with_reducible repeat (first | refine zA ?_ _ | refine zD ?_ | refine zB ?_ _)); exact BK132.out) hb); have n4_ := zC.mk (below_step (by repeat (first | (with_reducible first | exact HB.out | apply zJ | apply zE | apply zI | refine zF ?_ GE128.out | refine zF ?_ GE129.out | refine zF ?_ GE130.out | refine zF ?_ GE132.out) | exact HB.out)) hb); clear BK128; clear BK129; clear BK130; clear BK132; clear HB; have BK128 := n0_; have BK129 := n1_; have BK130 := n2_; have BK132 := n3_; have HB := n4_; clear n0_ n1_ n2_ n3_ n4_; (try clear hb); (try clear hb2); (try clear hk); (try clear hi)))
          go_roundg kj14
          case measure => have := HK1.out; have := HJ14.out; omega
          case rel => exact ⟨(x13_1), (x13_1), (t133), (x12_14), (wrap64 (x13_1 + 1)), (by first | rfl | (simp; done) | (simp [*]; done)), (by first | rfl | (simp; done) | (simp [*]; done)), (by first | rfl | (simp; done) | (simp [*]; done)), (by first | rfl | (simp; done) | (simp [*]; done)), (by first | rfl | (simp; done) | (simp [*]; done)), H', ⟨by have := HK1.out; have := HJ14.out; omega⟩, ⟨by (with_reducible repeat (first | refine zA ?_ _ | refine zD ?_ | refine zB ?_ _)); exact BK128.out⟩, ⟨by (with_reducible repeat (first | refine zA ?_ _ | refine zD ?_ | refine zB ?_ _)); exact BK129.out⟩, ⟨by (with_reducible repeat (first | refine zA ?_ _ | refine zD ?_ | refine zB ?_ _)); exact BK130.out⟩, ⟨by repeat (first | (with_reducible first | exact HB.out | apply zJ | apply zE | apply zI | refine zF ?_ GE128.out | refine zF ?_ GE129.out | refine zF ?_ GE130.out | refine zF ?_ GE132.out) | exact HB.out)⟩⟩
        rw [if_pos c39] at H; have c39b0 : (t135 == 3) = true := beq_iff_eq.mpr c39
        have c39b1 : (t135 != 3) = false := bne_eq_false_iff_eq.mpr c39
        clear c39; by_cases c40 : x12_14 < a3_0
        · rw [if_pos c40] at H
          have c40b0 : decide (x12_14 < a3_0) = true := decide_eq_true c40
          clear c40; have H' := zC.mk H
          clear H; have hnb41 := NB129_128.out; have hnc41 := NB128_129.out; have hnb42 := NB129_130.out; have hnc42 := NB130_129.out; have hnb43 := NB129_132.out; have hnc43 := NB132_129.out; have hcz44_0 : wc.cell? ⟨gb129, 0, none⟩ = some (.int .i64 a3_0) := (zH BK129.out 0).trans rfl
          have hcz44_1 : wc.cell? ⟨gb129, 1, none⟩ = some (.int .i64 a3_1) := (zH BK129.out 1).trans rfl
          have hcz44_2 : wc.cell? ⟨gb129, 2, none⟩ = some (.int .u8 a3_2) := (zH BK129.out 2).trans rfl
          have hcz44_3 : wc.cell? ⟨gb129, 3, none⟩ = some (.int .i64 a3_3) := (zH BK129.out 3).trans rfl
          have hcz44_4 : wc.cell? ⟨gb129, 4, none⟩ = some (.int .i64 a3_4) := (zH BK129.out 4).trans rfl
          have hcz44_5 : wc.cell? ⟨gb129, 5, none⟩ = some (.float .f64 a3_5) := (zH BK129.out 5).trans rfl
          have hfz44_0 := zG BK129.out 0; have hfz44_1 := zG BK129.out 1; have hfz44_2 := zG BK129.out 2; have hfz44_3 := zG BK129.out 3; have hfz44_4 := zG BK129.out 4; have hfz44_5 := zG BK129.out 5; have hnb45 := NB128_130.out; have hnc45 := NB130_128.out; have hnb46 := NB128_132.out; have hnc46 := NB132_128.out; have hcz47_0 : wc.cell? ⟨gb128, 0, none⟩ = some (.slice (some ad131) l0_0.length c0_0) := (zH BK128.out 0).trans rfl
          have hcz47_1 : wc.cell? ⟨gb128, 1, none⟩ = some (.slice A0_1 l0_1.length c0_1) := (zH BK128.out 1).trans rfl
          have hfz47_0 := zG BK128.out 0; have hfz47_1 := zG BK128.out 1; go_wp2_with (first | ((with_reducible refine gate_callee (f := 41) rfl ?_); refine goesL_ (some 54) rfl rfl Try.func41 (by kernel_rfl) rfl #[.agg #[.slice (some ad131) l0_0.length c0_0, .slice A0_1 l0_1.length c0_1], .int .i64 x13_1] rfl (by (try simp only [List.map_toArray, List.map_cons, List.map_nil]); first | done | rfl | (simp only [List.length_drop, List.length_take]; rfl)) ?_; (with_reducible refine (span_Ends.calls _ _ l0_0 _ _ l0_1 x13_1 t135 true _ ?side1 ?side2 ?side3 ?side4 A37.out).mono ?_); (case side1 => repeat (first | exact (Kd.C_below HR0_0.out HB.out) | (with_reducible refine Kd.C_alloc ?_ _) | (with_reducible refine Kd.C_drewN ?_ _) | (with_reducible refine Kd.C_drew ?_))); (case side2 => exact HC0_0.out); (case side3 => repeat (first | exact (Kd.C_below HR0_1.out HB.out) | (with_reducible refine Kd.C_alloc ?_ _) | (with_reducible refine Kd.C_drewN ?_ _) | (with_reducible refine Kd.C_drew ?_))); (case side4 => exact HC0_1.out); rintro e w48 ⟨rfl, hb⟩; refine ⟨_, rfl, ?_⟩; have n0_ := zC.mk (blk_below (g := gb128) (o := .cells #[.slice (some ad131) l0_0.length c0_0, .slice A0_1 l0_1.length c0_1] 31 (0, 0)) (by (with_reducible repeat (first | refine zA ?_ _ | refine zD ?_ | refine zB ?_ _)); exact BK128.out) hb); have n1_ := zC.mk (blk_below (g := gb129) (o := .cells #[.int .i64 a3_0, .int .i64 a3_1, .int .u8 a3_2, .int .i64 a3_3, .int .i64 a3_4, .float .f64 a3_5] 35 (0, 0)) (by (with_reducible repeat (first | refine zA ?_ _ | refine zD ?_ | refine zB ?_ _)); exact BK129.out) hb); have n2_ := zC.mk (blk_below (g := gb130) (o := .cells #[.int .i64 0, .int .i64 0, .int .i64 0, .int .u8 0] 45 (0, 0)) (by (with_reducible repeat (first | refine zA ?_ _ | refine zD ?_ | refine zB ?_ _)); exact BK130.out) hb); have n3_ := zC.mk (blk_below (g := gb132) (o := .cells #[.int .i64 ((rd_T61 l0_0 (ji10)).f0), .int .i64 ((rd_T61 l0_0 (ji10)).f1), .int .i64 ((rd_T61 l0_0 (ji10)).f2), .int .u8 ((rd_T61 l0_0 (ji10)).f3)] 61 (0, 0)) (by (with_reducible repeat (first | refine zA ?_ _ | refine zD ?_ | refine zB ?_ _)); exact BK132.out) hb); have n4_ := zC.mk (below_step (by repeat (first | (with_reducible first | exact HB.out | apply zJ | apply zE | apply zI | refine zF ?_ GE128.out | refine zF ?_ GE129.out | refine zF ?_ GE130.out | refine zF ?_ GE132.out) | exact HB.out)) hb); clear BK128; clear BK129; clear BK130; clear BK132; clear HB; have BK128 := n0_; have BK129 := n1_; have BK130 := n2_; have BK132 := n3_; have HB := n4_; clear n0_ n1_ n2_ n3_ n4_; (try clear hb); (try clear hb2); (try clear hk); (try clear hi); have hcz49_0 : w48.cell? ⟨gb129, 0, none⟩ = some (.int .i64 a3_0) := (zH BK129.out 0).trans rfl; have hcz49_1 : w48.cell? ⟨gb129, 1, none⟩ = some (.int .i64 a3_1) := (zH BK129.out 1).trans rfl; have hcz49_2 : w48.cell? ⟨gb129, 2, none⟩ = some (.int .u8 a3_2) := (zH BK129.out 2).trans rfl; have hcz49_3 : w48.cell? ⟨gb129, 3, none⟩ = some (.int .i64 a3_3) := (zH BK129.out 3).trans rfl; have hcz49_4 : w48.cell? ⟨gb129, 4, none⟩ = some (.int .i64 a3_4) := (zH BK129.out 4).trans rfl; have hcz49_5 : w48.cell? ⟨gb129, 5, none⟩ = some (.float .f64 a3_5) := (zH BK129.out 5).trans rfl; have hfz49_0 := zG BK129.out 0; have hfz49_1 := zG BK129.out 1; have hfz49_2 := zG BK129.out 2; have hfz49_3 := zG BK129.out 3; have hfz49_4 := zG BK129.out 4; have hfz49_5 := zG BK129.out 5))
          go_roundg kj14
          case measure => have := HK1.out; have := HJ14.out; omega
          case rel => exact ⟨(x13_1), (x13_1), (t133), (x12_14), (wrap64 (x13_1 + 1)), (by first | rfl | (simp; done) | (simp [*]; done)), (by first | rfl | (simp; done) | (simp [*]; done)), (by first | rfl | (simp; done) | (simp [*]; done)), (by first | rfl | (simp; done) | (simp [*]; done)), (by first | rfl | (simp; done) | (simp [*]; done)), H', ⟨by have := HK1.out; have := HJ14.out; omega⟩, ⟨by (with_reducible repeat (first | refine zA ?_ _ | refine zD ?_ | refine zB ?_ _)); exact BK128.out⟩, ⟨by (with_reducible repeat (first | refine zA ?_ _ | refine zD ?_ | refine zB ?_ _)); exact BK129.out⟩, ⟨by (with_reducible repeat (first | refine zA ?_ _ | refine zD ?_ | refine zB ?_ _)); exact BK130.out⟩, ⟨by repeat (first | (with_reducible first | exact HB.out | apply zJ | apply zE | apply zI | refine zF ?_ GE128.out | refine zF ?_ GE129.out | refine zF ?_ GE130.out | refine zF ?_ GE132.out) | exact HB.out)⟩⟩
        rw [if_neg c40] at H; have c40b0 : decide (x12_14 < a3_0) = false := decide_eq_false c40
        clear c40; have H' := zC.mk H
        clear H; have hnb50 := NB129_128.out; have hnc50 := NB128_129.out; have hnb51 := NB129_130.out; have hnc51 := NB130_129.out; have hnb52 := NB129_132.out; have hnc52 := NB132_129.out; have hcz53_0 : wc.cell? ⟨gb129, 0, none⟩ = some (.int .i64 a3_0) := (zH BK129.out 0).trans rfl
        have hcz53_1 : wc.cell? ⟨gb129, 1, none⟩ = some (.int .i64 a3_1) := (zH BK129.out 1).trans rfl
        have hcz53_2 : wc.cell? ⟨gb129, 2, none⟩ = some (.int .u8 a3_2) := (zH BK129.out 2).trans rfl
        have hcz53_3 : wc.cell? ⟨gb129, 3, none⟩ = some (.int .i64 a3_3) := (zH BK129.out 3).trans rfl
        have hcz53_4 : wc.cell? ⟨gb129, 4, none⟩ = some (.int .i64 a3_4) := (zH BK129.out 4).trans rfl
        have hcz53_5 : wc.cell? ⟨gb129, 5, none⟩ = some (.float .f64 a3_5) := (zH BK129.out 5).trans rfl
        have hfz53_0 := zG BK129.out 0; have hfz53_1 := zG BK129.out 1; have hfz53_2 := zG BK129.out 2; have hfz53_3 := zG BK129.out 3; have hfz53_4 := zG BK129.out 4; have hfz53_5 := zG BK129.out 5; have hnb54 := NB128_130.out; have hnc54 := NB130_128.out; have hnb55 := NB128_132.out; have hnc55 := NB132_128.out; have hcz56_0 : wc.cell? ⟨gb128, 0, none⟩ = some (.slice (some ad131) l0_0.length c0_0) := (zH BK128.out 0).trans rfl
        have hcz56_1 : wc.cell? ⟨gb128, 1, none⟩ = some (.slice A0_1 l0_1.length c0_1) := (zH BK128.out 1).trans rfl
        have hfz56_0 := zG BK128.out 0; have hfz56_1 := zG BK128.out 1; go_wp2_with (first | ((with_reducible refine gate_callee (f := 41) rfl ?_); refine goesL_ (some 54) rfl rfl Try.func41 (by kernel_rfl) rfl #[.agg #[.slice (some ad131) l0_0.length c0_0, .slice A0_1 l0_1.length c0_1], .int .i64 x13_1] rfl (by (try simp only [List.map_toArray, List.map_cons, List.map_nil]); first | done | rfl | (simp only [List.length_drop, List.length_take]; rfl)) ?_; (with_reducible refine (span_Ends.calls _ _ l0_0 _ _ l0_1 x13_1 t135 true _ ?side1 ?side2 ?side3 ?side4 A37.out).mono ?_); (case side1 => repeat (first | exact (Kd.C_below HR0_0.out HB.out) | (with_reducible refine Kd.C_alloc ?_ _) | (with_reducible refine Kd.C_drewN ?_ _) | (with_reducible refine Kd.C_drew ?_))); (case side2 => exact HC0_0.out); (case side3 => repeat (first | exact (Kd.C_below HR0_1.out HB.out) | (with_reducible refine Kd.C_alloc ?_ _) | (with_reducible refine Kd.C_drewN ?_ _) | (with_reducible refine Kd.C_drew ?_))); (case side4 => exact HC0_1.out); rintro e w57 ⟨rfl, hb⟩; refine ⟨_, rfl, ?_⟩; have n0_ := zC.mk (blk_below (g := gb128) (o := .cells #[.slice (some ad131) l0_0.length c0_0, .slice A0_1 l0_1.length c0_1] 31 (0, 0)) (by (with_reducible repeat (first | refine zA ?_ _ | refine zD ?_ | refine zB ?_ _)); exact BK128.out) hb); have n1_ := zC.mk (blk_below (g := gb129) (o := .cells #[.int .i64 a3_0, .int .i64 a3_1, .int .u8 a3_2, .int .i64 a3_3, .int .i64 a3_4, .float .f64 a3_5] 35 (0, 0)) (by (with_reducible repeat (first | refine zA ?_ _ | refine zD ?_ | refine zB ?_ _)); exact BK129.out) hb); have n2_ := zC.mk (blk_below (g := gb130) (o := .cells #[.int .i64 0, .int .i64 0, .int .i64 0, .int .u8 0] 45 (0, 0)) (by (with_reducible repeat (first | refine zA ?_ _ | refine zD ?_ | refine zB ?_ _)); exact BK130.out) hb); have n3_ := zC.mk (blk_below (g := gb132) (o := .cells #[.int .i64 ((rd_T61 l0_0 (ji10)).f0), .int .i64 ((rd_T61 l0_0 (ji10)).f1), .int .i64 ((rd_T61 l0_0 (ji10)).f2), .int .u8 ((rd_T61 l0_0 (ji10)).f3)] 61 (0, 0)) (by (with_reducible repeat (first | refine zA ?_ _ | refine zD ?_ | refine zB ?_ _)); exact BK132.out) hb); have n4_ := zC.mk (below_step (by repeat (first | (with_reducible first | exact HB.out | apply zJ | apply zE | apply zI | refine zF ?_ GE128.out | refine zF ?_ GE129.out | refine zF ?_ GE130.out | refine zF ?_ GE132.out) | exact HB.out)) hb); clear BK128; clear BK129; clear BK130; clear BK132; clear HB; have BK128 := n0_; have BK129 := n1_; have BK130 := n2_; have BK132 := n3_; have HB := n4_; clear n0_ n1_ n2_ n3_ n4_; (try clear hb); (try clear hb2); (try clear hk); (try clear hi); have hcz58_0 : w57.cell? ⟨gb129, 0, none⟩ = some (.int .i64 a3_0) := (zH BK129.out 0).trans rfl; have hcz58_1 : w57.cell? ⟨gb129, 1, none⟩ = some (.int .i64 a3_1) := (zH BK129.out 1).trans rfl; have hcz58_2 : w57.cell? ⟨gb129, 2, none⟩ = some (.int .u8 a3_2) := (zH BK129.out 2).trans rfl; have hcz58_3 : w57.cell? ⟨gb129, 3, none⟩ = some (.int .i64 a3_3) := (zH BK129.out 3).trans rfl; have hcz58_4 : w57.cell? ⟨gb129, 4, none⟩ = some (.int .i64 a3_4) := (zH BK129.out 4).trans rfl; have hcz58_5 : w57.cell? ⟨gb129, 5, none⟩ = some (.float .f64 a3_5) := (zH BK129.out 5).trans rfl; have hfz58_0 := zG BK129.out 0; have hfz58_1 := zG BK129.out 1; have hfz58_2 := zG BK129.out 2; have hfz58_3 := zG BK129.out 3; have hfz58_4 := zG BK129.out 4; have hfz58_5 := zG BK129.out 5))
        go_roundg kj14
        case measure => have := HK1.out; have := HJ14.out; omega
        case rel => exact ⟨(x9_1), (x13_1), (t133), (x12_14), (wrap64 (x13_1 + 1)), (by first | rfl | (simp; done) | (simp [*]; done)), (by first | rfl | (simp; done) | (simp [*]; done)), (by first | rfl | (simp; done) | (simp [*]; done)), (by first | rfl | (simp; done) | (simp [*]; done)), (by first | rfl | (simp; done) | (simp [*]; done)), H', ⟨by have := HK1.out; have := HJ14.out; omega⟩, ⟨by (with_reducible repeat (first | refine zA ?_ _ | refine zD ?_ | refine zB ?_ _)); exact BK128.out⟩, ⟨by (with_reducible repeat (first | refine zA ?_ _ | refine zD ?_ | refine zB ?_ _)); exact BK129.out⟩, ⟨by (with_reducible repeat (first | refine zA ?_ _ | refine zD ?_ | refine zB ?_ _)); exact BK130.out⟩, ⟨by repeat (first | (with_reducible first | exact HB.out | apply zJ | apply zE | apply zI | refine zF ?_ GE128.out | refine zF ?_ GE129.out | refine zF ?_ GE130.out | refine zF ?_ GE132.out) | exact HB.out)⟩⟩
  clear HC5; try clear c1
  try clear p1
  try clear q1
  try clear hx1
  try clear c2
  try clear p2
  try clear c3
  try clear c4
  try clear c5
  try clear c6
  try clear p6
  try clear c7
  try clear c9
  try clear c9b0
  try clear c11
  try clear c11b0
  try clear c12
  try clear c12b0
  try clear p13
  try clear q13
  try clear hx13
  try clear c16
  try clear c17
  try clear c19
  try clear c20
  try clear c21
  try clear c22
  try clear c26
  try clear c29
  try clear c31
  try clear c31b0
  try clear c31b1
  try clear c32
  try clear c32b0
  try clear c33
  try clear c34
  try clear c35
  try clear c38
  try clear c39
  try clear c39b0
  try clear c39b1
  try clear c40
  try clear c40b0
  try clear c41
  try clear c42
  try clear c43
  try clear c45
  try clear c46
  try clear c50
  try clear c51
  try clear c52
  try clear c54
  try clear c55
  try clear c59
  try clear c60
  try clear c61
  try clear c63
  try clear c64
  try clear p64
  try clear c67
  try clear c68
  try clear c69
  try clear c71
  try clear c72
  try clear hcz18_0
  try clear hcz18_1
  try clear hcz23_0
  try clear hcz23_1
  try clear hcz23_2
  try clear hcz23_3
  try clear hcz25_0
  try clear hcz25_1
  try clear hcz25_2
  try clear hcz25_3
  try clear hcz27_0
  try clear hcz27_1
  try clear hcz27_2
  try clear hcz27_3
  try clear hcz27_4
  try clear hcz27_5
  try clear hcz29_0
  try clear hcz29_1
  try clear hcz36_0
  try clear hcz36_1
  try clear hcz36_2
  try clear hcz36_3
  try clear hcz36_4
  try clear hcz36_5
  try clear hcz44_0
  try clear hcz44_1
  try clear hcz44_2
  try clear hcz44_3
  try clear hcz44_4
  try clear hcz44_5
  try clear hcz47_0
  try clear hcz47_1
  try clear hcz49_0
  try clear hcz49_1
  try clear hcz49_2
  try clear hcz49_3
  try clear hcz49_4
  try clear hcz49_5
  try clear hcz53_0
  try clear hcz53_1
  try clear hcz53_2
  try clear hcz53_3
  try clear hcz53_4
  try clear hcz53_5
  try clear hcz56_0
  try clear hcz56_1
  try clear hcz58_0
  try clear hcz58_1
  try clear hcz58_2
  try clear hcz58_3
  try clear hcz58_4
  try clear hcz58_5
  try clear hcz62_0
  try clear hcz62_1
  try clear hcz62_2
  try clear hcz62_3
  try clear hcz62_4
  try clear hcz62_5
  try clear hcz65_0
  try clear hcz65_1
  try clear hcz70_0
  try clear hcz70_1
  try clear hcz70_2
  try clear hcz70_3
  try clear hcz70_4
  try clear hcz70_5
  try clear hcz73_0
  try clear hcz73_1
  try clear hfz18_0
  try clear hfz18_1
  try clear hfz23_0
  try clear hfz23_1
  try clear hfz23_2
  try clear hfz23_3
  try clear hfz25_0
  try clear hfz25_1
  try clear hfz25_2
  try clear hfz25_3
  try clear hfz27_0
  try clear hfz27_1
  try clear hfz27_2
  try clear hfz27_3
  try clear hfz27_4
  try clear hfz27_5
  try clear hfz29_0
  try clear hfz29_1
  try clear hfz36_0
  try clear hfz36_1
  try clear hfz36_2
  try clear hfz36_3
  try clear hfz36_4
  try clear hfz36_5
  try clear hfz44_0
  try clear hfz44_1
  try clear hfz44_2
  try clear hfz44_3
  try clear hfz44_4
  try clear hfz44_5
  try clear hfz47_0
  try clear hfz47_1
  try clear hfz49_0
  try clear hfz49_1
  try clear hfz49_2
  try clear hfz49_3
  try clear hfz49_4
  try clear hfz49_5
  try clear hfz53_0
  try clear hfz53_1
  try clear hfz53_2
  try clear hfz53_3
  try clear hfz53_4
  try clear hfz53_5
  try clear hfz56_0
  try clear hfz56_1
  try clear hfz58_0
  try clear hfz58_1
  try clear hfz58_2
  try clear hfz58_3
  try clear hfz58_4
  try clear hfz58_5
  try clear hfz62_0
  try clear hfz62_1
  try clear hfz62_2
  try clear hfz62_3
  try clear hfz62_4
  try clear hfz62_5
  try clear hfz65_0
  try clear hfz65_1
  try clear hfz70_0
  try clear hfz70_1
  try clear hfz70_2
  try clear hfz70_3
  try clear hfz70_4
  try clear hfz70_5
  try clear hfz73_0
  try clear hfz73_1
  try clear hx131_0
  try clear hx131_1
  try clear hx131_2
  try clear hx131_3
  try clear p1
  try clear p13
  try clear p131
  try clear p2
  try clear p6
  try clear q1
  try clear q13
  try clear q131
  obtain ⟨kq, x9_4, x10_4, rfl, rfl, HA, HJ4, BK128, BK129, BK130, HB⟩ := hcut; cases kq with
  | zero => exact absurd HA.out (by simp [first_one.j2])
  | succ kj4 =>
    have H := HA.out; clear HA; simp only [first_one.j2] at H; by_cases c75 : x9_4 ≥ 0
    · rw [if_pos c75] at H
      have c75b0 : decide (0 ≤ x9_4) = true := decide_eq_true c75
      clear c75; by_cases c76 : 0 ≤ x9_4
      rotate_left
      · rw [if_neg c76] at H
        exact absurd H (by simp)
      rw [if_pos c76] at H; have c76b0 : decide (0 ≤ x9_4) = true := decide_eq_true c76
      clear c76; by_cases c77 : x9_4 < (l0_1.length : Int)
      rotate_left
      · rw [if_neg c77] at H
        exact absurd H (by simp)
      rw [if_pos c77] at H; have c77b0 : decide (x9_4 < (l0_1.length : Int)) = true := decide_eq_true c77
      clear c77; replace H := Option.bind_eq_some_iff.mp H; obtain ⟨⟨t138, t139, t140, t141⟩, A780, H⟩ := H; replace H : (some (t138, t139, t140, t141)) = some (r1, r2, r3, r4) := H; have A78 := zC.mk A780; clear A780; simp only [Option.some.injEq, Prod.mk.injEq] at H; obtain ⟨rfl, rfl, rfl, rfl⟩ := H; try go_wp2
      have n0_ := zC.mk (zD BK128.out); have n1_ := zC.mk (zD BK129.out); have n2_ := zC.mk (zD BK130.out); have n3_ := zC.mk (zI HB.out); clear BK128; clear BK129; clear BK130; clear HB; have BK128 := n0_; have BK129 := n1_; have BK130 := n2_; have HB := n3_; clear n0_ n1_ n2_ n3_; have p137 : 0 ≤ (x9_4 : Int) := of_decide_eq_true (by first | (with_reducible assumption) | assumption)
      have q137 : x9_4 < (l0_1.length : Int) := of_decide_eq_true (by first | (with_reducible assumption) | assumption)
      obtain ⟨ad137, e137, hx137_0⟩ := Kd.at_int HR0_1.out x9_4 p137 q137; have hw137_0 := hx137_0; cases e137
      replace hx137_0 := (HB.out.cell (World.block_lt_of_cell? w _ hx137_0)).trans hx137_0; replace p137 := eq_true p137; replace q137 := eq_true q137; refine start_ (n := 12) (S := fun w' => w'.cell? ⟨gb128, 0, none⟩ = some (.slice A0_0 l0_0.length c0_0) ∧ w'.cell? ⟨gb128, 1, none⟩ = some (.slice (some ad137) l0_1.length c0_1) ∧ w'.cell? ⟨gb129, 0, none⟩ = some (.int .i64 a3_0) ∧ w'.cell? ⟨gb129, 1, none⟩ = some (.int .i64 a3_1) ∧ w'.cell? ⟨gb129, 2, none⟩ = some (.int .u8 a3_2) ∧ w'.cell? ⟨gb129, 3, none⟩ = some (.int .i64 a3_3) ∧ w'.cell? ⟨gb129, 4, none⟩ = some (.int .i64 a3_4) ∧ w'.cell? ⟨gb129, 5, none⟩ = some (.float .f64 a3_5) ∧ w'.cell? (ad137.add (x9_4).toNat) = some (.int .u8 (rd l0_1 x9_4))) (ds := []) #[false, false, false, false, false, false, false, false, false, false, false, false] (by kernel_rfl) rfl rfl ⟨(zH BK128.out 0).trans rfl, (zH BK128.out 1).trans rfl, (zH BK129.out 0).trans rfl, (zH BK129.out 1).trans rfl, (zH BK129.out 2).trans rfl, (zH BK129.out 3).trans rfl, (zH BK129.out 4).trans rfl, (zH BK129.out 5).trans rfl, ((HB.out.cell (World.block_lt_of_cell? w _ hw137_0)).trans hw137_0)⟩ (fun hHeld => ?_); refine with_tabW first_one.tab16 first_one.bits16 (fun HT_ HW_ => ?_)
      generalize wc.drew = w79 at BK128 BK129 BK130 HB hx137_0 hHeld ⊢
      refine pure_ (i := 1) (N := some 72) (v := ?_) (a' := ?_) #[false, true, false, false, false, false, false, false, false, false, false, false] rfl rfl (any_of HT_.out (by kernel_rfl)) (fun _ _ _ h => h) (Or.inl ⟨by rfl, ?_⟩) ?_ ?_
      rotate_left
      · intro w'
        go_simp
        with_reducible rfl
      rotate_left
      · simp only [Act.put, sA_, sB_, sC_, i64_w, i32_w]
        rfl
      refine pure_ (i := 2) (N := some 73) (v := ?_) (a' := ?_) #[false, true, true, false, false, false, false, false, false, false, false, false] rfl rfl (any_of HT_.out (by kernel_rfl)) (fun _ _ _ h => h) (Or.inl ⟨by rfl, ?_⟩) ?_ ?_
      rotate_left
      · intro w'
        go_simp
        with_reducible rfl
      rotate_left
      · simp only [Act.put, sA_, sB_, sC_, i64_w, i32_w]
        rfl
      refine pure_ (i := 3) (N := some 74) (v := ?_) (a' := ?_) #[false, true, true, true, false, false, false, false, false, false, false, false] rfl rfl (any_of HT_.out (by kernel_rfl)) (fun _ _ _ h => h) (Or.inl ⟨by rfl, ?_⟩) ?_ ?_
      rotate_left
      · intro w'
        go_simp
        with_reducible rfl
      rotate_left
      · simp only [Act.put, sA_, sB_, sC_, i64_w, i32_w]
        rfl
      refine pure_ (i := 5) (N := some 76) (v := ?_) (a' := ?_) #[false, true, true, true, false, true, false, false, false, false, false, false] rfl rfl (any_of HT_.out (by kernel_rfl)) (fun _ _ _ h => h) (Or.inl ⟨by rfl, ?_⟩) ?_ ?_
      rotate_left
      · intro w'
        go_simp
        with_reducible rfl
      rotate_left
      · simp only [Act.put, sA_, sB_, sC_, i64_w, i32_w]
        rfl
      refine pure_ (i := 8) (N := some 79) (v := ?_) (a' := ?_) #[false, true, true, true, false, true, false, false, true, false, false, false] rfl rfl (any_of HT_.out (by kernel_rfl)) (fun _ _ _ h => h) (Or.inl ⟨by rfl, ?_⟩) ?_ ?_
      rotate_left
      · intro w'
        go_simp
        with_reducible rfl
      rotate_left
      · simp only [Act.put, sA_, sB_, sC_, i64_w, i32_w]
        rfl
      refine take_ (i := 0) (N := some 71) (v := ?_) (a' := ?_) #[true, true, true, true, false, true, false, false, true, false, false, false] rfl rfl (take_ofW HT_.out HW_.out (by kernel_rfl)) (fun _ _ _ h => h) (Or.inl ⟨by rfl, ?_⟩) hHeld ?_ ?_
      rotate_left
      · rintro w' ⟨s0, s1, s2, s3, s4, s5, s6, s7, s8⟩
        go_simp
        with_reducible rfl
      rotate_left
      · simp only [Act.put, sA_, sB_, sC_, i64_w, i32_w]
        rfl
      refine take_ (i := 4) (N := some 75) (v := ?_) (a' := ?_) #[true, true, true, true, true, true, false, false, true, false, false, false] rfl rfl (take_ofW HT_.out HW_.out (by kernel_rfl)) (fun _ _ _ h => h) (Or.inl ⟨by rfl, ?_⟩) hHeld ?_ ?_
      rotate_left
      · rintro w' ⟨s0, s1, s2, s3, s4, s5, s6, s7, s8⟩
        go_simp
        with_reducible rfl
      rotate_left
      · simp only [Act.put, sA_, sB_, sC_, i64_w, i32_w]
        rfl
      refine pure_ (i := 6) (N := some 77) (v := ?_) (a' := ?_) #[true, true, true, true, true, true, true, false, true, false, false, false] rfl rfl (any_of HT_.out (by kernel_rfl)) (fun _ _ _ h => h) (Or.inl ⟨by rfl, ?_⟩) ?_ ?_
      rotate_left
      · intro w'
        go_simp
        with_reducible rfl
      rotate_left
      · simp only [Act.put, sA_, sB_, sC_, i64_w, i32_w]
        rfl
      refine take_ (i := 7) (N := some 78) (v := ?_) (a' := ?_) (tf_ 9 12) rfl rfl (take_ofW HT_.out HW_.out (by kernel_rfl)) (fun _ _ _ h => h) (Or.inl ⟨by rfl, ?_⟩) hHeld ?_ ?_
      rotate_left
      · rintro w' ⟨s0, s1, s2, s3, s4, s5, s6, s7, s8⟩
        go_simp
        with_reducible rfl
      rotate_left
      · simp only [Act.put, sA_, sB_, sC_, i64_w, i32_w]
        rfl
      refine take_ (i := 9) (N := some 80) (v := ?_) (a' := ?_) (tf_ 10 12) rfl rfl (take_ofW HT_.out HW_.out (by kernel_rfl)) (fun _ _ _ h => h) (Or.inl ⟨by rfl, ?_⟩) hHeld ?_ ?_
      rotate_left
      · rintro w' ⟨s0, s1, s2, s3, s4, s5, s6, s7, s8⟩
        go_simp
        with_reducible rfl
      rotate_left
      · simp only [Act.put, sA_, sB_, sC_, i64_w, i32_w]
        rfl
      refine one_ (i := 10) (N := some 81) #[true, true, true, true, true, true, true, true, true, true, true, false] rfl rfl (one_of HT_.out (by kernel_rfl)) (by decide) (fun K hK => ?_)
      refine goes_ Try.func42 (by kernel_rfl) rfl #[.agg #[.slice A0_0 l0_0.length c0_0, .slice (some ad137) l0_1.length c0_1], .int .i64 a1, .int .i64 x9_4, .int .u8 (rd l0_1 x9_4), .int .i64 a3_1] (by rfl) rfl rfl (by (try simp only [List.map_toArray, List.map_cons, List.map_nil]); first | done | rfl | (simp only [List.length_drop, List.length_take]; rfl)) ?_
      with_reducible refine (span_Make.calls kj4 _ _ l0_0 _ _ l0_1 a1 x9_4 (rd l0_1 x9_4) a3_1 t138 t139 t140 t141 _ ?side1 ?side2 ?side3 ?side4 A78.out).mono ?_
      (case side1 => repeat (first | exact (Kd.C_below HR0_0.out HB.out) | (with_reducible refine Kd.C_alloc ?_ _) | (with_reducible refine Kd.C_drewN ?_ _) | (with_reducible refine Kd.C_drew ?_)))
      (case side2 => exact HC0_0.out)
      (case side3 => repeat (first | exact (Kd.C_below HR0_1.out HB.out) | (with_reducible refine Kd.C_alloc ?_ _) | (with_reducible refine Kd.C_drewN ?_ _) | (with_reducible refine Kd.C_drew ?_)))
      (case side4 => exact HC0_1.out)
      rintro e w80 ⟨rfl, hb⟩
      refine ⟨_, rfl, ?_⟩
      have n0_ := zC.mk (blk_below (g := gb128) (o := .cells #[.slice A0_0 l0_0.length c0_0, .slice (some ad137) l0_1.length c0_1] 31 (0, 0)) (by (with_reducible repeat (first | refine zA ?_ _ | refine zD ?_ | refine zB ?_ _)); exact BK128.out) hb)
      have n1_ := zC.mk (blk_below (g := gb129) (o := .cells #[.int .i64 a3_0, .int .i64 a3_1, .int .u8 a3_2, .int .i64 a3_3, .int .i64 a3_4, .float .f64 a3_5] 35 (0, 0)) (by (with_reducible repeat (first | refine zA ?_ _ | refine zD ?_ | refine zB ?_ _)); exact BK129.out) hb)
      have n2_ := zC.mk (blk_below (g := gb130) (o := .cells #[.int .i64 0, .int .i64 0, .int .i64 0, .int .u8 0] 45 (0, 0)) (by (with_reducible repeat (first | refine zA ?_ _ | refine zD ?_ | refine zB ?_ _)); exact BK130.out) hb)
      have n3_ := zC.mk (below_step (by repeat (first | (with_reducible first | exact HB.out | apply zJ | apply zE | apply zI | refine zF ?_ GE128.out | refine zF ?_ GE129.out | refine zF ?_ GE130.out) | exact HB.out)) hb)
      clear BK128 BK129 BK130 HB; have BK128 := n0_; have BK129 := n1_; have BK130 := n2_; have HB := n3_; clear n0_ n1_ n2_ n3_; (try clear hb)
      (try clear hb2)
      (try clear hk)
      (try clear hi)
      refine hK.out _ _ ⟨(zH BK128.out 0).trans rfl, (zH BK128.out 1).trans rfl, (zH BK129.out 0).trans rfl, (zH BK129.out 1).trans rfl, (zH BK129.out 2).trans rfl, (zH BK129.out 3).trans rfl, (zH BK129.out 4).trans rfl, (zH BK129.out 5).trans rfl, ((HB.out.cell (World.block_lt_of_cell? w _ hw137_0)).trans hw137_0)⟩ (fun hHeld => ?_)
      clear hK K; refine norm_ (a' := ?_) ?_ ?_
      rotate_left
      · show Act.put _ (some 81) _ = _
        simp only [Act.put, sA_, sB_, sC_, i64_w, i32_w]; rfl
      refine one_ (i := 11) (N := none) #[true, true, true, true, true, true, true, true, true, true, true, true] rfl rfl (one_of HT_.out (by kernel_rfl)) (by decide) (fun K hK => ?_)
      have hs81 : w80.cell? ⟨gb130, 0, none⟩ = some (.int .i64 0) := (zH BK130.out 0).trans rfl
      have hfs81 := zG BK130.out 0; have hns81_0 := NB128_130.out; have hns81_1 := NB129_130.out; have hms81_0 := NB130_128.out; have hms81_1 := NB130_129.out; have hs82 : w80.cell? ⟨gb130, 1, none⟩ = some (.int .i64 0) := (zH BK130.out 1).trans rfl
      have hfs82 := zG BK130.out 1; have hns82_0 := NB128_130.out; have hns82_1 := NB129_130.out; have hms82_0 := NB130_128.out; have hms82_1 := NB130_129.out; have hs83 : w80.cell? ⟨gb130, 2, none⟩ = some (.int .i64 0) := (zH BK130.out 2).trans rfl
      have hfs83 := zG BK130.out 2; have hns83_0 := NB128_130.out; have hns83_1 := NB129_130.out; have hms83_0 := NB130_128.out; have hms83_1 := NB130_129.out; have hs84 : w80.cell? ⟨gb130, 3, none⟩ = some (.int .u8 0) := (zH BK130.out 3).trans rfl
      have hfs84 := zG BK130.out 3; have hns84_0 := NB128_130.out; have hns84_1 := NB129_130.out; have hms84_0 := NB130_128.out; have hms84_1 := NB130_129.out; refine skip_ (w1 := ?_) (by rfl) rfl ?_ ?_
      rotate_left
      · go_simp
        rfl
      refine hK.out _ _ ⟨((cell_far (p := ⟨gb130, _, none⟩) NB128_130.out _).trans (((cell_far (p := ⟨gb130, _, none⟩) NB128_130.out _).trans (((cell_far (p := ⟨gb130, _, none⟩) NB128_130.out _).trans (((cell_far (p := ⟨gb130, _, none⟩) NB128_130.out _).trans (hHeld.1)))))))), ((cell_far (p := ⟨gb130, _, none⟩) NB128_130.out _).trans (((cell_far (p := ⟨gb130, _, none⟩) NB128_130.out _).trans (((cell_far (p := ⟨gb130, _, none⟩) NB128_130.out _).trans (((cell_far (p := ⟨gb130, _, none⟩) NB128_130.out _).trans (hHeld.2.1)))))))), ((cell_far (p := ⟨gb130, _, none⟩) NB129_130.out _).trans (((cell_far (p := ⟨gb130, _, none⟩) NB129_130.out _).trans (((cell_far (p := ⟨gb130, _, none⟩) NB129_130.out _).trans (((cell_far (p := ⟨gb130, _, none⟩) NB129_130.out _).trans (hHeld.2.2.1)))))))), ((cell_far (p := ⟨gb130, _, none⟩) NB129_130.out _).trans (((cell_far (p := ⟨gb130, _, none⟩) NB129_130.out _).trans (((cell_far (p := ⟨gb130, _, none⟩) NB129_130.out _).trans (((cell_far (p := ⟨gb130, _, none⟩) NB129_130.out _).trans (hHeld.2.2.2.1)))))))), ((cell_far (p := ⟨gb130, _, none⟩) NB129_130.out _).trans (((cell_far (p := ⟨gb130, _, none⟩) NB129_130.out _).trans (((cell_far (p := ⟨gb130, _, none⟩) NB129_130.out _).trans (((cell_far (p := ⟨gb130, _, none⟩) NB129_130.out _).trans (hHeld.2.2.2.2.1)))))))), ((cell_far (p := ⟨gb130, _, none⟩) NB129_130.out _).trans (((cell_far (p := ⟨gb130, _, none⟩) NB129_130.out _).trans (((cell_far (p := ⟨gb130, _, none⟩) NB129_130.out _).trans (((cell_far (p := ⟨gb130, _, none⟩) NB129_130.out _).trans (hHeld.2.2.2.2.2.1)))))))), ((cell_far (p := ⟨gb130, _, none⟩) NB129_130.out _).trans (((cell_far (p := ⟨gb130, _, none⟩) NB129_130.out _).trans (((cell_far (p := ⟨gb130, _, none⟩) NB129_130.out _).trans (((cell_far (p := ⟨gb130, _, none⟩) NB129_130.out _).trans (hHeld.2.2.2.2.2.2.1)))))))), ((cell_far (p := ⟨gb130, _, none⟩) NB129_130.out _).trans (((cell_far (p := ⟨gb130, _, none⟩) NB129_130.out _).trans (((cell_far (p := ⟨gb130, _, none⟩) NB129_130.out _).trans (((cell_far (p := ⟨gb130, _, none⟩) NB129_130.out _).trans (hHeld.2.2.2.2.2.2.2.1)))))))), ((cell_far (p := ⟨gb130, _, none⟩) (by first | exact Nat.ne_of_lt (Nat.lt_of_lt_of_le (by have := World.block_lt_of_cell? _ _ hw137_0; first | rwa [add_block] at this | exact this) GW130.out) | (rw [add_block]; exact Nat.ne_of_lt (Nat.lt_of_lt_of_le (by have := World.block_lt_of_cell? _ _ hw137_0; first | rwa [add_block] at this | exact this) GW130.out)) | (show (Addr.add _ _).block ≠ _; rw [add_block]; exact Nat.ne_of_lt (Nat.lt_of_lt_of_le (by have := World.block_lt_of_cell? _ _ hw137_0; first | rwa [add_block] at this | exact this) GW130.out)) | (dsimp only; exact Nat.ne_of_lt (Nat.lt_of_lt_of_le (by have := World.block_lt_of_cell? _ _ hw137_0; first | rwa [add_block] at this | exact this) GW130.out))) _).trans (((cell_far (p := ⟨gb130, _, none⟩) (by first | exact Nat.ne_of_lt (Nat.lt_of_lt_of_le (by have := World.block_lt_of_cell? _ _ hw137_0; first | rwa [add_block] at this | exact this) GW130.out) | (rw [add_block]; exact Nat.ne_of_lt (Nat.lt_of_lt_of_le (by have := World.block_lt_of_cell? _ _ hw137_0; first | rwa [add_block] at this | exact this) GW130.out)) | (show (Addr.add _ _).block ≠ _; rw [add_block]; exact Nat.ne_of_lt (Nat.lt_of_lt_of_le (by have := World.block_lt_of_cell? _ _ hw137_0; first | rwa [add_block] at this | exact this) GW130.out)) | (dsimp only; exact Nat.ne_of_lt (Nat.lt_of_lt_of_le (by have := World.block_lt_of_cell? _ _ hw137_0; first | rwa [add_block] at this | exact this) GW130.out))) _).trans (((cell_far (p := ⟨gb130, _, none⟩) (by first | exact Nat.ne_of_lt (Nat.lt_of_lt_of_le (by have := World.block_lt_of_cell? _ _ hw137_0; first | rwa [add_block] at this | exact this) GW130.out) | (rw [add_block]; exact Nat.ne_of_lt (Nat.lt_of_lt_of_le (by have := World.block_lt_of_cell? _ _ hw137_0; first | rwa [add_block] at this | exact this) GW130.out)) | (show (Addr.add _ _).block ≠ _; rw [add_block]; exact Nat.ne_of_lt (Nat.lt_of_lt_of_le (by have := World.block_lt_of_cell? _ _ hw137_0; first | rwa [add_block] at this | exact this) GW130.out)) | (dsimp only; exact Nat.ne_of_lt (Nat.lt_of_lt_of_le (by have := World.block_lt_of_cell? _ _ hw137_0; first | rwa [add_block] at this | exact this) GW130.out))) _).trans (((cell_far (p := ⟨gb130, _, none⟩) (by first | exact Nat.ne_of_lt (Nat.lt_of_lt_of_le (by have := World.block_lt_of_cell? _ _ hw137_0; first | rwa [add_block] at this | exact this) GW130.out) | (rw [add_block]; exact Nat.ne_of_lt (Nat.lt_of_lt_of_le (by have := World.block_lt_of_cell? _ _ hw137_0; first | rwa [add_block] at this | exact this) GW130.out)) | (show (Addr.add _ _).block ≠ _; rw [add_block]; exact Nat.ne_of_lt (Nat.lt_of_lt_of_le (by have := World.block_lt_of_cell? _ _ hw137_0; first | rwa [add_block] at this | exact this) GW130.out)) | (dsimp only; exact Nat.ne_of_lt (Nat.lt_of_lt_of_le (by have := World.block_lt_of_cell? _ _ hw137_0; first | rwa [add_block] at this | exact this) GW130.out))) _).trans (hHeld.2.2.2.2.2.2.2.2))))))))⟩ (fun hHeld => ?_)
      clear hK K; refine done_ (done_of HT_.out (by kernel_rfl)) ?_
      try go_wp2
      refine bodyPost_ret (results_cell_row rfl _ _ gb130 45 #[.int .i64 t138, .int .i64 t139, .int .i64 t140, .int .u8 t141] (0, 0) _ rfl (by (with_reducible repeat (first | refine zA ?_ _ | refine zD ?_ | refine zB ?_ _)); refine blk_put (cs := #[.int .i64 t138, .int .i64 t139, .int .i64 t140, .int .u8 0]) ?_ 3 _ rfl; (with_reducible repeat (first | refine zA ?_ _ | refine zD ?_ | refine zB ?_ _)); refine blk_put (cs := #[.int .i64 t138, .int .i64 t139, .int .i64 0, .int .u8 0]) ?_ 2 _ rfl; (with_reducible repeat (first | refine zA ?_ _ | refine zD ?_ | refine zB ?_ _)); refine blk_put (cs := #[.int .i64 t138, .int .i64 0, .int .i64 0, .int .u8 0]) ?_ 1 _ rfl; (with_reducible repeat (first | refine zA ?_ _ | refine zD ?_ | refine zB ?_ _)); refine blk_put (cs := #[.int .i64 0, .int .i64 0, .int .i64 0, .int .u8 0]) ?_ 0 _ rfl; (with_reducible repeat (first | refine zA ?_ _ | refine zD ?_ | refine zB ?_ _)); exact BK130.out) Try.underlying45 rfl (by kernel_rfl)) rfl ?_
      exact ⟨by first | rfl | (simp [errW_none, errW_some] <;> rfl) | (simp [*, errW_none, errW_some] <;> rfl), by repeat (first | (with_reducible first | exact HB.out | apply zJ | apply zE | apply zI | refine zF ?_ GE128.out | refine zF ?_ GE129.out | refine zF ?_ GE130.out) | exact HB.out)⟩
    rw [if_neg c75] at H; have c75b0 : decide (0 ≤ x9_4) = false := decide_eq_false c75
    clear c75; by_cases c85 : x10_4 = a2
    rotate_left
    · rw [if_neg c85] at H
      have c85b0 : (x10_4 == a2) = false := beq_eq_false_iff_ne.mpr c85
      have c85b1 : (x10_4 != a2) = true := bne_iff_ne.mpr c85
      by_cases c119 : x10_4 < a2
      rotate_left
      · rw [if_neg c119] at H
        have c119b0 : decide (x10_4 < a2) = false := decide_eq_false c119
        clear c119; replace H := Option.bind_eq_some_iff.mp H; obtain ⟨⟨t165, t166, t167, t168⟩, A1410, H⟩ := H; replace H : (some (t165, t166, t167, t168)) = some (r1, r2, r3, r4) := H; have A141 := zC.mk A1410; clear A1410; simp only [Option.some.injEq, Prod.mk.injEq] at H; obtain ⟨rfl, rfl, rfl, rfl⟩ := H; have hnb142 := NB128_129.out; have hnc142 := NB129_128.out; have hnb143 := NB128_130.out; have hnc143 := NB130_128.out; have hcz144_0 : wc.cell? ⟨gb128, 0, none⟩ = some (.slice A0_0 l0_0.length c0_0) := (zH BK128.out 0).trans rfl
        have hcz144_1 : wc.cell? ⟨gb128, 1, none⟩ = some (.slice A0_1 l0_1.length c0_1) := (zH BK128.out 1).trans rfl
        have hfz144_0 := zG BK128.out 0; have hfz144_1 := zG BK128.out 1; have hnb145 := NB129_130.out; have hnc145 := NB130_129.out; have hcz146_0 : wc.cell? ⟨gb129, 0, none⟩ = some (.int .i64 a3_0) := (zH BK129.out 0).trans rfl
        have hcz146_1 : wc.cell? ⟨gb129, 1, none⟩ = some (.int .i64 a3_1) := (zH BK129.out 1).trans rfl
        have hcz146_2 : wc.cell? ⟨gb129, 2, none⟩ = some (.int .u8 a3_2) := (zH BK129.out 2).trans rfl
        have hcz146_3 : wc.cell? ⟨gb129, 3, none⟩ = some (.int .i64 a3_3) := (zH BK129.out 3).trans rfl
        have hcz146_4 : wc.cell? ⟨gb129, 4, none⟩ = some (.int .i64 a3_4) := (zH BK129.out 4).trans rfl
        have hcz146_5 : wc.cell? ⟨gb129, 5, none⟩ = some (.float .f64 a3_5) := (zH BK129.out 5).trans rfl
        have hfz146_0 := zG BK129.out 0; have hfz146_1 := zG BK129.out 1; have hfz146_2 := zG BK129.out 2; have hfz146_3 := zG BK129.out 3; have hfz146_4 := zG BK129.out 4; have hfz146_5 := zG BK129.out 5; go_wp2_with (first | ((with_reducible refine gate_callee (f := 42) rfl ?_); refine goesL_ (some 107) rfl rfl Try.func42 (by kernel_rfl) rfl #[.agg #[.slice A0_0 l0_0.length c0_0, .slice A0_1 l0_1.length c0_1], .int .i64 a1, .int .i64 x10_4, .int .u8 4, .int .i64 a3_1] rfl (by (try simp only [List.map_toArray, List.map_cons, List.map_nil]); first | done | rfl | (simp only [List.length_drop, List.length_take]; rfl)) ?_; (with_reducible refine (span_Make.calls kj4 _ _ l0_0 _ _ l0_1 a1 x10_4 4 a3_1 t165 t166 t167 t168 _ ?side1 ?side2 ?side3 ?side4 A141.out).mono ?_); (case side1 => repeat (first | exact (Kd.C_below HR0_0.out HB.out) | (with_reducible refine Kd.C_alloc ?_ _) | (with_reducible refine Kd.C_drewN ?_ _) | (with_reducible refine Kd.C_drew ?_))); (case side2 => exact HC0_0.out); (case side3 => repeat (first | exact (Kd.C_below HR0_1.out HB.out) | (with_reducible refine Kd.C_alloc ?_ _) | (with_reducible refine Kd.C_drewN ?_ _) | (with_reducible refine Kd.C_drew ?_))); (case side4 => exact HC0_1.out); rintro e w147 ⟨rfl, hb⟩; refine ⟨_, rfl, ?_⟩; have n0_ := zC.mk (blk_below (g := gb128) (o := .cells #[.slice A0_0 l0_0.length c0_0, .slice A0_1 l0_1.length c0_1] 31 (0, 0)) (by (with_reducible repeat (first | refine zA ?_ _ | refine zD ?_ | refine zB ?_ _)); exact BK128.out) hb); have n1_ := zC.mk (blk_below (g := gb129) (o := .cells #[.int .i64 a3_0, .int .i64 a3_1, .int .u8 a3_2, .int .i64 a3_3, .int .i64 a3_4, .float .f64 a3_5] 35 (0, 0)) (by (with_reducible repeat (first | refine zA ?_ _ | refine zD ?_ | refine zB ?_ _)); exact BK129.out) hb); have n2_ := zC.mk (blk_below (g := gb130) (o := .cells #[.int .i64 0, .int .i64 0, .int .i64 0, .int .u8 0] 45 (0, 0)) (by (with_reducible repeat (first | refine zA ?_ _ | refine zD ?_ | refine zB ?_ _)); exact BK130.out) hb); have n3_ := zC.mk (below_step (by repeat (first | (with_reducible first | exact HB.out | apply zJ | apply zE | apply zI | refine zF ?_ GE128.out | refine zF ?_ GE129.out | refine zF ?_ GE130.out) | exact HB.out)) hb); clear BK128; clear BK129; clear BK130; clear HB; have BK128 := n0_; have BK129 := n1_; have BK130 := n2_; have HB := n3_; clear n0_ n1_ n2_ n3_; (try clear hb); (try clear hb2); (try clear hk); (try clear hi); have hcz148_0 : w147.cell? ⟨gb130, 0, none⟩ = some (.int .i64 0) := (zH BK130.out 0).trans rfl; have hcz148_1 : w147.cell? ⟨gb130, 1, none⟩ = some (.int .i64 0) := (zH BK130.out 1).trans rfl; have hcz148_2 : w147.cell? ⟨gb130, 2, none⟩ = some (.int .i64 0) := (zH BK130.out 2).trans rfl; have hcz148_3 : w147.cell? ⟨gb130, 3, none⟩ = some (.int .u8 0) := (zH BK130.out 3).trans rfl; have hfz148_0 := zG BK130.out 0; have hfz148_1 := zG BK130.out 1; have hfz148_2 := zG BK130.out 2; have hfz148_3 := zG BK130.out 3) | ((with_reducible refine gate_store (t := 45) (p := 8) rfl ?_); refine store_event (t := 45) (p := 8) (v := ?vo_w149) (w1 := ((((w147.setCell ⟨gb130, 0, none⟩ (.int .i64 t165)).setCell ⟨gb130, 1, none⟩ (.int .i64 t166)).setCell ⟨gb130, 2, none⟩ (.int .i64 t167)).setCell ⟨gb130, 3, none⟩ (.int .u8 t168))) ?hg ?ho ?hn ?hr ?_; (case ho => rfl); (case hg => rfl); (case hn => rfl); (case hr => first | (go_simp; done) | (go_simp; rfl)); intro w149 hw; have n0_ : zC (w149.heap[gb128]? = some (.cells #[.slice A0_0 l0_0.length c0_0, .slice A0_1 l0_1.length c0_1] 31 (0, 0))) := ⟨(by rw [hw]; exact (by (with_reducible repeat (first | refine zA ?_ _ | refine zD ?_ | refine zB ?_ _)); refine blk_far ?_ NB128_130.out _; (with_reducible repeat (first | refine zA ?_ _ | refine zD ?_ | refine zB ?_ _)); refine blk_far ?_ NB128_130.out _; (with_reducible repeat (first | refine zA ?_ _ | refine zD ?_ | refine zB ?_ _)); refine blk_far ?_ NB128_130.out _; (with_reducible repeat (first | refine zA ?_ _ | refine zD ?_ | refine zB ?_ _)); refine blk_far ?_ NB128_130.out _; (with_reducible repeat (first | refine zA ?_ _ | refine zD ?_ | refine zB ?_ _)); exact BK128.out))⟩; have n1_ : zC (w149.heap[gb129]? = some (.cells #[.int .i64 a3_0, .int .i64 a3_1, .int .u8 a3_2, .int .i64 a3_3, .int .i64 a3_4, .float .f64 a3_5] 35 (0, 0))) := ⟨(by rw [hw]; exact (by (with_reducible repeat (first | refine zA ?_ _ | refine zD ?_ | refine zB ?_ _)); refine blk_far ?_ NB129_130.out _; (with_reducible repeat (first | refine zA ?_ _ | refine zD ?_ | refine zB ?_ _)); refine blk_far ?_ NB129_130.out _; (with_reducible repeat (first | refine zA ?_ _ | refine zD ?_ | refine zB ?_ _)); refine blk_far ?_ NB129_130.out _; (with_reducible repeat (first | refine zA ?_ _ | refine zD ?_ | refine zB ?_ _)); refine blk_far ?_ NB129_130.out _; (with_reducible repeat (first | refine zA ?_ _ | refine zD ?_ | refine zB ?_ _)); exact BK129.out))⟩; have n2_ : zC (w149.heap[gb130]? = some (.cells #[.int .i64 t165, .int .i64 t166, .int .i64 t167, .int .u8 t168] 45 (0, 0))) := ⟨(by rw [hw]; exact (by (with_reducible repeat (first | refine zA ?_ _ | refine zD ?_ | refine zB ?_ _)); refine blk_put (cs := #[.int .i64 t165, .int .i64 t166, .int .i64 t167, .int .u8 0]) ?_ 3 _ rfl; (with_reducible repeat (first | refine zA ?_ _ | refine zD ?_ | refine zB ?_ _)); refine blk_put (cs := #[.int .i64 t165, .int .i64 t166, .int .i64 0, .int .u8 0]) ?_ 2 _ rfl; (with_reducible repeat (first | refine zA ?_ _ | refine zD ?_ | refine zB ?_ _)); refine blk_put (cs := #[.int .i64 t165, .int .i64 0, .int .i64 0, .int .u8 0]) ?_ 1 _ rfl; (with_reducible repeat (first | refine zA ?_ _ | refine zD ?_ | refine zB ?_ _)); refine blk_put (cs := #[.int .i64 0, .int .i64 0, .int .i64 0, .int .u8 0]) ?_ 0 _ rfl; (with_reducible repeat (first | refine zA ?_ _ | refine zD ?_ | refine zB ?_ _)); exact BK130.out))⟩; have n3_ : zC (Below w.heap.size w w149) := ⟨(by rw [hw]; exact (by repeat (first | (with_reducible first | exact HB.out | apply zJ | apply zE | apply zI | refine zF ?_ GE128.out | refine zF ?_ GE129.out | refine zF ?_ GE130.out) | exact HB.out)))⟩; clear hw; clear BK128; clear BK129; clear BK130; clear HB; have BK128 := n0_; have BK129 := n1_; have BK130 := n2_; have HB := n3_; clear n0_ n1_ n2_ n3_))
        refine bodyPost_ret (results_cell_row rfl _ _ gb130 45 #[.int .i64 t165, .int .i64 t166, .int .i64 t167, .int .u8 t168] (0, 0) _ rfl (by (with_reducible repeat (first | refine zA ?_ _ | refine zD ?_ | refine zB ?_ _)); exact BK130.out) Try.underlying45 rfl (by kernel_rfl)) rfl ?_
        exact ⟨by first | rfl | (simp [errW_none, errW_some] <;> rfl) | (simp [*, errW_none, errW_some] <;> rfl), by repeat (first | (with_reducible first | exact HB.out | apply zJ | apply zE | apply zI | refine zF ?_ GE128.out | refine zF ?_ GE129.out | refine zF ?_ GE130.out) | exact HB.out)⟩
      rw [if_pos c119] at H; have c119b0 : decide (x10_4 < a2) = true := decide_eq_true c119
      clear c119; by_cases c120 : 0 ≤ x10_4
      rotate_left
      · rw [if_neg c120] at H
        exact absurd H (by simp)
      rw [if_pos c120] at H; have c120b0 : decide (0 ≤ x10_4) = true := decide_eq_true c120
      clear c120; by_cases c121 : x10_4 < (l0_1.length : Int)
      rotate_left
      · rw [if_neg c121] at H
        exact absurd H (by simp)
      rw [if_pos c121] at H; have c121b0 : decide (x10_4 < (l0_1.length : Int)) = true := decide_eq_true c121
      clear c121; by_cases c122 : (rd l0_1 x10_4) = 1
      · rw [if_pos c122] at H
        have c122b0 : ((rd l0_1 x10_4) == 1) = true := beq_iff_eq.mpr c122
        have c122b1 : ((rd l0_1 x10_4) != 1) = false := bne_eq_false_iff_eq.mpr c122
        clear c122; replace H := Option.bind_eq_some_iff.mp H; obtain ⟨⟨t157, t158, t159, t160⟩, A1230, H⟩ := H; replace H : (some (t157, t158, t159, t160)) = some (r1, r2, r3, r4) := H; have A123 := zC.mk A1230; clear A1230; simp only [Option.some.injEq, Prod.mk.injEq] at H; obtain ⟨rfl, rfl, rfl, rfl⟩ := H; have hnb124 := NB128_129.out; have hnc124 := NB129_128.out; have hnb125 := NB128_130.out; have hnc125 := NB130_128.out; have hcz126_0 : wc.cell? ⟨gb128, 0, none⟩ = some (.slice A0_0 l0_0.length c0_0) := (zH BK128.out 0).trans rfl
        have hcz126_1 : wc.cell? ⟨gb128, 1, none⟩ = some (.slice A0_1 l0_1.length c0_1) := (zH BK128.out 1).trans rfl
        have hfz126_0 := zG BK128.out 0; have hfz126_1 := zG BK128.out 1; have p156 : 0 ≤ (x10_4 : Int) := of_decide_eq_true (by first | (with_reducible assumption) | assumption)
        have q156 : x10_4 < (l0_1.length : Int) := of_decide_eq_true (by first | (with_reducible assumption) | assumption)
        obtain ⟨ad156, e156, hx156_0⟩ := Kd.at_int HR0_1.out x10_4 p156 q156; cases e156
        replace hx156_0 := (HB.out.cell (World.block_lt_of_cell? w _ hx156_0)).trans hx156_0; replace p156 := eq_true p156; replace q156 := eq_true q156; have hnb127 := NB129_130.out; have hnc127 := NB130_129.out; have hcz128_0 : wc.cell? ⟨gb129, 0, none⟩ = some (.int .i64 a3_0) := (zH BK129.out 0).trans rfl
        have hcz128_1 : wc.cell? ⟨gb129, 1, none⟩ = some (.int .i64 a3_1) := (zH BK129.out 1).trans rfl
        have hcz128_2 : wc.cell? ⟨gb129, 2, none⟩ = some (.int .u8 a3_2) := (zH BK129.out 2).trans rfl
        have hcz128_3 : wc.cell? ⟨gb129, 3, none⟩ = some (.int .i64 a3_3) := (zH BK129.out 3).trans rfl
        have hcz128_4 : wc.cell? ⟨gb129, 4, none⟩ = some (.int .i64 a3_4) := (zH BK129.out 4).trans rfl
        have hcz128_5 : wc.cell? ⟨gb129, 5, none⟩ = some (.float .f64 a3_5) := (zH BK129.out 5).trans rfl
        have hfz128_0 := zG BK129.out 0; have hfz128_1 := zG BK129.out 1; have hfz128_2 := zG BK129.out 2; have hfz128_3 := zG BK129.out 3; have hfz128_4 := zG BK129.out 4; have hfz128_5 := zG BK129.out 5; go_wp2_with (first | ((with_reducible refine gate_callee (f := 42) rfl ?_); refine goesL_ (some 107) rfl rfl Try.func42 (by kernel_rfl) rfl #[.agg #[.slice A0_0 l0_0.length c0_0, .slice (some ad156) l0_1.length c0_1], .int .i64 a1, .int .i64 x10_4, .int .u8 1, .int .i64 a3_1] rfl (by (try simp only [List.map_toArray, List.map_cons, List.map_nil]); first | done | rfl | (simp only [List.length_drop, List.length_take]; rfl)) ?_; (with_reducible refine (span_Make.calls kj4 _ _ l0_0 _ _ l0_1 a1 x10_4 1 a3_1 t157 t158 t159 t160 _ ?side1 ?side2 ?side3 ?side4 A123.out).mono ?_); (case side1 => repeat (first | exact (Kd.C_below HR0_0.out HB.out) | (with_reducible refine Kd.C_alloc ?_ _) | (with_reducible refine Kd.C_drewN ?_ _) | (with_reducible refine Kd.C_drew ?_))); (case side2 => exact HC0_0.out); (case side3 => repeat (first | exact (Kd.C_below HR0_1.out HB.out) | (with_reducible refine Kd.C_alloc ?_ _) | (with_reducible refine Kd.C_drewN ?_ _) | (with_reducible refine Kd.C_drew ?_))); (case side4 => exact HC0_1.out); rintro e w129 ⟨rfl, hb⟩; refine ⟨_, rfl, ?_⟩; have n0_ := zC.mk (blk_below (g := gb128) (o := .cells #[.slice A0_0 l0_0.length c0_0, .slice (some ad156) l0_1.length c0_1] 31 (0, 0)) (by (with_reducible repeat (first | refine zA ?_ _ | refine zD ?_ | refine zB ?_ _)); exact BK128.out) hb); have n1_ := zC.mk (blk_below (g := gb129) (o := .cells #[.int .i64 a3_0, .int .i64 a3_1, .int .u8 a3_2, .int .i64 a3_3, .int .i64 a3_4, .float .f64 a3_5] 35 (0, 0)) (by (with_reducible repeat (first | refine zA ?_ _ | refine zD ?_ | refine zB ?_ _)); exact BK129.out) hb); have n2_ := zC.mk (blk_below (g := gb130) (o := .cells #[.int .i64 0, .int .i64 0, .int .i64 0, .int .u8 0] 45 (0, 0)) (by (with_reducible repeat (first | refine zA ?_ _ | refine zD ?_ | refine zB ?_ _)); exact BK130.out) hb); have n3_ := zC.mk (below_step (by repeat (first | (with_reducible first | exact HB.out | apply zJ | apply zE | apply zI | refine zF ?_ GE128.out | refine zF ?_ GE129.out | refine zF ?_ GE130.out) | exact HB.out)) hb); clear BK128; clear BK129; clear BK130; clear HB; have BK128 := n0_; have BK129 := n1_; have BK130 := n2_; have HB := n3_; clear n0_ n1_ n2_ n3_; (try clear hb); (try clear hb2); (try clear hk); (try clear hi); have hcz130_0 : w129.cell? ⟨gb130, 0, none⟩ = some (.int .i64 0) := (zH BK130.out 0).trans rfl; have hcz130_1 : w129.cell? ⟨gb130, 1, none⟩ = some (.int .i64 0) := (zH BK130.out 1).trans rfl; have hcz130_2 : w129.cell? ⟨gb130, 2, none⟩ = some (.int .i64 0) := (zH BK130.out 2).trans rfl; have hcz130_3 : w129.cell? ⟨gb130, 3, none⟩ = some (.int .u8 0) := (zH BK130.out 3).trans rfl; have hfz130_0 := zG BK130.out 0; have hfz130_1 := zG BK130.out 1; have hfz130_2 := zG BK130.out 2; have hfz130_3 := zG BK130.out 3) | ((with_reducible refine gate_store (t := 45) (p := 8) rfl ?_); refine store_event (t := 45) (p := 8) (v := ?vo_w131) (w1 := ((((w129.setCell ⟨gb130, 0, none⟩ (.int .i64 t157)).setCell ⟨gb130, 1, none⟩ (.int .i64 t158)).setCell ⟨gb130, 2, none⟩ (.int .i64 t159)).setCell ⟨gb130, 3, none⟩ (.int .u8 t160))) ?hg ?ho ?hn ?hr ?_; (case ho => rfl); (case hg => rfl); (case hn => rfl); (case hr => first | (go_simp; done) | (go_simp; rfl)); intro w131 hw; have n0_ : zC (w131.heap[gb128]? = some (.cells #[.slice A0_0 l0_0.length c0_0, .slice (some ad156) l0_1.length c0_1] 31 (0, 0))) := ⟨(by rw [hw]; exact (by (with_reducible repeat (first | refine zA ?_ _ | refine zD ?_ | refine zB ?_ _)); refine blk_far ?_ NB128_130.out _; (with_reducible repeat (first | refine zA ?_ _ | refine zD ?_ | refine zB ?_ _)); refine blk_far ?_ NB128_130.out _; (with_reducible repeat (first | refine zA ?_ _ | refine zD ?_ | refine zB ?_ _)); refine blk_far ?_ NB128_130.out _; (with_reducible repeat (first | refine zA ?_ _ | refine zD ?_ | refine zB ?_ _)); refine blk_far ?_ NB128_130.out _; (with_reducible repeat (first | refine zA ?_ _ | refine zD ?_ | refine zB ?_ _)); exact BK128.out))⟩; have n1_ : zC (w131.heap[gb129]? = some (.cells #[.int .i64 a3_0, .int .i64 a3_1, .int .u8 a3_2, .int .i64 a3_3, .int .i64 a3_4, .float .f64 a3_5] 35 (0, 0))) := ⟨(by rw [hw]; exact (by (with_reducible repeat (first | refine zA ?_ _ | refine zD ?_ | refine zB ?_ _)); refine blk_far ?_ NB129_130.out _; (with_reducible repeat (first | refine zA ?_ _ | refine zD ?_ | refine zB ?_ _)); refine blk_far ?_ NB129_130.out _; (with_reducible repeat (first | refine zA ?_ _ | refine zD ?_ | refine zB ?_ _)); refine blk_far ?_ NB129_130.out _; (with_reducible repeat (first | refine zA ?_ _ | refine zD ?_ | refine zB ?_ _)); refine blk_far ?_ NB129_130.out _; (with_reducible repeat (first | refine zA ?_ _ | refine zD ?_ | refine zB ?_ _)); exact BK129.out))⟩; have n2_ : zC (w131.heap[gb130]? = some (.cells #[.int .i64 t157, .int .i64 t158, .int .i64 t159, .int .u8 t160] 45 (0, 0))) := ⟨(by rw [hw]; exact (by (with_reducible repeat (first | refine zA ?_ _ | refine zD ?_ | refine zB ?_ _)); refine blk_put (cs := #[.int .i64 t157, .int .i64 t158, .int .i64 t159, .int .u8 0]) ?_ 3 _ rfl; (with_reducible repeat (first | refine zA ?_ _ | refine zD ?_ | refine zB ?_ _)); refine blk_put (cs := #[.int .i64 t157, .int .i64 t158, .int .i64 0, .int .u8 0]) ?_ 2 _ rfl; (with_reducible repeat (first | refine zA ?_ _ | refine zD ?_ | refine zB ?_ _)); refine blk_put (cs := #[.int .i64 t157, .int .i64 0, .int .i64 0, .int .u8 0]) ?_ 1 _ rfl; (with_reducible repeat (first | refine zA ?_ _ | refine zD ?_ | refine zB ?_ _)); refine blk_put (cs := #[.int .i64 0, .int .i64 0, .int .i64 0, .int .u8 0]) ?_ 0 _ rfl; (with_reducible repeat (first | refine zA ?_ _ | refine zD ?_ | refine zB ?_ _)); exact BK130.out))⟩; have n3_ : zC (Below w.heap.size w w131) := ⟨(by rw [hw]; exact (by repeat (first | (with_reducible first | exact HB.out | apply zJ | apply zE | apply zI | refine zF ?_ GE128.out | refine zF ?_ GE129.out | refine zF ?_ GE130.out) | exact HB.out)))⟩; clear hw; clear BK128; clear BK129; clear BK130; clear HB; have BK128 := n0_; have BK129 := n1_; have BK130 := n2_; have HB := n3_; clear n0_ n1_ n2_ n3_))
        refine bodyPost_ret (results_cell_row rfl _ _ gb130 45 #[.int .i64 t157, .int .i64 t158, .int .i64 t159, .int .u8 t160] (0, 0) _ rfl (by (with_reducible repeat (first | refine zA ?_ _ | refine zD ?_ | refine zB ?_ _)); exact BK130.out) Try.underlying45 rfl (by kernel_rfl)) rfl ?_
        exact ⟨by first | rfl | (simp [errW_none, errW_some] <;> rfl) | (simp [*, errW_none, errW_some] <;> rfl), by repeat (first | (with_reducible first | exact HB.out | apply zJ | apply zE | apply zI | refine zF ?_ GE128.out | refine zF ?_ GE129.out | refine zF ?_ GE130.out) | exact HB.out)⟩
      rw [if_neg c122] at H; have c122b0 : ((rd l0_1 x10_4) == 1) = false := beq_eq_false_iff_ne.mpr c122
      have c122b1 : ((rd l0_1 x10_4) != 1) = true := bne_iff_ne.mpr c122
      replace H := Option.bind_eq_some_iff.mp H; obtain ⟨⟨t161, t162, t163, t164⟩, A1320, H⟩ := H; replace H : (some (t161, t162, t163, t164)) = some (r1, r2, r3, r4) := H; have A132 := zC.mk A1320; clear A1320; simp only [Option.some.injEq, Prod.mk.injEq] at H; obtain ⟨rfl, rfl, rfl, rfl⟩ := H; have hnb133 := NB128_129.out; have hnc133 := NB129_128.out; have hnb134 := NB128_130.out; have hnc134 := NB130_128.out; have hcz135_0 : wc.cell? ⟨gb128, 0, none⟩ = some (.slice A0_0 l0_0.length c0_0) := (zH BK128.out 0).trans rfl
      have hcz135_1 : wc.cell? ⟨gb128, 1, none⟩ = some (.slice A0_1 l0_1.length c0_1) := (zH BK128.out 1).trans rfl
      have hfz135_0 := zG BK128.out 0; have hfz135_1 := zG BK128.out 1; have p156 : 0 ≤ (x10_4 : Int) := of_decide_eq_true (by first | (with_reducible assumption) | assumption)
      have q156 : x10_4 < (l0_1.length : Int) := of_decide_eq_true (by first | (with_reducible assumption) | assumption)
      obtain ⟨ad156, e156, hx156_0⟩ := Kd.at_int HR0_1.out x10_4 p156 q156; cases e156
      replace hx156_0 := (HB.out.cell (World.block_lt_of_cell? w _ hx156_0)).trans hx156_0; replace p156 := eq_true p156; replace q156 := eq_true q156; have hnb136 := NB129_130.out; have hnc136 := NB130_129.out; have hcz137_0 : wc.cell? ⟨gb129, 0, none⟩ = some (.int .i64 a3_0) := (zH BK129.out 0).trans rfl
      have hcz137_1 : wc.cell? ⟨gb129, 1, none⟩ = some (.int .i64 a3_1) := (zH BK129.out 1).trans rfl
      have hcz137_2 : wc.cell? ⟨gb129, 2, none⟩ = some (.int .u8 a3_2) := (zH BK129.out 2).trans rfl
      have hcz137_3 : wc.cell? ⟨gb129, 3, none⟩ = some (.int .i64 a3_3) := (zH BK129.out 3).trans rfl
      have hcz137_4 : wc.cell? ⟨gb129, 4, none⟩ = some (.int .i64 a3_4) := (zH BK129.out 4).trans rfl
      have hcz137_5 : wc.cell? ⟨gb129, 5, none⟩ = some (.float .f64 a3_5) := (zH BK129.out 5).trans rfl
      have hfz137_0 := zG BK129.out 0; have hfz137_1 := zG BK129.out 1; have hfz137_2 := zG BK129.out 2; have hfz137_3 := zG BK129.out 3; have hfz137_4 := zG BK129.out 4; have hfz137_5 := zG BK129.out 5; go_wp2_with (first | ((with_reducible refine gate_callee (f := 42) rfl ?_); refine goesL_ (some 107) rfl rfl Try.func42 (by kernel_rfl) rfl #[.agg #[.slice A0_0 l0_0.length c0_0, .slice (some ad156) l0_1.length c0_1], .int .i64 a1, .int .i64 x10_4, .int .u8 4, .int .i64 a3_1] rfl (by (try simp only [List.map_toArray, List.map_cons, List.map_nil]); first | done | rfl | (simp only [List.length_drop, List.length_take]; rfl)) ?_; (with_reducible refine (span_Make.calls kj4 _ _ l0_0 _ _ l0_1 a1 x10_4 4 a3_1 t161 t162 t163 t164 _ ?side1 ?side2 ?side3 ?side4 A132.out).mono ?_); (case side1 => repeat (first | exact (Kd.C_below HR0_0.out HB.out) | (with_reducible refine Kd.C_alloc ?_ _) | (with_reducible refine Kd.C_drewN ?_ _) | (with_reducible refine Kd.C_drew ?_))); (case side2 => exact HC0_0.out); (case side3 => repeat (first | exact (Kd.C_below HR0_1.out HB.out) | (with_reducible refine Kd.C_alloc ?_ _) | (with_reducible refine Kd.C_drewN ?_ _) | (with_reducible refine Kd.C_drew ?_))); (case side4 => exact HC0_1.out); rintro e w138 ⟨rfl, hb⟩; refine ⟨_, rfl, ?_⟩; have n0_ := zC.mk (blk_below (g := gb128) (o := .cells #[.slice A0_0 l0_0.length c0_0, .slice (some ad156) l0_1.length c0_1] 31 (0, 0)) (by (with_reducible repeat (first | refine zA ?_ _ | refine zD ?_ | refine zB ?_ _)); exact BK128.out) hb); have n1_ := zC.mk (blk_below (g := gb129) (o := .cells #[.int .i64 a3_0, .int .i64 a3_1, .int .u8 a3_2, .int .i64 a3_3, .int .i64 a3_4, .float .f64 a3_5] 35 (0, 0)) (by (with_reducible repeat (first | refine zA ?_ _ | refine zD ?_ | refine zB ?_ _)); exact BK129.out) hb); have n2_ := zC.mk (blk_below (g := gb130) (o := .cells #[.int .i64 0, .int .i64 0, .int .i64 0, .int .u8 0] 45 (0, 0)) (by (with_reducible repeat (first | refine zA ?_ _ | refine zD ?_ | refine zB ?_ _)); exact BK130.out) hb); have n3_ := zC.mk (below_step (by repeat (first | (with_reducible first | exact HB.out | apply zJ | apply zE | apply zI | refine zF ?_ GE128.out | refine zF ?_ GE129.out | refine zF ?_ GE130.out) | exact HB.out)) hb); clear BK128; clear BK129; clear BK130; clear HB; have BK128 := n0_; have BK129 := n1_; have BK130 := n2_; have HB := n3_; clear n0_ n1_ n2_ n3_; (try clear hb); (try clear hb2); (try clear hk); (try clear hi); have hcz139_0 : w138.cell? ⟨gb130, 0, none⟩ = some (.int .i64 0) := (zH BK130.out 0).trans rfl; have hcz139_1 : w138.cell? ⟨gb130, 1, none⟩ = some (.int .i64 0) := (zH BK130.out 1).trans rfl; have hcz139_2 : w138.cell? ⟨gb130, 2, none⟩ = some (.int .i64 0) := (zH BK130.out 2).trans rfl; have hcz139_3 : w138.cell? ⟨gb130, 3, none⟩ = some (.int .u8 0) := (zH BK130.out 3).trans rfl; have hfz139_0 := zG BK130.out 0; have hfz139_1 := zG BK130.out 1; have hfz139_2 := zG BK130.out 2; have hfz139_3 := zG BK130.out 3) | ((with_reducible refine gate_store (t := 45) (p := 8) rfl ?_); refine store_event (t := 45) (p := 8) (v := ?vo_w140) (w1 := ((((w138.setCell ⟨gb130, 0, none⟩ (.int .i64 t161)).setCell ⟨gb130, 1, none⟩ (.int .i64 t162)).setCell ⟨gb130, 2, none⟩ (.int .i64 t163)).setCell ⟨gb130, 3, none⟩ (.int .u8 t164))) ?hg ?ho ?hn ?hr ?_; (case ho => rfl); (case hg => rfl); (case hn => rfl); (case hr => first | (go_simp; done) | (go_simp; rfl)); intro w140 hw; have n0_ : zC (w140.heap[gb128]? = some (.cells #[.slice A0_0 l0_0.length c0_0, .slice (some ad156) l0_1.length c0_1] 31 (0, 0))) := ⟨(by rw [hw]; exact (by (with_reducible repeat (first | refine zA ?_ _ | refine zD ?_ | refine zB ?_ _)); refine blk_far ?_ NB128_130.out _; (with_reducible repeat (first | refine zA ?_ _ | refine zD ?_ | refine zB ?_ _)); refine blk_far ?_ NB128_130.out _; (with_reducible repeat (first | refine zA ?_ _ | refine zD ?_ | refine zB ?_ _)); refine blk_far ?_ NB128_130.out _; (with_reducible repeat (first | refine zA ?_ _ | refine zD ?_ | refine zB ?_ _)); refine blk_far ?_ NB128_130.out _; (with_reducible repeat (first | refine zA ?_ _ | refine zD ?_ | refine zB ?_ _)); exact BK128.out))⟩; have n1_ : zC (w140.heap[gb129]? = some (.cells #[.int .i64 a3_0, .int .i64 a3_1, .int .u8 a3_2, .int .i64 a3_3, .int .i64 a3_4, .float .f64 a3_5] 35 (0, 0))) := ⟨(by rw [hw]; exact (by (with_reducible repeat (first | refine zA ?_ _ | refine zD ?_ | refine zB ?_ _)); refine blk_far ?_ NB129_130.out _; (with_reducible repeat (first | refine zA ?_ _ | refine zD ?_ | refine zB ?_ _)); refine blk_far ?_ NB129_130.out _; (with_reducible repeat (first | refine zA ?_ _ | refine zD ?_ | refine zB ?_ _)); refine blk_far ?_ NB129_130.out _; (with_reducible repeat (first | refine zA ?_ _ | refine zD ?_ | refine zB ?_ _)); refine blk_far ?_ NB129_130.out _; (with_reducible repeat (first | refine zA ?_ _ | refine zD ?_ | refine zB ?_ _)); exact BK129.out))⟩; have n2_ : zC (w140.heap[gb130]? = some (.cells #[.int .i64 t161, .int .i64 t162, .int .i64 t163, .int .u8 t164] 45 (0, 0))) := ⟨(by rw [hw]; exact (by (with_reducible repeat (first | refine zA ?_ _ | refine zD ?_ | refine zB ?_ _)); refine blk_put (cs := #[.int .i64 t161, .int .i64 t162, .int .i64 t163, .int .u8 0]) ?_ 3 _ rfl; (with_reducible repeat (first | refine zA ?_ _ | refine zD ?_ | refine zB ?_ _)); refine blk_put (cs := #[.int .i64 t161, .int .i64 t162, .int .i64 0, .int .u8 0]) ?_ 2 _ rfl; (with_reducible repeat (first | refine zA ?_ _ | refine zD ?_ | refine zB ?_ _)); refine blk_put (cs := #[.int .i64 t161, .int .i64 0, .int .i64 0, .int .u8 0]) ?_ 1 _ rfl; (with_reducible repeat (first | refine zA ?_ _ | refine zD ?_ | refine zB ?_ _)); refine blk_put (cs := #[.int .i64 0, .int .i64 0, .int .i64 0, .int .u8 0]) ?_ 0 _ rfl; (with_reducible repeat (first | refine zA ?_ _ | refine zD ?_ | refine zB ?_ _)); exact BK130.out))⟩; have n3_ : zC (Below w.heap.size w w140) := ⟨(by rw [hw]; exact (by repeat (first | (with_reducible first | exact HB.out | apply zJ | apply zE | apply zI | refine zF ?_ GE128.out | refine zF ?_ GE129.out | refine zF ?_ GE130.out) | exact HB.out)))⟩; clear hw; clear BK128; clear BK129; clear BK130; clear HB; have BK128 := n0_; have BK129 := n1_; have BK130 := n2_; have HB := n3_; clear n0_ n1_ n2_ n3_))
      refine bodyPost_ret (results_cell_row rfl _ _ gb130 45 #[.int .i64 t161, .int .i64 t162, .int .i64 t163, .int .u8 t164] (0, 0) _ rfl (by (with_reducible repeat (first | refine zA ?_ _ | refine zD ?_ | refine zB ?_ _)); exact BK130.out) Try.underlying45 rfl (by kernel_rfl)) rfl ?_
      exact ⟨by first | rfl | (simp [errW_none, errW_some] <;> rfl) | (simp [*, errW_none, errW_some] <;> rfl), by repeat (first | (with_reducible first | exact HB.out | apply zJ | apply zE | apply zI | refine zF ?_ GE128.out | refine zF ?_ GE129.out | refine zF ?_ GE130.out) | exact HB.out)⟩
    rw [if_pos c85] at H; have c85b0 : (x10_4 == a2) = true := beq_iff_eq.mpr c85
    have c85b1 : (x10_4 != a2) = false := bne_eq_false_iff_eq.mpr c85
    clear c85; by_cases c86 : 0 ≤ a2
    rotate_left
    · rw [if_neg c86] at H
      exact absurd H (by simp)
    rw [if_pos c86] at H; have c86b0 : decide (0 ≤ a2) = true := decide_eq_true c86
    clear c86; by_cases c87 : a2 < (l0_1.length : Int)
    rotate_left
    · rw [if_neg c87] at H
      exact absurd H (by simp)
    rw [if_pos c87] at H; have c87b0 : decide (a2 < (l0_1.length : Int)) = true := decide_eq_true c87
    clear c87; by_cases c88 : x10_4 < a2
    rotate_left
    · rw [if_neg c88] at H
      have c88b0 : decide (x10_4 < a2) = false := decide_eq_false c88
      clear c88; replace H := Option.bind_eq_some_iff.mp H; obtain ⟨⟨t152, t153, t154, t155⟩, A1100, H⟩ := H; replace H : (some (t152, t153, t154, t155)) = some (r1, r2, r3, r4) := H; have A110 := zC.mk A1100; clear A1100; simp only [Option.some.injEq, Prod.mk.injEq] at H; obtain ⟨rfl, rfl, rfl, rfl⟩ := H; have hnb111 := NB128_129.out; have hnc111 := NB129_128.out; have hnb112 := NB128_130.out; have hnc112 := NB130_128.out; have hcz113_0 : wc.cell? ⟨gb128, 0, none⟩ = some (.slice A0_0 l0_0.length c0_0) := (zH BK128.out 0).trans rfl
      have hcz113_1 : wc.cell? ⟨gb128, 1, none⟩ = some (.slice A0_1 l0_1.length c0_1) := (zH BK128.out 1).trans rfl
      have hfz113_0 := zG BK128.out 0; have hfz113_1 := zG BK128.out 1; have p142 : 0 ≤ (a2 : Int) := of_decide_eq_true (by first | (with_reducible assumption) | assumption)
      have q142 : a2 < (l0_1.length : Int) := of_decide_eq_true (by first | (with_reducible assumption) | assumption)
      obtain ⟨ad142, e142, hx142_0⟩ := Kd.at_int HR0_1.out a2 p142 q142; cases e142
      replace hx142_0 := (HB.out.cell (World.block_lt_of_cell? w _ hx142_0)).trans hx142_0; replace p142 := eq_true p142; replace q142 := eq_true q142; have hnb114 := NB129_130.out; have hnc114 := NB130_129.out; have hcz115_0 : wc.cell? ⟨gb129, 0, none⟩ = some (.int .i64 a3_0) := (zH BK129.out 0).trans rfl
      have hcz115_1 : wc.cell? ⟨gb129, 1, none⟩ = some (.int .i64 a3_1) := (zH BK129.out 1).trans rfl
      have hcz115_2 : wc.cell? ⟨gb129, 2, none⟩ = some (.int .u8 a3_2) := (zH BK129.out 2).trans rfl
      have hcz115_3 : wc.cell? ⟨gb129, 3, none⟩ = some (.int .i64 a3_3) := (zH BK129.out 3).trans rfl
      have hcz115_4 : wc.cell? ⟨gb129, 4, none⟩ = some (.int .i64 a3_4) := (zH BK129.out 4).trans rfl
      have hcz115_5 : wc.cell? ⟨gb129, 5, none⟩ = some (.float .f64 a3_5) := (zH BK129.out 5).trans rfl
      have hfz115_0 := zG BK129.out 0; have hfz115_1 := zG BK129.out 1; have hfz115_2 := zG BK129.out 2; have hfz115_3 := zG BK129.out 3; have hfz115_4 := zG BK129.out 4; have hfz115_5 := zG BK129.out 5; go_wp2_with (first | ((with_reducible refine gate_callee (f := 42) rfl ?_); refine goesL_ (some 107) rfl rfl Try.func42 (by kernel_rfl) rfl #[.agg #[.slice A0_0 l0_0.length c0_0, .slice (some ad142) l0_1.length c0_1], .int .i64 a1, .int .i64 x10_4, .int .u8 (rd l0_1 a2), .int .i64 a3_1] rfl (by (try simp only [List.map_toArray, List.map_cons, List.map_nil]); first | done | rfl | (simp only [List.length_drop, List.length_take]; rfl)) ?_; (with_reducible refine (span_Make.calls kj4 _ _ l0_0 _ _ l0_1 a1 x10_4 (rd l0_1 a2) a3_1 t152 t153 t154 t155 _ ?side1 ?side2 ?side3 ?side4 A110.out).mono ?_); (case side1 => repeat (first | exact (Kd.C_below HR0_0.out HB.out) | (with_reducible refine Kd.C_alloc ?_ _) | (with_reducible refine Kd.C_drewN ?_ _) | (with_reducible refine Kd.C_drew ?_))); (case side2 => exact HC0_0.out); (case side3 => repeat (first | exact (Kd.C_below HR0_1.out HB.out) | (with_reducible refine Kd.C_alloc ?_ _) | (with_reducible refine Kd.C_drewN ?_ _) | (with_reducible refine Kd.C_drew ?_))); (case side4 => exact HC0_1.out); rintro e w116 ⟨rfl, hb⟩; refine ⟨_, rfl, ?_⟩; have n0_ := zC.mk (blk_below (g := gb128) (o := .cells #[.slice A0_0 l0_0.length c0_0, .slice (some ad142) l0_1.length c0_1] 31 (0, 0)) (by (with_reducible repeat (first | refine zA ?_ _ | refine zD ?_ | refine zB ?_ _)); exact BK128.out) hb); have n1_ := zC.mk (blk_below (g := gb129) (o := .cells #[.int .i64 a3_0, .int .i64 a3_1, .int .u8 a3_2, .int .i64 a3_3, .int .i64 a3_4, .float .f64 a3_5] 35 (0, 0)) (by (with_reducible repeat (first | refine zA ?_ _ | refine zD ?_ | refine zB ?_ _)); exact BK129.out) hb); have n2_ := zC.mk (blk_below (g := gb130) (o := .cells #[.int .i64 0, .int .i64 0, .int .i64 0, .int .u8 0] 45 (0, 0)) (by (with_reducible repeat (first | refine zA ?_ _ | refine zD ?_ | refine zB ?_ _)); exact BK130.out) hb); have n3_ := zC.mk (below_step (by repeat (first | (with_reducible first | exact HB.out | apply zJ | apply zE | apply zI | refine zF ?_ GE128.out | refine zF ?_ GE129.out | refine zF ?_ GE130.out) | exact HB.out)) hb); clear BK128; clear BK129; clear BK130; clear HB; have BK128 := n0_; have BK129 := n1_; have BK130 := n2_; have HB := n3_; clear n0_ n1_ n2_ n3_; (try clear hb); (try clear hb2); (try clear hk); (try clear hi); have hcz117_0 : w116.cell? ⟨gb130, 0, none⟩ = some (.int .i64 0) := (zH BK130.out 0).trans rfl; have hcz117_1 : w116.cell? ⟨gb130, 1, none⟩ = some (.int .i64 0) := (zH BK130.out 1).trans rfl; have hcz117_2 : w116.cell? ⟨gb130, 2, none⟩ = some (.int .i64 0) := (zH BK130.out 2).trans rfl; have hcz117_3 : w116.cell? ⟨gb130, 3, none⟩ = some (.int .u8 0) := (zH BK130.out 3).trans rfl; have hfz117_0 := zG BK130.out 0; have hfz117_1 := zG BK130.out 1; have hfz117_2 := zG BK130.out 2; have hfz117_3 := zG BK130.out 3) | ((with_reducible refine gate_store (t := 45) (p := 8) rfl ?_); refine store_event (t := 45) (p := 8) (v := ?vo_w118) (w1 := ((((w116.setCell ⟨gb130, 0, none⟩ (.int .i64 t152)).setCell ⟨gb130, 1, none⟩ (.int .i64 t153)).setCell ⟨gb130, 2, none⟩ (.int .i64 t154)).setCell ⟨gb130, 3, none⟩ (.int .u8 t155))) ?hg ?ho ?hn ?hr ?_; (case ho => rfl); (case hg => rfl); (case hn => rfl); (case hr => first | (go_simp; done) | (go_simp; rfl)); intro w118 hw; have n0_ : zC (w118.heap[gb128]? = some (.cells #[.slice A0_0 l0_0.length c0_0, .slice (some ad142) l0_1.length c0_1] 31 (0, 0))) := ⟨(by rw [hw]; exact (by (with_reducible repeat (first | refine zA ?_ _ | refine zD ?_ | refine zB ?_ _)); refine blk_far ?_ NB128_130.out _; (with_reducible repeat (first | refine zA ?_ _ | refine zD ?_ | refine zB ?_ _)); refine blk_far ?_ NB128_130.out _; (with_reducible repeat (first | refine zA ?_ _ | refine zD ?_ | refine zB ?_ _)); refine blk_far ?_ NB128_130.out _; (with_reducible repeat (first | refine zA ?_ _ | refine zD ?_ | refine zB ?_ _)); refine blk_far ?_ NB128_130.out _; (with_reducible repeat (first | refine zA ?_ _ | refine zD ?_ | refine zB ?_ _)); exact BK128.out))⟩; have n1_ : zC (w118.heap[gb129]? = some (.cells #[.int .i64 a3_0, .int .i64 a3_1, .int .u8 a3_2, .int .i64 a3_3, .int .i64 a3_4, .float .f64 a3_5] 35 (0, 0))) := ⟨(by rw [hw]; exact (by (with_reducible repeat (first | refine zA ?_ _ | refine zD ?_ | refine zB ?_ _)); refine blk_far ?_ NB129_130.out _; (with_reducible repeat (first | refine zA ?_ _ | refine zD ?_ | refine zB ?_ _)); refine blk_far ?_ NB129_130.out _; (with_reducible repeat (first | refine zA ?_ _ | refine zD ?_ | refine zB ?_ _)); refine blk_far ?_ NB129_130.out _; (with_reducible repeat (first | refine zA ?_ _ | refine zD ?_ | refine zB ?_ _)); refine blk_far ?_ NB129_130.out _; (with_reducible repeat (first | refine zA ?_ _ | refine zD ?_ | refine zB ?_ _)); exact BK129.out))⟩; have n2_ : zC (w118.heap[gb130]? = some (.cells #[.int .i64 t152, .int .i64 t153, .int .i64 t154, .int .u8 t155] 45 (0, 0))) := ⟨(by rw [hw]; exact (by (with_reducible repeat (first | refine zA ?_ _ | refine zD ?_ | refine zB ?_ _)); refine blk_put (cs := #[.int .i64 t152, .int .i64 t153, .int .i64 t154, .int .u8 0]) ?_ 3 _ rfl; (with_reducible repeat (first | refine zA ?_ _ | refine zD ?_ | refine zB ?_ _)); refine blk_put (cs := #[.int .i64 t152, .int .i64 t153, .int .i64 0, .int .u8 0]) ?_ 2 _ rfl; (with_reducible repeat (first | refine zA ?_ _ | refine zD ?_ | refine zB ?_ _)); refine blk_put (cs := #[.int .i64 t152, .int .i64 0, .int .i64 0, .int .u8 0]) ?_ 1 _ rfl; (with_reducible repeat (first | refine zA ?_ _ | refine zD ?_ | refine zB ?_ _)); refine blk_put (cs := #[.int .i64 0, .int .i64 0, .int .i64 0, .int .u8 0]) ?_ 0 _ rfl; (with_reducible repeat (first | refine zA ?_ _ | refine zD ?_ | refine zB ?_ _)); exact BK130.out))⟩; have n3_ : zC (Below w.heap.size w w118) := ⟨(by rw [hw]; exact (by repeat (first | (with_reducible first | exact HB.out | apply zJ | apply zE | apply zI | refine zF ?_ GE128.out | refine zF ?_ GE129.out | refine zF ?_ GE130.out) | exact HB.out)))⟩; clear hw; clear BK128; clear BK129; clear BK130; clear HB; have BK128 := n0_; have BK129 := n1_; have BK130 := n2_; have HB := n3_; clear n0_ n1_ n2_ n3_))
      refine bodyPost_ret (results_cell_row rfl _ _ gb130 45 #[.int .i64 t152, .int .i64 t153, .int .i64 t154, .int .u8 t155] (0, 0) _ rfl (by (with_reducible repeat (first | refine zA ?_ _ | refine zD ?_ | refine zB ?_ _)); exact BK130.out) Try.underlying45 rfl (by kernel_rfl)) rfl ?_
      exact ⟨by first | rfl | (simp [errW_none, errW_some] <;> rfl) | (simp [*, errW_none, errW_some] <;> rfl), by repeat (first | (with_reducible first | exact HB.out | apply zJ | apply zE | apply zI | refine zF ?_ GE128.out | refine zF ?_ GE129.out | refine zF ?_ GE130.out) | exact HB.out)⟩
    rw [if_pos c88] at H; have c88b0 : decide (x10_4 < a2) = true := decide_eq_true c88
    clear c88; by_cases c89 : 0 ≤ x10_4
    rotate_left
    · rw [if_neg c89] at H
      exact absurd H (by simp)
    rw [if_pos c89] at H; have c89b0 : decide (0 ≤ x10_4) = true := decide_eq_true c89
    clear c89; by_cases c90 : x10_4 < (l0_1.length : Int)
    rotate_left
    · rw [if_neg c90] at H
      exact absurd H (by simp)
    rw [if_pos c90] at H; have c90b0 : decide (x10_4 < (l0_1.length : Int)) = true := decide_eq_true c90
    clear c90; by_cases c91 : (rd l0_1 x10_4) = 1
    · rw [if_pos c91] at H
      have c91b0 : ((rd l0_1 x10_4) == 1) = true := beq_iff_eq.mpr c91
      have c91b1 : ((rd l0_1 x10_4) != 1) = false := bne_eq_false_iff_eq.mpr c91
      clear c91; replace H := Option.bind_eq_some_iff.mp H; obtain ⟨⟨t144, t145, t146, t147⟩, A920, H⟩ := H; replace H : (some (t144, t145, t146, t147)) = some (r1, r2, r3, r4) := H; have A92 := zC.mk A920; clear A920; simp only [Option.some.injEq, Prod.mk.injEq] at H; obtain ⟨rfl, rfl, rfl, rfl⟩ := H; have hnb93 := NB128_129.out; have hnc93 := NB129_128.out; have hnb94 := NB128_130.out; have hnc94 := NB130_128.out; have hcz95_0 : wc.cell? ⟨gb128, 0, none⟩ = some (.slice A0_0 l0_0.length c0_0) := (zH BK128.out 0).trans rfl
      have hcz95_1 : wc.cell? ⟨gb128, 1, none⟩ = some (.slice A0_1 l0_1.length c0_1) := (zH BK128.out 1).trans rfl
      have hfz95_0 := zG BK128.out 0; have hfz95_1 := zG BK128.out 1; have p142 : 0 ≤ (a2 : Int) := of_decide_eq_true (by first | (with_reducible assumption) | assumption)
      have q142 : a2 < (l0_1.length : Int) := of_decide_eq_true (by first | (with_reducible assumption) | assumption)
      obtain ⟨ad142, e142, hx142_0⟩ := Kd.at_int HR0_1.out a2 p142 q142; cases e142
      replace hx142_0 := (HB.out.cell (World.block_lt_of_cell? w _ hx142_0)).trans hx142_0; replace p142 := eq_true p142; replace q142 := eq_true q142; have p143 : 0 ≤ (x10_4 : Int) := of_decide_eq_true (by first | (with_reducible assumption) | assumption)
      have q143 : x10_4 < (l0_1.length : Int) := of_decide_eq_true (by first | (with_reducible assumption) | assumption)
      obtain ⟨ad143, e143, hx143_0⟩ := Kd.at_int HR0_1.out x10_4 p143 q143; obtain rfl : ad142 = ad143 := (by injection e143)
      replace hx143_0 := (HB.out.cell (World.block_lt_of_cell? w _ hx143_0)).trans hx143_0; replace p143 := eq_true p143; replace q143 := eq_true q143; have hnb96 := NB129_130.out; have hnc96 := NB130_129.out; have hcz97_0 : wc.cell? ⟨gb129, 0, none⟩ = some (.int .i64 a3_0) := (zH BK129.out 0).trans rfl
      have hcz97_1 : wc.cell? ⟨gb129, 1, none⟩ = some (.int .i64 a3_1) := (zH BK129.out 1).trans rfl
      have hcz97_2 : wc.cell? ⟨gb129, 2, none⟩ = some (.int .u8 a3_2) := (zH BK129.out 2).trans rfl
      have hcz97_3 : wc.cell? ⟨gb129, 3, none⟩ = some (.int .i64 a3_3) := (zH BK129.out 3).trans rfl
      have hcz97_4 : wc.cell? ⟨gb129, 4, none⟩ = some (.int .i64 a3_4) := (zH BK129.out 4).trans rfl
      have hcz97_5 : wc.cell? ⟨gb129, 5, none⟩ = some (.float .f64 a3_5) := (zH BK129.out 5).trans rfl
      have hfz97_0 := zG BK129.out 0; have hfz97_1 := zG BK129.out 1; have hfz97_2 := zG BK129.out 2; have hfz97_3 := zG BK129.out 3; have hfz97_4 := zG BK129.out 4; have hfz97_5 := zG BK129.out 5; go_wp2_with (first | ((with_reducible refine gate_callee (f := 42) rfl ?_); refine goesL_ (some 107) rfl rfl Try.func42 (by kernel_rfl) rfl #[.agg #[.slice A0_0 l0_0.length c0_0, .slice (some ad142) l0_1.length c0_1], .int .i64 a1, .int .i64 x10_4, .int .u8 1, .int .i64 a3_1] rfl (by (try simp only [List.map_toArray, List.map_cons, List.map_nil]); first | done | rfl | (simp only [List.length_drop, List.length_take]; rfl)) ?_; (with_reducible refine (span_Make.calls kj4 _ _ l0_0 _ _ l0_1 a1 x10_4 1 a3_1 t144 t145 t146 t147 _ ?side1 ?side2 ?side3 ?side4 A92.out).mono ?_); (case side1 => repeat (first | exact (Kd.C_below HR0_0.out HB.out) | (with_reducible refine Kd.C_alloc ?_ _) | (with_reducible refine Kd.C_drewN ?_ _) | (with_reducible refine Kd.C_drew ?_))); (case side2 => exact HC0_0.out); (case side3 => repeat (first | exact (Kd.C_below HR0_1.out HB.out) | (with_reducible refine Kd.C_alloc ?_ _) | (with_reducible refine Kd.C_drewN ?_ _) | (with_reducible refine Kd.C_drew ?_))); (case side4 => exact HC0_1.out); rintro e w98 ⟨rfl, hb⟩; refine ⟨_, rfl, ?_⟩; have n0_ := zC.mk (blk_below (g := gb128) (o := .cells #[.slice A0_0 l0_0.length c0_0, .slice (some ad142) l0_1.length c0_1] 31 (0, 0)) (by (with_reducible repeat (first | refine zA ?_ _ | refine zD ?_ | refine zB ?_ _)); exact BK128.out) hb); have n1_ := zC.mk (blk_below (g := gb129) (o := .cells #[.int .i64 a3_0, .int .i64 a3_1, .int .u8 a3_2, .int .i64 a3_3, .int .i64 a3_4, .float .f64 a3_5] 35 (0, 0)) (by (with_reducible repeat (first | refine zA ?_ _ | refine zD ?_ | refine zB ?_ _)); exact BK129.out) hb); have n2_ := zC.mk (blk_below (g := gb130) (o := .cells #[.int .i64 0, .int .i64 0, .int .i64 0, .int .u8 0] 45 (0, 0)) (by (with_reducible repeat (first | refine zA ?_ _ | refine zD ?_ | refine zB ?_ _)); exact BK130.out) hb); have n3_ := zC.mk (below_step (by repeat (first | (with_reducible first | exact HB.out | apply zJ | apply zE | apply zI | refine zF ?_ GE128.out | refine zF ?_ GE129.out | refine zF ?_ GE130.out) | exact HB.out)) hb); clear BK128; clear BK129; clear BK130; clear HB; have BK128 := n0_; have BK129 := n1_; have BK130 := n2_; have HB := n3_; clear n0_ n1_ n2_ n3_; (try clear hb); (try clear hb2); (try clear hk); (try clear hi); have hcz99_0 : w98.cell? ⟨gb130, 0, none⟩ = some (.int .i64 0) := (zH BK130.out 0).trans rfl; have hcz99_1 : w98.cell? ⟨gb130, 1, none⟩ = some (.int .i64 0) := (zH BK130.out 1).trans rfl; have hcz99_2 : w98.cell? ⟨gb130, 2, none⟩ = some (.int .i64 0) := (zH BK130.out 2).trans rfl; have hcz99_3 : w98.cell? ⟨gb130, 3, none⟩ = some (.int .u8 0) := (zH BK130.out 3).trans rfl; have hfz99_0 := zG BK130.out 0; have hfz99_1 := zG BK130.out 1; have hfz99_2 := zG BK130.out 2; have hfz99_3 := zG BK130.out 3) | ((with_reducible refine gate_store (t := 45) (p := 8) rfl ?_); refine store_event (t := 45) (p := 8) (v := ?vo_w100) (w1 := ((((w98.setCell ⟨gb130, 0, none⟩ (.int .i64 t144)).setCell ⟨gb130, 1, none⟩ (.int .i64 t145)).setCell ⟨gb130, 2, none⟩ (.int .i64 t146)).setCell ⟨gb130, 3, none⟩ (.int .u8 t147))) ?hg ?ho ?hn ?hr ?_; (case ho => rfl); (case hg => rfl); (case hn => rfl); (case hr => first | (go_simp; done) | (go_simp; rfl)); intro w100 hw; have n0_ : zC (w100.heap[gb128]? = some (.cells #[.slice A0_0 l0_0.length c0_0, .slice (some ad142) l0_1.length c0_1] 31 (0, 0))) := ⟨(by rw [hw]; exact (by (with_reducible repeat (first | refine zA ?_ _ | refine zD ?_ | refine zB ?_ _)); refine blk_far ?_ NB128_130.out _; (with_reducible repeat (first | refine zA ?_ _ | refine zD ?_ | refine zB ?_ _)); refine blk_far ?_ NB128_130.out _; (with_reducible repeat (first | refine zA ?_ _ | refine zD ?_ | refine zB ?_ _)); refine blk_far ?_ NB128_130.out _; (with_reducible repeat (first | refine zA ?_ _ | refine zD ?_ | refine zB ?_ _)); refine blk_far ?_ NB128_130.out _; (with_reducible repeat (first | refine zA ?_ _ | refine zD ?_ | refine zB ?_ _)); exact BK128.out))⟩; have n1_ : zC (w100.heap[gb129]? = some (.cells #[.int .i64 a3_0, .int .i64 a3_1, .int .u8 a3_2, .int .i64 a3_3, .int .i64 a3_4, .float .f64 a3_5] 35 (0, 0))) := ⟨(by rw [hw]; exact (by (with_reducible repeat (first | refine zA ?_ _ | refine zD ?_ | refine zB ?_ _)); refine blk_far ?_ NB129_130.out _; (with_reducible repeat (first | refine zA ?_ _ | refine zD ?_ | refine zB ?_ _)); refine blk_far ?_ NB129_130.out _; (with_reducible repeat (first | refine zA ?_ _ | refine zD ?_ | refine zB ?_ _)); refine blk_far ?_ NB129_130.out _; (with_reducible repeat (first | refine zA ?_ _ | refine zD ?_ | refine zB ?_ _)); refine blk_far ?_ NB129_130.out _; (with_reducible repeat (first | refine zA ?_ _ | refine zD ?_ | refine zB ?_ _)); exact BK129.out))⟩; have n2_ : zC (w100.heap[gb130]? = some (.cells #[.int .i64 t144, .int .i64 t145, .int .i64 t146, .int .u8 t147] 45 (0, 0))) := ⟨(by rw [hw]; exact (by (with_reducible repeat (first | refine zA ?_ _ | refine zD ?_ | refine zB ?_ _)); refine blk_put (cs := #[.int .i64 t144, .int .i64 t145, .int .i64 t146, .int .u8 0]) ?_ 3 _ rfl; (with_reducible repeat (first | refine zA ?_ _ | refine zD ?_ | refine zB ?_ _)); refine blk_put (cs := #[.int .i64 t144, .int .i64 t145, .int .i64 0, .int .u8 0]) ?_ 2 _ rfl; (with_reducible repeat (first | refine zA ?_ _ | refine zD ?_ | refine zB ?_ _)); refine blk_put (cs := #[.int .i64 t144, .int .i64 0, .int .i64 0, .int .u8 0]) ?_ 1 _ rfl; (with_reducible repeat (first | refine zA ?_ _ | refine zD ?_ | refine zB ?_ _)); refine blk_put (cs := #[.int .i64 0, .int .i64 0, .int .i64 0, .int .u8 0]) ?_ 0 _ rfl; (with_reducible repeat (first | refine zA ?_ _ | refine zD ?_ | refine zB ?_ _)); exact BK130.out))⟩; have n3_ : zC (Below w.heap.size w w100) := ⟨(by rw [hw]; exact (by repeat (first | (with_reducible first | exact HB.out | apply zJ | apply zE | apply zI | refine zF ?_ GE128.out | refine zF ?_ GE129.out | refine zF ?_ GE130.out) | exact HB.out)))⟩; clear hw; clear BK128; clear BK129; clear BK130; clear HB; have BK128 := n0_; have BK129 := n1_; have BK130 := n2_; have HB := n3_; clear n0_ n1_ n2_ n3_))
      refine bodyPost_ret (results_cell_row rfl _ _ gb130 45 #[.int .i64 t144, .int .i64 t145, .int .i64 t146, .int .u8 t147] (0, 0) _ rfl (by (with_reducible repeat (first | refine zA ?_ _ | refine zD ?_ | refine zB ?_ _)); exact BK130.out) Try.underlying45 rfl (by kernel_rfl)) rfl ?_
      exact ⟨by first | rfl | (simp [errW_none, errW_some] <;> rfl) | (simp [*, errW_none, errW_some] <;> rfl), by repeat (first | (with_reducible first | exact HB.out | apply zJ | apply zE | apply zI | refine zF ?_ GE128.out | refine zF ?_ GE129.out | refine zF ?_ GE130.out) | exact HB.out)⟩
    rw [if_neg c91] at H; have c91b0 : ((rd l0_1 x10_4) == 1) = false := beq_eq_false_iff_ne.mpr c91
    have c91b1 : ((rd l0_1 x10_4) != 1) = true := bne_iff_ne.mpr c91
    replace H := Option.bind_eq_some_iff.mp H; obtain ⟨⟨t148, t149, t150, t151⟩, A1010, H⟩ := H; replace H : (some (t148, t149, t150, t151)) = some (r1, r2, r3, r4) := H; have A101 := zC.mk A1010; clear A1010; simp only [Option.some.injEq, Prod.mk.injEq] at H; obtain ⟨rfl, rfl, rfl, rfl⟩ := H; have hnb102 := NB128_129.out; have hnc102 := NB129_128.out; have hnb103 := NB128_130.out; have hnc103 := NB130_128.out; have hcz104_0 : wc.cell? ⟨gb128, 0, none⟩ = some (.slice A0_0 l0_0.length c0_0) := (zH BK128.out 0).trans rfl
    have hcz104_1 : wc.cell? ⟨gb128, 1, none⟩ = some (.slice A0_1 l0_1.length c0_1) := (zH BK128.out 1).trans rfl
    have hfz104_0 := zG BK128.out 0; have hfz104_1 := zG BK128.out 1; have p142 : 0 ≤ (a2 : Int) := of_decide_eq_true (by first | (with_reducible assumption) | assumption)
    have q142 : a2 < (l0_1.length : Int) := of_decide_eq_true (by first | (with_reducible assumption) | assumption)
    obtain ⟨ad142, e142, hx142_0⟩ := Kd.at_int HR0_1.out a2 p142 q142; cases e142
    replace hx142_0 := (HB.out.cell (World.block_lt_of_cell? w _ hx142_0)).trans hx142_0; replace p142 := eq_true p142; replace q142 := eq_true q142; have p143 : 0 ≤ (x10_4 : Int) := of_decide_eq_true (by first | (with_reducible assumption) | assumption)
    have q143 : x10_4 < (l0_1.length : Int) := of_decide_eq_true (by first | (with_reducible assumption) | assumption)
    obtain ⟨ad143, e143, hx143_0⟩ := Kd.at_int HR0_1.out x10_4 p143 q143; obtain rfl : ad142 = ad143 := (by injection e143)
    replace hx143_0 := (HB.out.cell (World.block_lt_of_cell? w _ hx143_0)).trans hx143_0; replace p143 := eq_true p143; replace q143 := eq_true q143; have hnb105 := NB129_130.out; have hnc105 := NB130_129.out; have hcz106_0 : wc.cell? ⟨gb129, 0, none⟩ = some (.int .i64 a3_0) := (zH BK129.out 0).trans rfl
    have hcz106_1 : wc.cell? ⟨gb129, 1, none⟩ = some (.int .i64 a3_1) := (zH BK129.out 1).trans rfl
    have hcz106_2 : wc.cell? ⟨gb129, 2, none⟩ = some (.int .u8 a3_2) := (zH BK129.out 2).trans rfl
    have hcz106_3 : wc.cell? ⟨gb129, 3, none⟩ = some (.int .i64 a3_3) := (zH BK129.out 3).trans rfl
    have hcz106_4 : wc.cell? ⟨gb129, 4, none⟩ = some (.int .i64 a3_4) := (zH BK129.out 4).trans rfl
    have hcz106_5 : wc.cell? ⟨gb129, 5, none⟩ = some (.float .f64 a3_5) := (zH BK129.out 5).trans rfl
    have hfz106_0 := zG BK129.out 0; have hfz106_1 := zG BK129.out 1; have hfz106_2 := zG BK129.out 2; have hfz106_3 := zG BK129.out 3; have hfz106_4 := zG BK129.out 4; have hfz106_5 := zG BK129.out 5; go_wp2_with (first | ((with_reducible refine gate_callee (f := 42) rfl ?_); refine goesL_ (some 107) rfl rfl Try.func42 (by kernel_rfl) rfl #[.agg #[.slice A0_0 l0_0.length c0_0, .slice (some ad142) l0_1.length c0_1], .int .i64 a1, .int .i64 x10_4, .int .u8 (rd l0_1 a2), .int .i64 a3_1] rfl (by (try simp only [List.map_toArray, List.map_cons, List.map_nil]); first | done | rfl | (simp only [List.length_drop, List.length_take]; rfl)) ?_; (with_reducible refine (span_Make.calls kj4 _ _ l0_0 _ _ l0_1 a1 x10_4 (rd l0_1 a2) a3_1 t148 t149 t150 t151 _ ?side1 ?side2 ?side3 ?side4 A101.out).mono ?_); (case side1 => repeat (first | exact (Kd.C_below HR0_0.out HB.out) | (with_reducible refine Kd.C_alloc ?_ _) | (with_reducible refine Kd.C_drewN ?_ _) | (with_reducible refine Kd.C_drew ?_))); (case side2 => exact HC0_0.out); (case side3 => repeat (first | exact (Kd.C_below HR0_1.out HB.out) | (with_reducible refine Kd.C_alloc ?_ _) | (with_reducible refine Kd.C_drewN ?_ _) | (with_reducible refine Kd.C_drew ?_))); (case side4 => exact HC0_1.out); rintro e w107 ⟨rfl, hb⟩; refine ⟨_, rfl, ?_⟩; have n0_ := zC.mk (blk_below (g := gb128) (o := .cells #[.slice A0_0 l0_0.length c0_0, .slice (some ad142) l0_1.length c0_1] 31 (0, 0)) (by (with_reducible repeat (first | refine zA ?_ _ | refine zD ?_ | refine zB ?_ _)); exact BK128.out) hb); have n1_ := zC.mk (blk_below (g := gb129) (o := .cells #[.int .i64 a3_0, .int .i64 a3_1, .int .u8 a3_2, .int .i64 a3_3, .int .i64 a3_4, .float .f64 a3_5] 35 (0, 0)) (by (with_reducible repeat (first | refine zA ?_ _ | refine zD ?_ | refine zB ?_ _)); exact BK129.out) hb); have n2_ := zC.mk (blk_below (g := gb130) (o := .cells #[.int .i64 0, .int .i64 0, .int .i64 0, .int .u8 0] 45 (0, 0)) (by (with_reducible repeat (first | refine zA ?_ _ | refine zD ?_ | refine zB ?_ _)); exact BK130.out) hb); have n3_ := zC.mk (below_step (by repeat (first | (with_reducible first | exact HB.out | apply zJ | apply zE | apply zI | refine zF ?_ GE128.out | refine zF ?_ GE129.out | refine zF ?_ GE130.out) | exact HB.out)) hb); clear BK128; clear BK129; clear BK130; clear HB; have BK128 := n0_; have BK129 := n1_; have BK130 := n2_; have HB := n3_; clear n0_ n1_ n2_ n3_; (try clear hb); (try clear hb2); (try clear hk); (try clear hi); have hcz108_0 : w107.cell? ⟨gb130, 0, none⟩ = some (.int .i64 0) := (zH BK130.out 0).trans rfl; have hcz108_1 : w107.cell? ⟨gb130, 1, none⟩ = some (.int .i64 0) := (zH BK130.out 1).trans rfl; have hcz108_2 : w107.cell? ⟨gb130, 2, none⟩ = some (.int .i64 0) := (zH BK130.out 2).trans rfl; have hcz108_3 : w107.cell? ⟨gb130, 3, none⟩ = some (.int .u8 0) := (zH BK130.out 3).trans rfl; have hfz108_0 := zG BK130.out 0; have hfz108_1 := zG BK130.out 1; have hfz108_2 := zG BK130.out 2; have hfz108_3 := zG BK130.out 3) | ((with_reducible refine gate_store (t := 45) (p := 8) rfl ?_); refine store_event (t := 45) (p := 8) (v := ?vo_w109) (w1 := ((((w107.setCell ⟨gb130, 0, none⟩ (.int .i64 t148)).setCell ⟨gb130, 1, none⟩ (.int .i64 t149)).setCell ⟨gb130, 2, none⟩ (.int .i64 t150)).setCell ⟨gb130, 3, none⟩ (.int .u8 t151))) ?hg ?ho ?hn ?hr ?_; (case ho => rfl); (case hg => rfl); (case hn => rfl); (case hr => first | (go_simp; done) | (go_simp; rfl)); intro w109 hw; have n0_ : zC (w109.heap[gb128]? = some (.cells #[.slice A0_0 l0_0.length c0_0, .slice (some ad142) l0_1.length c0_1] 31 (0, 0))) := ⟨(by rw [hw]; exact (by (with_reducible repeat (first | refine zA ?_ _ | refine zD ?_ | refine zB ?_ _)); refine blk_far ?_ NB128_130.out _; (with_reducible repeat (first | refine zA ?_ _ | refine zD ?_ | refine zB ?_ _)); refine blk_far ?_ NB128_130.out _; (with_reducible repeat (first | refine zA ?_ _ | refine zD ?_ | refine zB ?_ _)); refine blk_far ?_ NB128_130.out _; (with_reducible repeat (first | refine zA ?_ _ | refine zD ?_ | refine zB ?_ _)); refine blk_far ?_ NB128_130.out _; (with_reducible repeat (first | refine zA ?_ _ | refine zD ?_ | refine zB ?_ _)); exact BK128.out))⟩; have n1_ : zC (w109.heap[gb129]? = some (.cells #[.int .i64 a3_0, .int .i64 a3_1, .int .u8 a3_2, .int .i64 a3_3, .int .i64 a3_4, .float .f64 a3_5] 35 (0, 0))) := ⟨(by rw [hw]; exact (by (with_reducible repeat (first | refine zA ?_ _ | refine zD ?_ | refine zB ?_ _)); refine blk_far ?_ NB129_130.out _; (with_reducible repeat (first | refine zA ?_ _ | refine zD ?_ | refine zB ?_ _)); refine blk_far ?_ NB129_130.out _; (with_reducible repeat (first | refine zA ?_ _ | refine zD ?_ | refine zB ?_ _)); refine blk_far ?_ NB129_130.out _; (with_reducible repeat (first | refine zA ?_ _ | refine zD ?_ | refine zB ?_ _)); refine blk_far ?_ NB129_130.out _; (with_reducible repeat (first | refine zA ?_ _ | refine zD ?_ | refine zB ?_ _)); exact BK129.out))⟩; have n2_ : zC (w109.heap[gb130]? = some (.cells #[.int .i64 t148, .int .i64 t149, .int .i64 t150, .int .u8 t151] 45 (0, 0))) := ⟨(by rw [hw]; exact (by (with_reducible repeat (first | refine zA ?_ _ | refine zD ?_ | refine zB ?_ _)); refine blk_put (cs := #[.int .i64 t148, .int .i64 t149, .int .i64 t150, .int .u8 0]) ?_ 3 _ rfl; (with_reducible repeat (first | refine zA ?_ _ | refine zD ?_ | refine zB ?_ _)); refine blk_put (cs := #[.int .i64 t148, .int .i64 t149, .int .i64 0, .int .u8 0]) ?_ 2 _ rfl; (with_reducible repeat (first | refine zA ?_ _ | refine zD ?_ | refine zB ?_ _)); refine blk_put (cs := #[.int .i64 t148, .int .i64 0, .int .i64 0, .int .u8 0]) ?_ 1 _ rfl; (with_reducible repeat (first | refine zA ?_ _ | refine zD ?_ | refine zB ?_ _)); refine blk_put (cs := #[.int .i64 0, .int .i64 0, .int .i64 0, .int .u8 0]) ?_ 0 _ rfl; (with_reducible repeat (first | refine zA ?_ _ | refine zD ?_ | refine zB ?_ _)); exact BK130.out))⟩; have n3_ : zC (Below w.heap.size w w109) := ⟨(by rw [hw]; exact (by repeat (first | (with_reducible first | exact HB.out | apply zJ | apply zE | apply zI | refine zF ?_ GE128.out | refine zF ?_ GE129.out | refine zF ?_ GE130.out) | exact HB.out)))⟩; clear hw; clear BK128; clear BK129; clear BK130; clear HB; have BK128 := n0_; have BK129 := n1_; have BK130 := n2_; have HB := n3_; clear n0_ n1_ n2_ n3_))
    refine bodyPost_ret (results_cell_row rfl _ _ gb130 45 #[.int .i64 t148, .int .i64 t149, .int .i64 t150, .int .u8 t151] (0, 0) _ rfl (by (with_reducible repeat (first | refine zA ?_ _ | refine zD ?_ | refine zB ?_ _)); exact BK130.out) Try.underlying45 rfl (by kernel_rfl)) rfl ?_
    exact ⟨by first | rfl | (simp [errW_none, errW_some] <;> rfl) | (simp [*, errW_none, errW_some] <;> rfl), by repeat (first | (with_reducible first | exact HB.out | apply zJ | apply zE | apply zI | refine zF ?_ GE128.out | refine zF ?_ GE129.out | refine zF ?_ GE130.out) | exact HB.out)⟩
end Go.Proofs.Ytfeidhmkmbgnoaa.F
end
section
namespace Go.Proofs.Ytfeidhmkmbgnoaa.F
open Go.RowKit Go.Proofs.YtfeidhmkmbgnoaaW.PrintWords Go.Proofs.YtfeidhmkmbgnoaaW.PrintLast Go.Proofs.YtfeidhmkmbgnoaaW.PrintMore
attribute [local go_sem] max2_int min2_int max_two min_two max_three min_three max_four min_four   -- for this text's walks alone
set_option linter.unusedVariables false
set_option linter.unusedSimpArgs false
def first_Break.l0 : Nat → Int → Int → List (S45) → List (S61) → List Int → Int → Int → Int → Int → Int → Nat → Option ((List (S45)))
  | 0, _, _, _, _, _, _, _, _, _, _, _ => none
  | k + 1, x1, x2, x9, x170000, x170001, x171000, x171001, x171002, x171003, x171004, x171005 => if x1 < x2 then ((first_one.f k x170000 x170001 x1 x2 x171000 x171001 x171002 x171003 x171004 x171005).bind fun bt171 => (if x9.length < 4398046511104 then (first_Break.l0 k bt171.2.1 x2 (x9 ++ [(⟨bt171.1, bt171.2.1, bt171.2.2.1, bt171.2.2.2⟩ : S45)]) x170000 x170001 x171000 x171001 x171002 x171003 x171004 x171005) else (none))) else (some x9)
def first_Break.f (k : Nat) (l0_0 : List (S61)) (l0_1 : List Int) (a1 : Int) (a2 : Int) (a3_0 : Int) (a3_1 : Int) (a3_2 : Int) (a3_3 : Int) (a3_4 : Int) (a3_5 : Nat) : Option ((List (S45))) := first_Break.l0 k a1 a2 ([] : List (S45)) l0_0 l0_1 a3_0 a3_1 a3_2 a3_3 a3_4 a3_5
theorem first_Break.mono_l : ∀ k, (∀ y0 y1 y2 y3 y4 y5 y6 y7 y8 y9 y10, LeO (first_Break.l0 k y0 y1 y2 y3 y4 y5 y6 y7 y8 y9 y10) (first_Break.l0 (k + 1) y0 y1 y2 y3 y4 y5 y6 y7 y8 y9 y10))
  | 0 => fun _ _ _ _ _ _ _ _ _ _ _ r h => by simp [first_Break.l0] at h
  | k + 1 => by
    have ih0 := first_Break.mono_l k
    · intro y0 y1 y2 y3 y4 y5 y6 y7 y8 y9 y10
      unfold first_Break.l0
      repeat' first
      | (with_reducible exact ih0 _ _ _ _ _ _ _ _ _ _ _)
      | (with_reducible exact first_one.mono _ _ _ _ _ _ _ _ _ _ _)
      | (with_reducible exact LeO.refl _)
      | (with_reducible exact LeO.none _)
      | (with_reducible refine LeO.ite ?_ ?_)
      | (with_reducible refine LeO.bind ?_ (fun _ => ?_))
      | exact ih0 _ _ _ _ _ _ _ _ _ _ _
      | exact first_one.mono _ _ _ _ _ _ _ _ _ _ _
      | exact LeO.none _
      | refine LeO.ite ?_ ?_
      | refine LeO.bind ?_ (fun _ => ?_)
theorem first_Break.mono : ∀ a0 a1 a2 a3 a4 a5 a6 a7 a8 a9 k, LeO (first_Break.f k a0 a1 a2 a3 a4 a5 a6 a7 a8 a9) (first_Break.f (k + 1) a0 a1 a2 a3 a4 a5 a6 a7 a8 a9) := by
  intro a0 a1 a2 a3 a4 a5 a6 a7 a8 a9 k
  have ih0 := first_Break.mono_l k; unfold first_Break.f
  repeat' first
      | (with_reducible exact ih0 _ _ _ _ _ _ _ _ _ _ _)
      | (with_reducible exact first_one.mono _ _ _ _ _ _ _ _ _ _ _)
      | (with_reducible exact LeO.refl _)
      | (with_reducible exact LeO.none _)
      | (with_reducible refine LeO.ite ?_ ?_)
      | (with_reducible refine LeO.bind ?_ (fun _ => ?_))
      | exact ih0 _ _ _ _ _ _ _ _ _ _ _
      | exact first_one.mono _ _ _ _ _ _ _ _ _ _ _
      | exact LeO.none _
      | refine LeO.ite ?_ ?_
      | refine LeO.bind ?_ (fun _ => ?_)
set_option maxHeartbeats 8000000 in
set_option maxRecDepth 100000 in
theorem first_Break.calls (k : Nat) (A0_0 : Option Addr) (c0_0 : Nat) (l0_0 : List (S61)) (A0_1 : Option Addr) (c0_1 : Nat) (l0_1 : List Int) (a1 : Int) (a2 : Int) (a3_0 : Int) (a3_1 : Int) (a3_2 : Int) (a3_3 : Int) (a3_4 : Int) (a3_5 : Nat) (r : List (S45)) (w : World) (hr0_0 : Kd.C k61 w A0_0 l0_0.length l0_0) (hc0_0 : l0_0.length ≤ c0_0) (hr0_1 : Kd.C (Kd.int .u8) w A0_1 l0_1.length l0_1) (hc0_1 : l0_1.length ≤ c0_1) (h : first_Break.f k l0_0 l0_1 a1 a2 a3_0 a3_1 a3_2 a3_3 a3_4 a3_5 = some r) :
    Calls Try.prog 17 #[.agg #[.slice A0_0 l0_0.length c0_0, .slice A0_1 l0_1.length c0_1], .int .i64 a1, .int .i64 a2, .agg #[.int .i64 a3_0, .int .i64 a3_1, .int .u8 a3_2, .int .i64 a3_3, .int .i64 a3_4, .float .f64 a3_5]] w fun e w' => ∃ v0_ : Value, e = .returned (v0_) ∧ Kd.R k45 45 w' w.heap.size (fun _ => True) v0_ r ∧ Below w.heap.size w w' := by
  have hu31 := Try.underlying31; have hu35 := Try.underlying35; have hu45 := Try.underlying45; have HR0_0 := zC.mk hr0_0; have HC0_0 := zC.mk hc0_0; clear hr0_0 hc0_0; have HR0_1 := zC.mk hr0_1; have HC0_1 := zC.mk hc0_1; clear hr0_1 hc0_1; have HB := zC.mk (Below.refl w.heap.size w); have H : (first_Break.l0 k a1 a2 ([] : List (S45)) l0_0 l0_1 a3_0 a3_1 a3_2 a3_3 a3_4 a3_5) = some r := h
  clear h; have H' := zC.mk H
  clear H; go_enter Try.func17, Try.ntmps17
  go_wp2_with (first | ((with_reducible refine gate_dst (N := 4) rfl ?_); refine box_event ?hg (N := 4) ?hd (cs := #[.slice A0_0 l0_0.length c0_0, .slice A0_1 l0_1.length c0_1]) (t := 31) ?hr ?_; (case hd => rfl); (case hg => rfl); (case hr => first | (go_simp; done) | (go_simp; rfl)); intro gb169 hg w5 hbox hb; have n0_ := zC.mk (below_step (by repeat (first | (with_reducible first | exact HB.out | apply zJ | apply zE | apply zI) | exact HB.out)) hb); have n1_ := zC.mk (hbox); have n2_ := zC.mk ((by rw [hg]; exact (below_size (by repeat (first | (with_reducible first | exact HB.out | apply zJ | apply zE | apply zI) | exact HB.out))) : w.heap.size ≤ gb169)); have n3_ := zC.mk ((by rw [hg]; exact (below_size (by repeat (first | (with_reducible first | exact HB.out | apply zJ | apply zE | apply zI) | exact HB.out))) : w.heap.size ≤ gb169)); clear HB; have HB := n0_; have BK169 := n1_; have GW169 := n2_; have GE169 := n3_; clear n0_ n1_ n2_ n3_; clear hb hbox hg) | ((with_reducible refine gate_dst (N := 7) rfl ?_); refine box_event ?hg (N := 7) ?hd (cs := #[.int .i64 a3_0, .int .i64 a3_1, .int .u8 a3_2, .int .i64 a3_3, .int .i64 a3_4, .float .f64 a3_5]) (t := 35) ?hr ?_; (case hd => rfl); (case hg => rfl); (case hr => first | (go_simp; done) | (go_simp; rfl)); intro gb170 hg w6 hbox hb; have n0_ := zC.mk (blk_below (g := gb169) (o := .cells #[.slice A0_0 l0_0.length c0_0, .slice A0_1 l0_1.length c0_1] 31 (0, 0)) (by (with_reducible repeat (first | refine zA ?_ _ | refine zD ?_ | refine zB ?_ _)); exact BK169.out) hb); have n1_ := zC.mk (below_step (by repeat (first | (with_reducible first | exact HB.out | apply zJ | apply zE | apply zI | refine zF ?_ GE169.out) | exact HB.out)) hb); have n2_ := zC.mk (hbox); have n3_ := zC.mk ((by rw [hg]; exact (below_size (by repeat (first | (with_reducible first | exact HB.out | apply zJ | apply zE | apply zI | refine zF ?_ GE169.out) | exact HB.out))) : w.heap.size ≤ gb170)); have n4_ := zC.mk ((by rw [hg]; exact (below_size (by repeat (first | (with_reducible first | exact HB.out | apply zJ | apply zE | apply zI | refine zF ?_ GE169.out) | exact HB.out))) : w.heap.size ≤ gb170)); have n5_ := zC.mk ((by rw [hg]; exact Nat.ne_of_lt (blk_lt (g := gb169) (o := .cells #[.slice A0_0 l0_0.length c0_0, .slice A0_1 l0_1.length c0_1] 31 (0, 0)) (by (with_reducible repeat (first | refine zA ?_ _ | refine zD ?_ | refine zB ?_ _)); exact BK169.out)) : gb169 ≠ gb170)); have n6_ := zC.mk ((by rw [hg]; exact Nat.ne_of_gt (blk_lt (g := gb169) (o := .cells #[.slice A0_0 l0_0.length c0_0, .slice A0_1 l0_1.length c0_1] 31 (0, 0)) (by (with_reducible repeat (first | refine zA ?_ _ | refine zD ?_ | refine zB ?_ _)); exact BK169.out)) : gb170 ≠ gb169)); clear BK169; clear HB; have BK169 := n0_; have HB := n1_; have BK170 := n2_; have GW170 := n3_; have GE170 := n4_; have NB169_170 := n5_; have NB170_169 := n6_; clear n0_ n1_ n2_ n3_ n4_ n5_ n6_; clear hb hbox hg))
  go_loopg [1, 9] k (fun kq v1 v9 w' => ∃ (x1_1 : Int) (x9_1 : List (S45)), v1 = .int .i64 x1_1 ∧ zC (first_Break.l0 kq x1_1 a2 x9_1 l0_0 l0_1 a3_0 a3_1 a3_2 a3_3 a3_4 a3_5 = some r) ∧ zC (kq ≤ k) ∧ zC (Kd.R k45 45 w' w.heap.size (fun _ => True) v9 x9_1) ∧ zC (w'.heap[gb169]? = some (.cells #[(.slice A0_0 l0_0.length c0_0), (.slice A0_1 l0_1.length c0_1)] 31 (0, 0))) ∧ zC (w'.heap[gb170]? = some (.cells #[.int .i64 a3_0, .int .i64 a3_1, .int .u8 a3_2, .int .i64 a3_3, .int .i64 a3_4, .float .f64 a3_5] 35 (0, 0))) ∧ zC (Below w.heap.size w w'))
  case atStart => exact ⟨(a1), (([] : List (S45))), (by first | rfl | (simp; done) | (simp [*]; done)), H', ⟨Nat.le_refl _⟩, ⟨by first | exact Kd.R_nil _ _ _ _ _ | exact Kd.N_nil _ _ _ _ _ | exact Kd.V_nil _ _ _ _ _ | exact Kd.Q_nil _ _ _ _ _ | exact Kd.S_nil _ _ _ _ _⟩, ⟨by (with_reducible repeat (first | refine zA ?_ _ | refine zD ?_ | refine zB ?_ _)); exact BK169.out⟩, ⟨by (with_reducible repeat (first | refine zA ?_ _ | refine zD ?_ | refine zB ?_ _)); exact BK170.out⟩, ⟨by repeat (first | (with_reducible first | exact HB.out | apply zJ | apply zE | apply zI | refine zF ?_ GE169.out | refine zF ?_ GE170.out) | exact HB.out)⟩⟩
  clear H'; try clear c1
  try clear p2
  obtain ⟨x1_1, x9_1, rfl, HA, HK1, HO_9, BK169, BK170, HB⟩ := hrel; cases gk with
  | zero => exact absurd HA.out (by simp [first_Break.l0])
  | succ k1 =>
    have H := HA.out; clear HA; simp only [first_Break.l0] at H; by_cases c7 : x1_1 < a2
    rotate_left
    · rw [if_neg c7] at H
      have c7b0 : decide (x1_1 < a2) = false := decide_eq_false c7
      clear c7; obtain rfl := Option.some.inj H
      go_wp2
      go_ret
      exact ⟨_, by first | rfl | (simp [errW_none, errW_some] <;> rfl) | (simp [*, errW_none, errW_some] <;> rfl), by (with_reducible repeat (first | apply Kd.R_alloc | apply Kd.R_drewN | apply Kd.R_drew)); exact HO_9.out, by repeat (first | (with_reducible first | exact HB.out | apply zJ | apply zE | apply zI | refine zF ?_ GE169.out | refine zF ?_ GE170.out) | exact HB.out)⟩
    rw [if_pos c7] at H; have c7b0 : decide (x1_1 < a2) = true := decide_eq_true c7
    clear c7; replace H := Option.bind_eq_some_iff.mp H; obtain ⟨⟨t171, t172, t173, t174⟩, A80, H⟩ := H; replace H : (if x9_1.length < 4398046511104 then (first_Break.l0 k1 t172 a2 (x9_1 ++ [(⟨t171, t172, t173, t174⟩ : S45)]) l0_0 l0_1 a3_0 a3_1 a3_2 a3_3 a3_4 a3_5) else (none)) = some r := H; have A8 := zC.mk A80; clear A80; by_cases c9 : x9_1.length < 4398046511104
    rotate_left
    · rw [if_neg c9] at H
      exact absurd H (by simp)
    rw [if_pos c9] at H; have LMc9 := zC.mk c9; clear c9; obtain ⟨y176, hy176⟩ : ∃ y_ : List (S45), y_ = (x9_1 ++ [(⟨t171, t172, t173, t174⟩ : S45)]) := ⟨_, rfl⟩; replace H : (first_Break.l0 k1 t172 a2 y176 l0_0 l0_1 a3_0 a3_1 a3_2 a3_3 a3_4 a3_5) = some r := by first | (rw [hy176]; with_reducible exact H) | (have H2_ := (Option.bind_some _ _).symm.trans H; rw [hy176]; with_reducible exact H2_) | (have H2_ := (Option.bind_some _ _).symm.trans H; with_reducible exact H2_) | with_reducible exact H | (rw [hy176]; exact H) | exact H
    have Ny176 := zC.mk hy176; clear hy176; have H' := zC.mk H
    clear H; have hnb10 := NB169_170.out; have hnc10 := NB170_169.out; have hcz11_0 : wr.cell? ⟨gb169, 0, none⟩ = some (.slice A0_0 l0_0.length c0_0) := (zH BK169.out 0).trans rfl
    have hcz11_1 : wr.cell? ⟨gb169, 1, none⟩ = some (.slice A0_1 l0_1.length c0_1) := (zH BK169.out 1).trans rfl
    have hfz11_0 := zG BK169.out 0; have hfz11_1 := zG BK169.out 1; have hcz12_0 : wr.cell? ⟨gb170, 0, none⟩ = some (.int .i64 a3_0) := (zH BK170.out 0).trans rfl
    have hcz12_1 : wr.cell? ⟨gb170, 1, none⟩ = some (.int .i64 a3_1) := (zH BK170.out 1).trans rfl
    have hcz12_2 : wr.cell? ⟨gb170, 2, none⟩ = some (.int .u8 a3_2) := (zH BK170.out 2).trans rfl
    have hcz12_3 : wr.cell? ⟨gb170, 3, none⟩ = some (.int .i64 a3_3) := (zH BK170.out 3).trans rfl
    have hcz12_4 : wr.cell? ⟨gb170, 4, none⟩ = some (.int .i64 a3_4) := (zH BK170.out 4).trans rfl
    have hcz12_5 : wr.cell? ⟨gb170, 5, none⟩ = some (.float .f64 a3_5) := (zH BK170.out 5).trans rfl
    have hfz12_0 := zG BK170.out 0; have hfz12_1 := zG BK170.out 1; have hfz12_2 := zG BK170.out 2; have hfz12_3 := zG BK170.out 3; have hfz12_4 := zG BK170.out 4; have hfz12_5 := zG BK170.out 5; go_wp2_with (first | ((with_reducible refine gate_callee (f := 29) rfl ?_); refine goesL_ (some 18) rfl rfl Try.func29 (by kernel_rfl) rfl #[.agg #[.slice A0_0 l0_0.length c0_0, .slice A0_1 l0_1.length c0_1], .int .i64 x1_1, .int .i64 a2, .agg #[.int .i64 a3_0, .int .i64 a3_1, .int .u8 a3_2, .int .i64 a3_3, .int .i64 a3_4, .float .f64 a3_5]] rfl (by (try simp only [List.map_toArray, List.map_cons, List.map_nil]); first | done | rfl | (simp only [List.length_drop, List.length_take]; rfl)) ?_; (with_reducible refine (first_one.calls k1 _ _ l0_0 _ _ l0_1 x1_1 a2 a3_0 a3_1 a3_2 a3_3 a3_4 a3_5 t171 t172 t173 t174 _ ?side1 ?side2 ?side3 ?side4 A8.out).mono ?_); (case side1 => repeat (first | exact (Kd.C_below HR0_0.out HB.out) | (with_reducible refine Kd.C_alloc ?_ _) | (with_reducible refine Kd.C_drewN ?_ _) | (with_reducible refine Kd.C_drew ?_))); (case side2 => exact HC0_0.out); (case side3 => repeat (first | exact (Kd.C_below HR0_1.out HB.out) | (with_reducible refine Kd.C_alloc ?_ _) | (with_reducible refine Kd.C_drewN ?_ _) | (with_reducible refine Kd.C_drew ?_))); (case side4 => exact HC0_1.out); rintro e w13 ⟨rfl, hb⟩; refine ⟨_, rfl, ?_⟩; have n0_ := zC.mk (Kd.R_below (by (with_reducible repeat (first | apply Kd.R_alloc | apply Kd.R_drewN | apply Kd.R_drew)); exact HO_9.out) hb); have n1_ := zC.mk (blk_below (g := gb169) (o := .cells #[.slice A0_0 l0_0.length c0_0, .slice A0_1 l0_1.length c0_1] 31 (0, 0)) (by (with_reducible repeat (first | refine zA ?_ _ | refine zD ?_ | refine zB ?_ _)); exact BK169.out) hb); have n2_ := zC.mk (blk_below (g := gb170) (o := .cells #[.int .i64 a3_0, .int .i64 a3_1, .int .u8 a3_2, .int .i64 a3_3, .int .i64 a3_4, .float .f64 a3_5] 35 (0, 0)) (by (with_reducible repeat (first | refine zA ?_ _ | refine zD ?_ | refine zB ?_ _)); exact BK170.out) hb); have n3_ := zC.mk (below_step (by repeat (first | (with_reducible first | exact HB.out | apply zJ | apply zE | apply zI | refine zF ?_ GE169.out | refine zF ?_ GE170.out) | exact HB.out)) hb); clear HO_9; clear BK169; clear BK170; clear HB; have HO_9 := n0_; have BK169 := n1_; have BK170 := n2_; have HB := n3_; clear n0_ n1_ n2_ n3_; (try clear hb); (try clear hb2); (try clear hk); (try clear hi)) | ((with_reducible refine gate_dst (N := 10) rfl ?_); refine box_event ?hg (N := 10) ?hd (cs := #[.int .i64 0, .int .i64 0, .int .i64 0, .int .u8 0]) (t := 45) ?hr ?_; (case hd => rfl); (case hg => rfl); (case hr => first | (go_simp; done) | (go_simp; rfl)); intro gb175 hg w14 hbox hb; have n0_ := zC.mk (Kd.R_below (Kd.R_elderB (by (with_reducible repeat (first | apply Kd.R_alloc | apply Kd.R_drewN | apply Kd.R_drew)); exact HO_9.out) gb175 (Nat.le_of_eq hg.symm)) hb); have n1_ := zC.mk (blk_below (g := gb169) (o := .cells #[.slice A0_0 l0_0.length c0_0, .slice A0_1 l0_1.length c0_1] 31 (0, 0)) (by (with_reducible repeat (first | refine zA ?_ _ | refine zD ?_ | refine zB ?_ _)); exact BK169.out) hb); have n2_ := zC.mk (blk_below (g := gb170) (o := .cells #[.int .i64 a3_0, .int .i64 a3_1, .int .u8 a3_2, .int .i64 a3_3, .int .i64 a3_4, .float .f64 a3_5] 35 (0, 0)) (by (with_reducible repeat (first | refine zA ?_ _ | refine zD ?_ | refine zB ?_ _)); exact BK170.out) hb); have n3_ := zC.mk (below_step (by repeat (first | (with_reducible first | exact HB.out | apply zJ | apply zE | apply zI | refine zF ?_ GE169.out | refine zF ?_ GE170.out) | exact HB.out)) hb); have n4_ := zC.mk (hbox); have n5_ := zC.mk ((by rw [hg]; exact (below_size (by repeat (first | (with_reducible first | exact HB.out | apply zJ | apply zE | apply zI | refine zF ?_ GE169.out | refine zF ?_ GE170.out) | exact HB.out))) : w.heap.size ≤ gb175)); have n6_ := zC.mk ((by rw [hg]; exact (below_size (by repeat (first | (with_reducible first | exact HB.out | apply zJ | apply zE | apply zI | refine zF ?_ GE169.out | refine zF ?_ GE170.out) | exact HB.out))) : w.heap.size ≤ gb175)); have n7_ := zC.mk ((by rw [hg]; exact Nat.ne_of_lt (blk_lt (g := gb169) (o := .cells #[.slice A0_0 l0_0.length c0_0, .slice A0_1 l0_1.length c0_1] 31 (0, 0)) (by (with_reducible repeat (first | refine zA ?_ _ | refine zD ?_ | refine zB ?_ _)); exact BK169.out)) : gb169 ≠ gb175)); have n8_ := zC.mk ((by rw [hg]; exact Nat.ne_of_gt (blk_lt (g := gb169) (o := .cells #[.slice A0_0 l0_0.length c0_0, .slice A0_1 l0_1.length c0_1] 31 (0, 0)) (by (with_reducible repeat (first | refine zA ?_ _ | refine zD ?_ | refine zB ?_ _)); exact BK169.out)) : gb175 ≠ gb169)); have n9_ := zC.mk ((by rw [hg]; exact Nat.ne_of_lt (blk_lt (g := gb170) (o := .cells #[.int .i64 a3_0, .int .i64 a3_1, .int .u8 a3_2, .int .i64 a3_3, .int .i64 a3_4, .float .f64 a3_5] 35 (0, 0)) (by (with_reducible repeat (first | refine zA ?_ _ | refine zD ?_ | refine zB ?_ _)); exact BK170.out)) : gb170 ≠ gb175)); have n10_ := zC.mk ((by rw [hg]; exact Nat.ne_of_gt (blk_lt (g := gb170) (o := .cells #[.int .i64 a3_0, .int .i64 a3_1, .int .u8 a3_2, .int .i64 a3_3, .int .i64 a3_4, .float .f64 a3_5] 35 (0, 0)) (by (with_reducible repeat (first | refine zA ?_ _ | refine zD ?_ | refine zB ?_ _)); exact BK170.out)) : gb175 ≠ gb170)); clear HO_9; clear BK169; clear BK170; clear HB; have HO_9 := n0_; have BK169 := n1_; have BK170 := n2_; have HB := n3_; have BK175 := n4_; have GW175 := n5_; have GE175 := n6_; have NB169_175 := n7_; have NB175_169 := n8_; have NB170_175 := n9_; have NB175_170 := n10_; clear n0_ n1_ n2_ n3_ n4_ n5_ n6_ n7_ n8_ n9_ n10_; clear hb hbox hg; have hnb15 := NB175_169.out; have hnc15 := NB169_175.out; have hnb16 := NB175_170.out; have hnc16 := NB170_175.out; have hcz17_0 : w14.cell? ⟨gb175, 0, none⟩ = some (.int .i64 0) := (zH BK175.out 0).trans rfl; have hcz17_1 : w14.cell? ⟨gb175, 1, none⟩ = some (.int .i64 0) := (zH BK175.out 1).trans rfl; have hcz17_2 : w14.cell? ⟨gb175, 2, none⟩ = some (.int .i64 0) := (zH BK175.out 2).trans rfl; have hcz17_3 : w14.cell? ⟨gb175, 3, none⟩ = some (.int .u8 0) := (zH BK175.out 3).trans rfl; have hfz17_0 := zG BK175.out 0; have hfz17_1 := zG BK175.out 1; have hfz17_2 := zG BK175.out 2; have hfz17_3 := zG BK175.out 3) | ((with_reducible refine gate_store (t := 45) (p := 10) rfl ?_); refine store_event (t := 45) (p := 10) (v := ?vo_w18) (w1 := ((((w14.setCell ⟨gb175, 0, none⟩ (.int .i64 t171)).setCell ⟨gb175, 1, none⟩ (.int .i64 t172)).setCell ⟨gb175, 2, none⟩ (.int .i64 t173)).setCell ⟨gb175, 3, none⟩ (.int .u8 t174))) ?hg ?ho ?hn ?hr ?_; (case ho => rfl); (case hg => rfl); (case hn => rfl); (case hr => first | (go_simp; done) | (go_simp; rfl)); intro w18 hw; have n0_ : zC (Kd.R k45 45 w18 w.heap.size (fun k_ => k_ ≠ gb175) u9 x9_1) := ⟨(by rw [hw]; exact (by (with_reducible repeat (first | apply Kd.R_alloc | apply Kd.R_drewN | apply Kd.R_drew)); exact Kd.R_mono (Kd.R_far (p := ⟨gb175, 3, none⟩) (Kd.R_far (p := ⟨gb175, 2, none⟩) (Kd.R_far (p := ⟨gb175, 1, none⟩) (Kd.R_far (p := ⟨gb175, 0, none⟩) (Kd.R_mono HO_9.out (fun k_ hk => (⟨hk, hk.2⟩ : _ ∧ k_ ≠ gb175))) (fun _ hk => hk.2) (.int .i64 t171)) (fun _ hk => hk.2) (.int .i64 t172)) (fun _ hk => hk.2) (.int .i64 t173)) (fun _ hk => hk.2) (.int .u8 t174)) (fun _ hk => hk.1.2)))⟩; have n1_ : zC (w18.heap[gb169]? = some (.cells #[.slice A0_0 l0_0.length c0_0, .slice A0_1 l0_1.length c0_1] 31 (0, 0))) := ⟨(by rw [hw]; exact (by (with_reducible repeat (first | refine zA ?_ _ | refine zD ?_ | refine zB ?_ _)); refine blk_far ?_ NB169_175.out _; (with_reducible repeat (first | refine zA ?_ _ | refine zD ?_ | refine zB ?_ _)); refine blk_far ?_ NB169_175.out _; (with_reducible repeat (first | refine zA ?_ _ | refine zD ?_ | refine zB ?_ _)); refine blk_far ?_ NB169_175.out _; (with_reducible repeat (first | refine zA ?_ _ | refine zD ?_ | refine zB ?_ _)); refine blk_far ?_ NB169_175.out _; (with_reducible repeat (first | refine zA ?_ _ | refine zD ?_ | refine zB ?_ _)); exact BK169.out))⟩; have n2_ : zC (w18.heap[gb170]? = some (.cells #[.int .i64 a3_0, .int .i64 a3_1, .int .u8 a3_2, .int .i64 a3_3, .int .i64 a3_4, .float .f64 a3_5] 35 (0, 0))) := ⟨(by rw [hw]; exact (by (with_reducible repeat (first | refine zA ?_ _ | refine zD ?_ | refine zB ?_ _)); refine blk_far ?_ NB170_175.out _; (with_reducible repeat (first | refine zA ?_ _ | refine zD ?_ | refine zB ?_ _)); refine blk_far ?_ NB170_175.out _; (with_reducible repeat (first | refine zA ?_ _ | refine zD ?_ | refine zB ?_ _)); refine blk_far ?_ NB170_175.out _; (with_reducible repeat (first | refine zA ?_ _ | refine zD ?_ | refine zB ?_ _)); refine blk_far ?_ NB170_175.out _; (with_reducible repeat (first | refine zA ?_ _ | refine zD ?_ | refine zB ?_ _)); exact BK170.out))⟩; have n3_ : zC (w18.heap[gb175]? = some (.cells #[.int .i64 t171, .int .i64 t172, .int .i64 t173, .int .u8 t174] 45 (0, 0))) := ⟨(by rw [hw]; exact (by (with_reducible repeat (first | refine zA ?_ _ | refine zD ?_ | refine zB ?_ _)); refine blk_put (cs := #[.int .i64 t171, .int .i64 t172, .int .i64 t173, .int .u8 0]) ?_ 3 _ rfl; (with_reducible repeat (first | refine zA ?_ _ | refine zD ?_ | refine zB ?_ _)); refine blk_put (cs := #[.int .i64 t171, .int .i64 t172, .int .i64 0, .int .u8 0]) ?_ 2 _ rfl; (with_reducible repeat (first | refine zA ?_ _ | refine zD ?_ | refine zB ?_ _)); refine blk_put (cs := #[.int .i64 t171, .int .i64 0, .int .i64 0, .int .u8 0]) ?_ 1 _ rfl; (with_reducible repeat (first | refine zA ?_ _ | refine zD ?_ | refine zB ?_ _)); refine blk_put (cs := #[.int .i64 0, .int .i64 0, .int .i64 0, .int .u8 0]) ?_ 0 _ rfl; (with_reducible repeat (first | refine zA ?_ _ | refine zD ?_ | refine zB ?_ _)); exact BK175.out))⟩; have n4_ : zC (Below w.heap.size w w18) := ⟨(by rw [hw]; exact (by repeat (first | (with_reducible first | exact HB.out | apply zJ | apply zE | apply zI | refine zF ?_ GE169.out | refine zF ?_ GE170.out | refine zF ?_ GE175.out) | exact HB.out)))⟩; clear hw; clear HO_9; clear BK169; clear BK170; clear BK175; clear HB; have HO_9 := n0_; have BK169 := n1_; have BK170 := n2_; have BK175 := n3_; have HB := n4_; clear n0_ n1_ n2_ n3_ n4_; have hcz19_0 : w18.cell? ⟨gb175, 0, none⟩ = some (.int .i64 t171) := (zH BK175.out 0).trans rfl; have hcz19_1 : w18.cell? ⟨gb175, 1, none⟩ = some (.int .i64 t172) := (zH BK175.out 1).trans rfl; have hcz19_2 : w18.cell? ⟨gb175, 2, none⟩ = some (.int .i64 t173) := (zH BK175.out 2).trans rfl; have hcz19_3 : w18.cell? ⟨gb175, 3, none⟩ = some (.int .u8 t174) := (zH BK175.out 3).trans rfl; have hfz19_0 := zG BK175.out 0; have hfz19_1 := zG BK175.out 1; have hfz19_2 := zG BK175.out 2; have hfz19_3 := zG BK175.out 3) | ((with_reducible refine gate_builtin (b := .append) (xs := #[.tmp 19, .tmp 21]) rfl ?_); at_builtin; refine Kd.R_append k45 (w0 := w) w.heap.size rfl (.tmp 19) (.tmp 21) 40 45 (.agg #[(.int .i64 0), (.int .i64 0), (.int .i64 0), (.int .u8 0)]) 32 rfl Try.underlying40 info45 rfl (by decide) (by omega) u9 x9_1 (⟨t171, t172, t173, t174⟩ : S45) [.int .i64 t171, .int .i64 t172, .int .i64 t173, .int .u8 t174] (fun k_ => k_ ≠ gb175) (fun _ => False) rfl rfl ?aP (fun _ hk => hk.elim) ?aF ?aO ?aB ?aS ?aL ?_; (case aP => exact k45_mkM _ _ _ (⟨t171, t172, t173, t174⟩ : S45)); (case aB => exact (by repeat (first | (with_reducible first | exact HB.out | apply zJ | apply zE | apply zI | refine zF ?_ GE169.out | refine zF ?_ GE170.out | refine zF ?_ GE175.out) | exact HB.out))); (case aF => exact (fun k_ hk => Kd.freshB (g := gb175) (o := .cells #[.int .i64 t171, .int .i64 t172, .int .i64 t173, .int .u8 t174] 45 (0, 0)) (by (with_reducible repeat (first | refine zA ?_ _ | refine zD ?_ | refine zB ?_ _)); exact BK175.out) k_ hk)); (case aO => exact (by (with_reducible repeat (first | apply Kd.R_alloc | apply Kd.R_drewN | apply Kd.R_drew)); exact HO_9.out)); (case aS => exact (below_size (by repeat (first | (with_reducible first | exact HB.out | apply zJ | apply zE | apply zI | refine zF ?_ GE169.out | refine zF ?_ GE170.out | refine zF ?_ GE175.out) | exact HB.out)))); (case aL => have := LMc9.out; omega); intro v177 w20 ho hb hg hat; rw [← Ny176.out] at ho; have n0_ := zC.mk (blk_grown (g := gb169) (o := .cells #[.slice A0_0 l0_0.length c0_0, .slice A0_1 l0_1.length c0_1] 31 (0, 0)) (by (with_reducible repeat (first | refine zA ?_ _ | refine zD ?_ | refine zB ?_ _)); exact BK169.out) hg (Kd.R_ne HO_9.out BK169.out (by decide))); have n1_ := zC.mk (blk_grown (g := gb170) (o := .cells #[.int .i64 a3_0, .int .i64 a3_1, .int .u8 a3_2, .int .i64 a3_3, .int .i64 a3_4, .float .f64 a3_5] 35 (0, 0)) (by (with_reducible repeat (first | refine zA ?_ _ | refine zD ?_ | refine zB ?_ _)); exact BK170.out) hg (Kd.R_ne HO_9.out BK170.out (by decide))); have n2_ := zC.mk (blk_grown (g := gb175) (o := .cells #[.int .i64 t171, .int .i64 t172, .int .i64 t173, .int .u8 t174] 45 (0, 0)) (by (with_reducible repeat (first | refine zA ?_ _ | refine zD ?_ | refine zB ?_ _)); exact BK175.out) hg (Kd.R_away HO_9.out (fun _ hk => hk))); have n3_ := zC.mk (hb); have n4_ := zC.mk (ho); clear BK169; clear BK170; clear BK175; clear HB; clear HO_9; have BK169 := n0_; have BK170 := n1_; have BK175 := n2_; have HB := n3_; have HO178 := n4_; clear n0_ n1_ n2_ n3_ n4_; clear ho hb hg hat; have hcz21_0 : w20.cell? ⟨gb175, 0, none⟩ = some (.int .i64 t171) := (zH BK175.out 0).trans rfl; have hcz21_1 : w20.cell? ⟨gb175, 1, none⟩ = some (.int .i64 t172) := (zH BK175.out 1).trans rfl; have hcz21_2 : w20.cell? ⟨gb175, 2, none⟩ = some (.int .i64 t173) := (zH BK175.out 2).trans rfl; have hcz21_3 : w20.cell? ⟨gb175, 3, none⟩ = some (.int .u8 t174) := (zH BK175.out 3).trans rfl; have hfz21_0 := zG BK175.out 0; have hfz21_1 := zG BK175.out 1; have hfz21_2 := zG BK175.out 2; have hfz21_3 := zG BK175.out 3))
    go_roundg k1
    case measure => have := HK1.out; omega
    case rel => exact ⟨(t172), (y176), (by first | rfl | (simp; done) | (simp [*]; done)), H', ⟨by have := HK1.out; omega⟩, ⟨by (with_reducible repeat (first | apply Kd.R_alloc | apply Kd.R_drewN | apply Kd.R_drew)); exact Kd.R_mono HO178.out (fun _ hk => trivial)⟩, ⟨by (with_reducible repeat (first | refine zA ?_ _ | refine zD ?_ | refine zB ?_ _)); exact BK169.out⟩, ⟨by (with_reducible repeat (first | refine zA ?_ _ | refine zD ?_ | refine zB ?_ _)); exact BK170.out⟩, ⟨by repeat (first | (with_reducible first | exact HB.out | apply zJ | apply zE | apply zI | refine zF ?_ GE169.out | refine zF ?_ GE170.out | refine zF ?_ GE175.out) | exact HB.out)⟩⟩
end Go.Proofs.Ytfeidhmkmbgnoaa.F
end
