/- Printed by a program: Lean functions that answer as the Go functions do, and the proofs of it. -/
import Derived.Test.YtlgclhhkgohanaaProg
import Derived.Below
import Derived.Deep.Draws
import Derived.Deep.AppendLies
import Derived.Maps.AppendAt
import Derived.OwnWalk
import Derived.Laws.BytesArg
import Derived.Laws.MakeOwn
import Derived.Laws.OwnMore
import Derived.Deep.OwnRows
import Derived.Tactics
import Derived.Lib.ConvBytes
import Derived.Laws.Slices
import Derived.WalkKit
import Derived.KernelRfl
import Derived.RowKit3
import Derived.Deep.LoopGhost
import Derived.Deep.QuietTactic
import Derived.BigQuiet
import Derived.WideLaws
import Derived.Deep.DeepCutAuto
import Derived.Deep.CutBlock
import Derived.Deep.RegionHeld3
import Derived.Laws.Rows
import Derived.Lib.AppendStr
import Derived.ArgAppend
import Derived.Laws.IdiomCopy
import Derived.OrdersHeld
import Derived.Laws.BitsLemmas
import Derived.RowKit
import Derived.Laws.FloatArith
import Derived.Test.YtlgclhhkgohanaaXBestOne0
section
namespace Go.Proofs.Ytlgclhhkgohanaa.F
open Go.RowKit Go.Proofs.YtlgclhhkgohanaaW.PrintWords Go.Proofs.YtlgclhhkgohanaaW.PrintLast Go.Proofs.YtlgclhhkgohanaaW.PrintMore
attribute [local go_sem] max2_int min2_int max_two min_two max_three min_three max_four min_four   -- for this text's walks alone
set_option linter.unusedVariables false
set_option linter.unusedSimpArgs false
def errW : Option Int → Value
  | none => .nilIface
  | some c => .iface 0 (.int .i64 c)
theorem errW_none : errW none = .nilIface := rfl
theorem errW_some (c : Int) : errW (some c) = .iface 0 (.int .i64 c) := rfl
theorem info3 : (Try.prog.info? 3).map (fun i => (i.zero, i.size, i.bytes)) = some (some (.int .i64 0), 1, 8) := by kernel_rfl
theorem info45 : (Try.prog.info? 45).map (fun i => (i.zero, i.size, i.bytes)) = some (some (.agg #[(.int .u8 0), (.int .u8 0), (.int .u8 0), (.int .u8 0)]), 4, 4) := by kernel_rfl
theorem info46 : (Try.prog.info? 46).map (fun i => (i.zero, i.size, i.bytes)) = some (some (.int .u8 0), 1, 1) := by kernel_rfl
theorem info48 : (Try.prog.info? 48).map (fun i => (i.zero, i.size, i.bytes)) = some (some (.agg #[(.int .i64 0), (.int .i64 0), (.int .i64 0), (.int .u8 0)]), 4, 32) := by kernel_rfl
theorem info62 : (Try.prog.info? 62).map (fun i => (i.zero, i.size, i.bytes)) = some (some (.agg #[(.int .i64 0), (.int .i64 0), (.int .i64 0), (.int .u8 0)]), 4, 32) := by kernel_rfl
theorem info65 : (Try.prog.info? 65).map (fun i => (i.zero, i.size, i.bytes)) = some (some (.agg #[(.int .i64 0), (.int .i64 0)]), 2, 16) := by kernel_rfl
structure S62 where
  f0 : Int
  f1 : Int
  f2 : Int
  f3 : Int
def z62 : S62 := ⟨(0 : Int), (0 : Int), (0 : Int), (0 : Int)⟩
def k62 : Kd S62 := Kd.iso (Kd.pair (Kd.int .i64) (Kd.pair (Kd.int .i64) (Kd.pair (Kd.int .i64) (Kd.int .u8)))) (fun x : S62 => (x.f0, x.f1, x.f2, x.f3))
theorem k62_open {w : World} {x : S62} {cs : List Value} (h : k62.K w x cs) : cs = [.int .i64 x.f0, .int .i64 x.f1, .int .i64 x.f2, .int .u8 x.f3] := by
  obtain ⟨_, _, rfl, rfl, ⟨_, _, rfl, rfl, ⟨_, _, rfl, rfl, rfl⟩⟩⟩ := h; exact rfl
theorem k62_openM {w : World} {base : Nat} {ok : Nat → Prop} {x : S62} {cs : List Value} (h : k62.M w base ok x cs) : cs = [.int .i64 x.f0, .int .i64 x.f1, .int .i64 x.f2, .int .u8 x.f3] := by
  obtain ⟨_, _, rfl, rfl, ⟨_, _, rfl, rfl, ⟨_, _, rfl, rfl, rfl⟩⟩⟩ := h; exact rfl
theorem k62_mk (w : World) (x : S62)  : k62.K w x [.int .i64 x.f0, .int .i64 x.f1, .int .i64 x.f2, .int .u8 x.f3] := ⟨[.int .i64 x.f0], [.int .i64 x.f1, .int .i64 x.f2, .int .u8 x.f3], rfl, rfl, ⟨[.int .i64 x.f1], [.int .i64 x.f2, .int .u8 x.f3], rfl, rfl, ⟨[.int .i64 x.f2], [.int .u8 x.f3], rfl, rfl, rfl⟩⟩⟩
theorem k62_mkM (w : World) (base : Nat) (ok : Nat → Prop) (x : S62)  : k62.M w base ok x [.int .i64 x.f0, .int .i64 x.f1, .int .i64 x.f2, .int .u8 x.f3] := ⟨[.int .i64 x.f0], [.int .i64 x.f1, .int .i64 x.f2, .int .u8 x.f3], rfl, rfl, ⟨[.int .i64 x.f1], [.int .i64 x.f2, .int .u8 x.f3], rfl, rfl, ⟨[.int .i64 x.f2], [.int .u8 x.f3], rfl, rfl, rfl⟩⟩⟩
def rd_T62 (xs : List S62) (i : Int) : S62 := xs.getD i.toNat z62
theorem at_T62 {w : World} {A : Option Addr} {n : Nat} {xs : List S62} (h : Kd.C k62 w A n xs) (i : Int) (h0 : 0 ≤ i) (h1 : i < n) : ∃ ad , A = some ad ∧ w.cell? (ad.add (i.toNat * 4)) = some (.int .i64 (rd_T62 xs i).f0) ∧ w.cell? ⟨(ad.add (i.toNat * 4)).block, (ad.add (i.toNat * 4)).off + 1, none⟩ = some (.int .i64 (rd_T62 xs i).f1) ∧ w.cell? ⟨(ad.add (i.toNat * 4)).block, (ad.add (i.toNat * 4)).off + 2, none⟩ = some (.int .i64 (rd_T62 xs i).f2) ∧ w.cell? ⟨(ad.add (i.toNat * 4)).block, (ad.add (i.toNat * 4)).off + 3, none⟩ = some (.int .u8 (rd_T62 xs i).f3) := by
  obtain ⟨ad, c, e, _, hK, hc0⟩ := Kd.C_get h z62 i h0 h1; have hc : ∀ j u, c[j]? = some u → w.cell? (ad.add (i.toNat * 4 + j)) = some u := hc0
  obtain rfl := k62_open hK
  exact ⟨ad, e, hc 0 _ rfl, by rw [← add_field _ _ 1 (by omega)]; exact hc 1 _ rfl, by rw [← add_field _ _ 2 (by omega)]; exact hc 2 _ rfl, by rw [← add_field _ _ 3 (by omega)]; exact hc 3 _ rfl⟩
structure S65 where
  f0 : Int
  f1 : Int
def z65 : S65 := ⟨(0 : Int), (0 : Int)⟩
def k65 : Kd S65 := Kd.iso (Kd.pair (Kd.int .i64) (Kd.int .i64)) (fun x : S65 => (x.f0, x.f1))
theorem k65_open {w : World} {x : S65} {cs : List Value} (h : k65.K w x cs) : cs = [.int .i64 x.f0, .int .i64 x.f1] := by
  obtain ⟨_, _, rfl, rfl, rfl⟩ := h; exact rfl
theorem k65_openM {w : World} {base : Nat} {ok : Nat → Prop} {x : S65} {cs : List Value} (h : k65.M w base ok x cs) : cs = [.int .i64 x.f0, .int .i64 x.f1] := by
  obtain ⟨_, _, rfl, rfl, rfl⟩ := h; exact rfl
theorem k65_mk (w : World) (x : S65)  : k65.K w x [.int .i64 x.f0, .int .i64 x.f1] := ⟨[.int .i64 x.f0], [.int .i64 x.f1], rfl, rfl, rfl⟩
theorem k65_mkM (w : World) (base : Nat) (ok : Nat → Prop) (x : S65)  : k65.M w base ok x [.int .i64 x.f0, .int .i64 x.f1] := ⟨[.int .i64 x.f0], [.int .i64 x.f1], rfl, rfl, rfl⟩
def rd_T65 (xs : List S65) (i : Int) : S65 := xs.getD i.toNat z65
theorem at_T65 {w : World} {A : Option Addr} {n : Nat} {xs : List S65} (h : Kd.C k65 w A n xs) (i : Int) (h0 : 0 ≤ i) (h1 : i < n) : ∃ ad , A = some ad ∧ w.cell? (ad.add (i.toNat * 2)) = some (.int .i64 (rd_T65 xs i).f0) ∧ w.cell? ⟨(ad.add (i.toNat * 2)).block, (ad.add (i.toNat * 2)).off + 1, none⟩ = some (.int .i64 (rd_T65 xs i).f1) := by
  obtain ⟨ad, c, e, _, hK, hc0⟩ := Kd.C_get h z65 i h0 h1; have hc : ∀ j u, c[j]? = some u → w.cell? (ad.add (i.toNat * 2 + j)) = some u := hc0
  obtain rfl := k65_open hK
  exact ⟨ad, e, hc 0 _ rfl, by rw [← add_field _ _ 1 (by omega)]; exact hc 1 _ rfl⟩
structure S48 where
  f0 : Int
  f1 : Int
  f2 : Int
  f3 : Int
def z48 : S48 := ⟨(0 : Int), (0 : Int), (0 : Int), (0 : Int)⟩
def k48 : Kd S48 := Kd.iso (Kd.pair (Kd.int .i64) (Kd.pair (Kd.int .i64) (Kd.pair (Kd.int .i64) (Kd.int .u8)))) (fun x : S48 => (x.f0, x.f1, x.f2, x.f3))
theorem k48_open {w : World} {x : S48} {cs : List Value} (h : k48.K w x cs) : cs = [.int .i64 x.f0, .int .i64 x.f1, .int .i64 x.f2, .int .u8 x.f3] := by
  obtain ⟨_, _, rfl, rfl, ⟨_, _, rfl, rfl, ⟨_, _, rfl, rfl, rfl⟩⟩⟩ := h; exact rfl
theorem k48_openM {w : World} {base : Nat} {ok : Nat → Prop} {x : S48} {cs : List Value} (h : k48.M w base ok x cs) : cs = [.int .i64 x.f0, .int .i64 x.f1, .int .i64 x.f2, .int .u8 x.f3] := by
  obtain ⟨_, _, rfl, rfl, ⟨_, _, rfl, rfl, ⟨_, _, rfl, rfl, rfl⟩⟩⟩ := h; exact rfl
theorem k48_mk (w : World) (x : S48)  : k48.K w x [.int .i64 x.f0, .int .i64 x.f1, .int .i64 x.f2, .int .u8 x.f3] := ⟨[.int .i64 x.f0], [.int .i64 x.f1, .int .i64 x.f2, .int .u8 x.f3], rfl, rfl, ⟨[.int .i64 x.f1], [.int .i64 x.f2, .int .u8 x.f3], rfl, rfl, ⟨[.int .i64 x.f2], [.int .u8 x.f3], rfl, rfl, rfl⟩⟩⟩
theorem k48_mkM (w : World) (base : Nat) (ok : Nat → Prop) (x : S48)  : k48.M w base ok x [.int .i64 x.f0, .int .i64 x.f1, .int .i64 x.f2, .int .u8 x.f3] := ⟨[.int .i64 x.f0], [.int .i64 x.f1, .int .i64 x.f2, .int .u8 x.f3], rfl, rfl, ⟨[.int .i64 x.f1], [.int .i64 x.f2, .int .u8 x.f3], rfl, rfl, ⟨[.int .i64 x.f2], [.int .u8 x.f3], rfl, rfl, rfl⟩⟩⟩
def rd_T48 (xs : List S48) (i : Int) : S48 := xs.getD i.toNat z48
theorem at_T48 {w : World} {A : Option Addr} {n : Nat} {xs : List S48} (h : Kd.C k48 w A n xs) (i : Int) (h0 : 0 ≤ i) (h1 : i < n) : ∃ ad , A = some ad ∧ w.cell? (ad.add (i.toNat * 4)) = some (.int .i64 (rd_T48 xs i).f0) ∧ w.cell? ⟨(ad.add (i.toNat * 4)).block, (ad.add (i.toNat * 4)).off + 1, none⟩ = some (.int .i64 (rd_T48 xs i).f1) ∧ w.cell? ⟨(ad.add (i.toNat * 4)).block, (ad.add (i.toNat * 4)).off + 2, none⟩ = some (.int .i64 (rd_T48 xs i).f2) ∧ w.cell? ⟨(ad.add (i.toNat * 4)).block, (ad.add (i.toNat * 4)).off + 3, none⟩ = some (.int .u8 (rd_T48 xs i).f3) := by
  obtain ⟨ad, c, e, _, hK, hc0⟩ := Kd.C_get h z48 i h0 h1; have hc : ∀ j u, c[j]? = some u → w.cell? (ad.add (i.toNat * 4 + j)) = some u := hc0
  obtain rfl := k48_open hK
  exact ⟨ad, e, hc 0 _ rfl, by rw [← add_field _ _ 1 (by omega)]; exact hc 1 _ rfl, by rw [← add_field _ _ 2 (by omega)]; exact hc 2 _ rfl, by rw [← add_field _ _ 3 (by omega)]; exact hc 3 _ rfl⟩
structure S45 where
  f0 : Int
  f1 : Int
  f2 : Int
  f3 : Int
def z45 : S45 := ⟨(0 : Int), (0 : Int), (0 : Int), (0 : Int)⟩
def k45 : Kd S45 := Kd.iso (Kd.pair (Kd.int .u8) (Kd.pair (Kd.int .u8) (Kd.pair (Kd.int .u8) (Kd.int .u8)))) (fun x : S45 => (x.f0, x.f1, x.f2, x.f3))
theorem k45_open {w : World} {x : S45} {cs : List Value} (h : k45.K w x cs) : cs = [.int .u8 x.f0, .int .u8 x.f1, .int .u8 x.f2, .int .u8 x.f3] := by
  obtain ⟨_, _, rfl, rfl, ⟨_, _, rfl, rfl, ⟨_, _, rfl, rfl, rfl⟩⟩⟩ := h; exact rfl
theorem k45_openM {w : World} {base : Nat} {ok : Nat → Prop} {x : S45} {cs : List Value} (h : k45.M w base ok x cs) : cs = [.int .u8 x.f0, .int .u8 x.f1, .int .u8 x.f2, .int .u8 x.f3] := by
  obtain ⟨_, _, rfl, rfl, ⟨_, _, rfl, rfl, ⟨_, _, rfl, rfl, rfl⟩⟩⟩ := h; exact rfl
theorem k45_mk (w : World) (x : S45)  : k45.K w x [.int .u8 x.f0, .int .u8 x.f1, .int .u8 x.f2, .int .u8 x.f3] := ⟨[.int .u8 x.f0], [.int .u8 x.f1, .int .u8 x.f2, .int .u8 x.f3], rfl, rfl, ⟨[.int .u8 x.f1], [.int .u8 x.f2, .int .u8 x.f3], rfl, rfl, ⟨[.int .u8 x.f2], [.int .u8 x.f3], rfl, rfl, rfl⟩⟩⟩
theorem k45_mkM (w : World) (base : Nat) (ok : Nat → Prop) (x : S45)  : k45.M w base ok x [.int .u8 x.f0, .int .u8 x.f1, .int .u8 x.f2, .int .u8 x.f3] := ⟨[.int .u8 x.f0], [.int .u8 x.f1, .int .u8 x.f2, .int .u8 x.f3], rfl, rfl, ⟨[.int .u8 x.f1], [.int .u8 x.f2, .int .u8 x.f3], rfl, rfl, ⟨[.int .u8 x.f2], [.int .u8 x.f3], rfl, rfl, rfl⟩⟩⟩
def rd_T45 (xs : List S45) (i : Int) : S45 := xs.getD i.toNat z45
theorem at_T45 {w : World} {A : Option Addr} {n : Nat} {xs : List S45} (h : Kd.C k45 w A n xs) (i : Int) (h0 : 0 ≤ i) (h1 : i < n) : ∃ ad , A = some ad ∧ w.cell? (ad.add (i.toNat * 4)) = some (.int .u8 (rd_T45 xs i).f0) ∧ w.cell? ⟨(ad.add (i.toNat * 4)).block, (ad.add (i.toNat * 4)).off + 1, none⟩ = some (.int .u8 (rd_T45 xs i).f1) ∧ w.cell? ⟨(ad.add (i.toNat * 4)).block, (ad.add (i.toNat * 4)).off + 2, none⟩ = some (.int .u8 (rd_T45 xs i).f2) ∧ w.cell? ⟨(ad.add (i.toNat * 4)).block, (ad.add (i.toNat * 4)).off + 3, none⟩ = some (.int .u8 (rd_T45 xs i).f3) := by
  obtain ⟨ad, c, e, _, hK, hc0⟩ := Kd.C_get h z45 i h0 h1; have hc : ∀ j u, c[j]? = some u → w.cell? (ad.add (i.toNat * 4 + j)) = some u := hc0
  obtain rfl := k45_open hK
  exact ⟨ad, e, hc 0 _ rfl, by rw [← add_field _ _ 1 (by omega)]; exact hc 1 _ rfl, by rw [← add_field _ _ 2 (by omega)]; exact hc 2 _ rfl, by rw [← add_field _ _ 3 (by omega)]; exact hc 3 _ rfl⟩
def rd_L6 (xs : List (List S45)) (i : Int) : (List S45) := xs.getD i.toNat ([] : List S45)
theorem at_L6 {w : World} {A : Option Addr} {n : Nat} {xs : List (List S45)} (h : Kd.C (Kd.slice 45 k45) w A n xs) (i : Int) (h0 : 0 ≤ i) (h1 : i < n) : ∃ ad A0 c0, A = some ad ∧ w.cell? (ad.add i.toNat) = some (.slice A0 (rd_L6 xs i).length c0) ∧ (rd_L6 xs i).length ≤ c0 ∧ k45.C w A0 (rd_L6 xs i).length (rd_L6 xs i) := by
  obtain ⟨ad, c, e, _, hK, hc0⟩ := Kd.C_get h ([] : List S45) i h0 h1; have hc : ∀ j u, c[j]? = some u → w.cell? (ad.add (i.toNat * 1 + j)) = some u := hc0
  obtain ⟨A0, c0, rfl, l0, g0⟩ := hK; exact ⟨ad, A0, c0, e, by have hq := hc 0 _ rfl; rwa [Nat.mul_one, Nat.add_zero] at hq, l0, g0⟩
structure S26 where
  f0 : Int
  f1 : Int
  f2 : Int
  f3 : Int
  f4 : Int
  f5 : Nat
def z26 : S26 := ⟨(0 : Int), (0 : Int), (0 : Int), (0 : Int), (0 : Int), (0 : Nat)⟩
def k26 : Kd S26 := Kd.iso (Kd.pair (Kd.int .u8) (Kd.pair (Kd.int .u8) (Kd.pair (Kd.int .u8) (Kd.pair (Kd.int .u16) (Kd.pair (Kd.int .u16) Kd.f64))))) (fun x : S26 => (x.f0, x.f1, x.f2, x.f3, x.f4, x.f5))
theorem k26_open {w : World} {x : S26} {cs : List Value} (h : k26.K w x cs) : cs = [.int .u8 x.f0, .int .u8 x.f1, .int .u8 x.f2, .int .u16 x.f3, .int .u16 x.f4, .float .f64 x.f5] := by
  obtain ⟨_, _, rfl, rfl, ⟨_, _, rfl, rfl, ⟨_, _, rfl, rfl, ⟨_, _, rfl, rfl, ⟨_, _, rfl, rfl, rfl⟩⟩⟩⟩⟩ := h; exact rfl
theorem k26_openM {w : World} {base : Nat} {ok : Nat → Prop} {x : S26} {cs : List Value} (h : k26.M w base ok x cs) : cs = [.int .u8 x.f0, .int .u8 x.f1, .int .u8 x.f2, .int .u16 x.f3, .int .u16 x.f4, .float .f64 x.f5] := by
  obtain ⟨_, _, rfl, rfl, ⟨_, _, rfl, rfl, ⟨_, _, rfl, rfl, ⟨_, _, rfl, rfl, ⟨_, _, rfl, rfl, rfl⟩⟩⟩⟩⟩ := h; exact rfl
theorem k26_mk (w : World) (x : S26)  : k26.K w x [.int .u8 x.f0, .int .u8 x.f1, .int .u8 x.f2, .int .u16 x.f3, .int .u16 x.f4, .float .f64 x.f5] := ⟨[.int .u8 x.f0], [.int .u8 x.f1, .int .u8 x.f2, .int .u16 x.f3, .int .u16 x.f4, .float .f64 x.f5], rfl, rfl, ⟨[.int .u8 x.f1], [.int .u8 x.f2, .int .u16 x.f3, .int .u16 x.f4, .float .f64 x.f5], rfl, rfl, ⟨[.int .u8 x.f2], [.int .u16 x.f3, .int .u16 x.f4, .float .f64 x.f5], rfl, rfl, ⟨[.int .u16 x.f3], [.int .u16 x.f4, .float .f64 x.f5], rfl, rfl, ⟨[.int .u16 x.f4], [.float .f64 x.f5], rfl, rfl, rfl⟩⟩⟩⟩⟩
theorem k26_mkM (w : World) (base : Nat) (ok : Nat → Prop) (x : S26)  : k26.M w base ok x [.int .u8 x.f0, .int .u8 x.f1, .int .u8 x.f2, .int .u16 x.f3, .int .u16 x.f4, .float .f64 x.f5] := ⟨[.int .u8 x.f0], [.int .u8 x.f1, .int .u8 x.f2, .int .u16 x.f3, .int .u16 x.f4, .float .f64 x.f5], rfl, rfl, ⟨[.int .u8 x.f1], [.int .u8 x.f2, .int .u16 x.f3, .int .u16 x.f4, .float .f64 x.f5], rfl, rfl, ⟨[.int .u8 x.f2], [.int .u16 x.f3, .int .u16 x.f4, .float .f64 x.f5], rfl, rfl, ⟨[.int .u16 x.f3], [.int .u16 x.f4, .float .f64 x.f5], rfl, rfl, ⟨[.int .u16 x.f4], [.float .f64 x.f5], rfl, rfl, rfl⟩⟩⟩⟩⟩
def rd_T26 (xs : List S26) (i : Int) : S26 := xs.getD i.toNat z26
theorem at_T26 {w : World} {A : Option Addr} {n : Nat} {xs : List S26} (h : Kd.C k26 w A n xs) (i : Int) (h0 : 0 ≤ i) (h1 : i < n) : ∃ ad , A = some ad ∧ w.cell? (ad.add (i.toNat * 6)) = some (.int .u8 (rd_T26 xs i).f0) ∧ w.cell? ⟨(ad.add (i.toNat * 6)).block, (ad.add (i.toNat * 6)).off + 1, none⟩ = some (.int .u8 (rd_T26 xs i).f1) ∧ w.cell? ⟨(ad.add (i.toNat * 6)).block, (ad.add (i.toNat * 6)).off + 2, none⟩ = some (.int .u8 (rd_T26 xs i).f2) ∧ w.cell? ⟨(ad.add (i.toNat * 6)).block, (ad.add (i.toNat * 6)).off + 3, none⟩ = some (.int .u16 (rd_T26 xs i).f3) ∧ w.cell? ⟨(ad.add (i.toNat * 6)).block, (ad.add (i.toNat * 6)).off + 4, none⟩ = some (.int .u16 (rd_T26 xs i).f4) ∧ w.cell? ⟨(ad.add (i.toNat * 6)).block, (ad.add (i.toNat * 6)).off + 5, none⟩ = some (.float .f64 (rd_T26 xs i).f5) := by
  obtain ⟨ad, c, e, _, hK, hc0⟩ := Kd.C_get h z26 i h0 h1; have hc : ∀ j u, c[j]? = some u → w.cell? (ad.add (i.toNat * 6 + j)) = some u := hc0
  obtain rfl := k26_open hK
  exact ⟨ad, e, hc 0 _ rfl, by rw [← add_field _ _ 1 (by omega)]; exact hc 1 _ rfl, by rw [← add_field _ _ 2 (by omega)]; exact hc 2 _ rfl, by rw [← add_field _ _ 3 (by omega)]; exact hc 3 _ rfl, by rw [← add_field _ _ 4 (by omega)]; exact hc 4 _ rfl, by rw [← add_field _ _ 5 (by omega)]; exact hc 5 _ rfl⟩
end Go.Proofs.Ytlgclhhkgohanaa.F
end
section
namespace Go.Proofs.Ytlgclhhkgohanaa.F
open Go.RowKit Go.Proofs.YtlgclhhkgohanaaW.PrintWords Go.Proofs.YtlgclhhkgohanaaW.PrintLast Go.Proofs.YtlgclhhkgohanaaW.PrintMore
attribute [local go_sem] max2_int min2_int max_two min_two max_three min_three max_four min_four   -- for this text's walks alone
set_option linter.unusedVariables false
set_option linter.unusedSimpArgs false
def span_Ends.f (l0_0 : List (S62)) (l0_1 : List Int) (a1 : Int) : Option (Int × Bool) := if 0 ≤ a1 then (if a1 < (l0_1.length : Int) then (some (rd l0_1 a1, ((rd l0_1 a1) != 0))) else (none)) else (none)
set_option maxHeartbeats 8000000 in
set_option maxRecDepth 100000 in
theorem span_Ends.calls (A0_0 : Option Addr) (c0_0 : Nat) (l0_0 : List (S62)) (A0_1 : Option Addr) (c0_1 : Nat) (l0_1 : List Int) (a1 : Int) (r1 : Int) (r2 : Bool) (w : World) (hr0_0 : Kd.C k62 w A0_0 l0_0.length l0_0) (hc0_0 : l0_0.length ≤ c0_0) (hr0_1 : Kd.C (Kd.int .u8) w A0_1 l0_1.length l0_1) (hc0_1 : l0_1.length ≤ c0_1) (h : span_Ends.f l0_0 l0_1 a1 = some (r1, r2)) :
    Calls Try.prog 30 #[.agg #[.slice A0_0 l0_0.length c0_0, .slice A0_1 l0_1.length c0_1], .int .i64 a1] w fun e w' => e = .returned (.tuple #[.int .u8 r1, .bool r2]) ∧ Below w.heap.size w w' := by
  have hu31 := Try.underlying31; have HR0_0 := zB.mk hr0_0; have HC0_0 := zB.mk hc0_0; clear hr0_0 hc0_0; have HR0_1 := zB.mk hr0_1; have HC0_1 := zB.mk hc0_1; clear hr0_1 hc0_1; have HB := zB.mk (Below.refl w.heap.size w); have H : (if 0 ≤ a1 then (if a1 < (l0_1.length : Int) then (some (rd l0_1 a1, ((rd l0_1 a1) != 0))) else (none)) else (none)) = some (r1, r2) := h
  clear h; by_cases c3 : 0 ≤ a1
  rotate_left
  · rw [if_neg c3] at H
    exact absurd H (by simp)
  rw [if_pos c3] at H; have c3b0 : decide (0 ≤ a1) = true := decide_eq_true c3
  clear c3; by_cases c4 : a1 < (l0_1.length : Int)
  rotate_left
  · rw [if_neg c4] at H
    exact absurd H (by simp)
  rw [if_pos c4] at H; have c4b0 : decide (a1 < (l0_1.length : Int)) = true := decide_eq_true c4
  clear c4; simp only [Option.some.injEq, Prod.mk.injEq] at H; obtain ⟨rfl, rfl⟩ := H; go_enter Try.func30, Try.ntmps30
  go_wp2_with (first | ((with_reducible refine gate_dst (N := 2) rfl ?_); refine box_event ?hg (N := 2) ?hd (cs := #[.slice A0_0 l0_0.length c0_0, .slice A0_1 l0_1.length c0_1]) (t := 31) ?hr ?_; (case hd => rfl); (case hg => rfl); (case hr => first | (go_simp; done) | (go_simp; rfl)); intro gb101 hg w5 hbox hb; have n0_ := zB.mk (zO (by repeat (first | (with_reducible first | exact HB.out | apply zJ | apply zF | apply zH) | exact HB.out)) hb); have n1_ := zB.mk (hbox); have n2_ := zB.mk ((by rw [hg]; exact (zM (by repeat (first | (with_reducible first | exact HB.out | apply zJ | apply zF | apply zH) | exact HB.out))) : w.heap.size ≤ gb101)); have n3_ := zB.mk ((by rw [hg]; exact (zM (by repeat (first | (with_reducible first | exact HB.out | apply zJ | apply zF | apply zH) | exact HB.out))) : w.heap.size ≤ gb101)); clear HB; have HB := n0_; have BK101 := n1_; have GW101 := n2_; have GE101 := n3_; clear n0_ n1_ n2_ n3_; clear hb hbox hg; have hcz6_0 : w5.cell? ⟨gb101, 0, none⟩ = some (.slice A0_0 l0_0.length c0_0) := (zG BK101.out 0).trans rfl; have hcz6_1 : w5.cell? ⟨gb101, 1, none⟩ = some (.slice A0_1 l0_1.length c0_1) := (zG BK101.out 1).trans rfl; have hfz6_0 := zI BK101.out 0; have hfz6_1 := zI BK101.out 1; have p102 : 0 ≤ (a1 : Int) := of_decide_eq_true (by first | (with_reducible assumption) | assumption); have q102 : a1 < (l0_1.length : Int) := of_decide_eq_true (by first | (with_reducible assumption) | assumption); obtain ⟨ad102, e102, hx102_0⟩ := Kd.at_int HR0_1.out a1 p102 q102; cases e102; replace hx102_0 := (HB.out.cell (World.block_lt_of_cell? w _ hx102_0)).trans hx102_0; replace p102 := eq_true p102; replace q102 := eq_true q102; have p103 : 0 ≤ (a1 : Int) := of_decide_eq_true (by first | (with_reducible assumption) | assumption); have q103 : a1 < (l0_1.length : Int) := of_decide_eq_true (by first | (with_reducible assumption) | assumption); obtain ⟨ad103, e103, hx103_0⟩ := Kd.at_int HR0_1.out a1 p103 q103; obtain rfl : ad102 = ad103 := (by injection e103); replace hx103_0 := (HB.out.cell (World.block_lt_of_cell? w _ hx103_0)).trans hx103_0; replace p103 := eq_true p103; replace q103 := eq_true q103))
  repeat (go_quiet (first | ((with_reducible refine gate_dst (N := 2) rfl ?_); refine box_event ?hg (N := 2) ?hd (cs := #[.slice A0_0 l0_0.length c0_0, .slice A0_1 l0_1.length c0_1]) (t := 31) ?hr ?_; (case hd => rfl); (case hg => rfl); (case hr => first | (go_simp; done) | (go_simp; rfl)); intro gb101 hg w5 hbox hb; have n0_ := zB.mk (zO (by repeat (first | (with_reducible first | exact HB.out | apply zJ | apply zF | apply zH) | exact HB.out)) hb); have n1_ := zB.mk (hbox); have n2_ := zB.mk ((by rw [hg]; exact (zM (by repeat (first | (with_reducible first | exact HB.out | apply zJ | apply zF | apply zH) | exact HB.out))) : w.heap.size ≤ gb101)); have n3_ := zB.mk ((by rw [hg]; exact (zM (by repeat (first | (with_reducible first | exact HB.out | apply zJ | apply zF | apply zH) | exact HB.out))) : w.heap.size ≤ gb101)); clear HB; have HB := n0_; have BK101 := n1_; have GW101 := n2_; have GE101 := n3_; clear n0_ n1_ n2_ n3_; clear hb hbox hg; have hcz6_0 : w5.cell? ⟨gb101, 0, none⟩ = some (.slice A0_0 l0_0.length c0_0) := (zG BK101.out 0).trans rfl; have hcz6_1 : w5.cell? ⟨gb101, 1, none⟩ = some (.slice A0_1 l0_1.length c0_1) := (zG BK101.out 1).trans rfl; have hfz6_0 := zI BK101.out 0; have hfz6_1 := zI BK101.out 1; have p102 : 0 ≤ (a1 : Int) := of_decide_eq_true (by first | (with_reducible assumption) | assumption); have q102 : a1 < (l0_1.length : Int) := of_decide_eq_true (by first | (with_reducible assumption) | assumption); obtain ⟨ad102, e102, hx102_0⟩ := Kd.at_int HR0_1.out a1 p102 q102; cases e102; replace hx102_0 := (HB.out.cell (World.block_lt_of_cell? w _ hx102_0)).trans hx102_0; replace p102 := eq_true p102; replace q102 := eq_true q102; have p103 : 0 ≤ (a1 : Int) := of_decide_eq_true (by first | (with_reducible assumption) | assumption); have q103 : a1 < (l0_1.length : Int) := of_decide_eq_true (by first | (with_reducible assumption) | assumption); obtain ⟨ad103, e103, hx103_0⟩ := Kd.at_int HR0_1.out a1 p103 q103; obtain rfl : ad102 = ad103 := (by injection e103); replace hx103_0 := (HB.out.cell (World.block_lt_of_cell? w _ hx103_0)).trans hx103_0; replace p103 := eq_true p103; replace q103 := eq_true q103)); try go_wp2_with (first | ((with_reducible refine gate_dst (N := 2) rfl ?_); refine box_event ?hg (N := 2) ?hd (cs := #[.slice A0_0 l0_0.length c0_0, .slice A0_1 l0_1.length c0_1]) (t := 31) ?hr ?_; (case hd => rfl); (case hg => rfl); (case hr => first | (go_simp; done) | (go_simp; rfl)); intro gb101 hg w5 hbox hb; have n0_ := zB.mk (zO (by repeat (first | (with_reducible first | exact HB.out | apply zJ | apply zF | apply zH) | exact HB.out)) hb); have n1_ := zB.mk (hbox); have n2_ := zB.mk ((by rw [hg]; exact (zM (by repeat (first | (with_reducible first | exact HB.out | apply zJ | apply zF | apply zH) | exact HB.out))) : w.heap.size ≤ gb101)); have n3_ := zB.mk ((by rw [hg]; exact (zM (by repeat (first | (with_reducible first | exact HB.out | apply zJ | apply zF | apply zH) | exact HB.out))) : w.heap.size ≤ gb101)); clear HB; have HB := n0_; have BK101 := n1_; have GW101 := n2_; have GE101 := n3_; clear n0_ n1_ n2_ n3_; clear hb hbox hg; have hcz6_0 : w5.cell? ⟨gb101, 0, none⟩ = some (.slice A0_0 l0_0.length c0_0) := (zG BK101.out 0).trans rfl; have hcz6_1 : w5.cell? ⟨gb101, 1, none⟩ = some (.slice A0_1 l0_1.length c0_1) := (zG BK101.out 1).trans rfl; have hfz6_0 := zI BK101.out 0; have hfz6_1 := zI BK101.out 1; have p102 : 0 ≤ (a1 : Int) := of_decide_eq_true (by first | (with_reducible assumption) | assumption); have q102 : a1 < (l0_1.length : Int) := of_decide_eq_true (by first | (with_reducible assumption) | assumption); obtain ⟨ad102, e102, hx102_0⟩ := Kd.at_int HR0_1.out a1 p102 q102; cases e102; replace hx102_0 := (HB.out.cell (World.block_lt_of_cell? w _ hx102_0)).trans hx102_0; replace p102 := eq_true p102; replace q102 := eq_true q102; have p103 : 0 ≤ (a1 : Int) := of_decide_eq_true (by first | (with_reducible assumption) | assumption); have q103 : a1 < (l0_1.length : Int) := of_decide_eq_true (by first | (with_reducible assumption) | assumption); obtain ⟨ad103, e103, hx103_0⟩ := Kd.at_int HR0_1.out a1 p103 q103; obtain rfl : ad102 = ad103 := (by injection e103); replace hx103_0 := (HB.out.cell (World.block_lt_of_cell? w _ hx103_0)).trans hx103_0; replace p103 := eq_true p103; replace q103 := eq_true q103)))
  go_ret2
  exact ⟨by first | rfl | (simp [errW_none, errW_some] <;> rfl) | (simp [*, errW_none, errW_some] <;> rfl), by repeat (first | (with_reducible first | exact HB.out | apply zJ | apply zF | apply zH | refine zE ?_ GE101.out) | exact HB.out)⟩
def ratio_Of.f (a0 : Int) (a1 : Int) : Option Nat := some (fop .quo (floatOfInt .f64 a0) (floatOfInt .f64 a1))
set_option maxHeartbeats 8000000 in
set_option maxRecDepth 100000 in
theorem ratio_Of.calls (a0 : Int) (a1 : Int) (r : Nat) (w : World) (h : ratio_Of.f a0 a1 = some r) :
    Calls Try.prog 41 #[.int .i64 a0, .int .i64 a1] w fun e w' => ∃ b_ : Nat, e = .returned (.float .f64 b_) ∧ Drawn0 w w' ∧ FR r b_ := by
  have hu3 : (Try.prog.underlying 3).isSome = true := by kernel_rfl
  have hu24 := Try.underlying24; obtain rfl := Option.some.inj h
  obtain ⟨b, m, hrun, hb⟩ := run_rough (P := Try.prog) w .quo (by simp) 24 (floatOfInt .f64 a0) (floatOfInt .f64 a1)
  go_enter Try.func41, Try.ntmps41
  go_wp2
  go_ret
  exact ⟨b, rfl, ⟨⟨m, rfl⟩⟩, fr_fop hb⟩
def ratio_Fits.f (a0 : Nat) (a1 : Nat) : Option Bool := some (!(FloatKind.f64.format.order a0 a1 == some .gt))
set_option maxHeartbeats 8000000 in
set_option maxRecDepth 100000 in
theorem ratio_Fits.calls (a0 : Nat) (a1 : Nat) (r : Bool) (w : World) (h : ratio_Fits.f a0 a1 = some r) {b0_ : Nat} (hf0_ : zB (FR a0 b0_) := by first | assumption | exact ⟨FR.same _⟩) {b1_ : Nat} (hf1_ : zB (FR a1 b1_) := by first | assumption | exact ⟨FR.same _⟩) :
    Calls Try.prog 42 #[.float .f64 b0_, .float .f64 b1_] w fun e w' => e = .returned (.bool r) ∧ Drawn0 w w' := by
  have hu24 := Try.underlying24; obtain rfl := Option.some.inj h
  go_enter Try.func42, Try.ntmps42
  go_wp2
  go_ret
  exact ⟨by rw [hf0_.out.order_l, hf1_.out.order_r]; rfl, Drawn0.refl _⟩
def absb (x : Nat) : Nat := (Go.bits .andNot .u64 (x : Int) 9223372036854775808).toNat
def cube (x : Nat) : Nat := fop .mul (fop .mul (fop .mul 4636737291354636288 (absb x)) (absb x)) (absb x)
def ratio_Badness.f (a0 : Nat) : Option Int := if isNan a0 = true then some 0 else if (FloatKind.f64.format.order (cube a0) 4666723172467343360 == some .lt) = true then floatToIntVal .f64 (cube a0) .i64 else some 10000
set_option maxHeartbeats 8000000 in
set_option maxRecDepth 100000 in
theorem ratio_Badness.calls (a0 : Nat) (r : Int) (w : World) (h : ratio_Badness.f a0 = some r) {b0_ : Nat} (hf0_ : zB (FR a0 b0_) := by first | assumption | exact ⟨FR.same _⟩) :
    Calls Try.prog 43 #[.float .f64 b0_] w fun e w' => e = .returned (.int .i64 r) ∧ Drawn0 w w' := by
  have hu24 := Try.underlying24; have hu3 := Try.underlying3; have hA : ∀ (b : Nat) (W : World), (callFunc 50 #[.float .f64 b]).run Try.prog W = .ok (.value (.int .u64 b)) W := fun b W => by rw [run_callFunc_extern (fn := Try.f50) (e := Extern.MathFloatBits.float64bits) (by kernel_rfl) (by kernel_rfl) (by kernel_rfl) (by rfl) (by rfl)]; rfl
  have hB : ∀ (b : Int) (W : World), (callFunc 51 #[.int .u64 b]).run Try.prog W = .ok (.value (.float .f64 b.toNat)) W := fun b W => by rw [run_callFunc_extern (fn := Try.f51) (e := Extern.MathFloatBits.float64frombits) (by kernel_rfl) (by kernel_rfl) (by kernel_rfl) (by rfl) (by rfl)]; rfl
  unfold ratio_Badness.f at h
  by_cases hx : isNan a0 = true
  · rw [if_pos hx] at h
    obtain rfl := Option.some.inj h
    have ho := order_nan_l (b := b0_) (y := b0_) (by rw [← hf0_.out.nan]; exact hx)
    go_enter Try.func43, Try.ntmps43
    go_wp2
    go_ret
    exact ⟨rfl, Drawn0.refl _⟩
  rw [if_neg hx] at h; have hx' : isNan a0 = false := by simpa using hx
  obtain rfl := hf0_.out.eq_of hx'
  have ho := order_self hx'; obtain ⟨p1, m1, hr1, hp1⟩ := run_rough (P := Try.prog) w .mul (by simp) 24 4636737291354636288 (absb a0)
  obtain ⟨p2, m2, hr2, hp2⟩ := run_rough (P := Try.prog) (w.drewN m1) .mul (by simp) 24 p1 (absb a0)
  obtain ⟨p3, m3, hr3, hp3⟩ := run_rough (P := Try.prog) (w.drewN (m1 + m2)) .mul (by simp) 24 p2 (absb a0)
  have hc : FR (cube a0) p3 := ((fr_fop hp1).fop_l (fr_fop hp2)).fop_l (fr_fop hp3)
  have hd : Drawn0 w (w.drewN (m1 + m2 + m3)) := ⟨⟨_, rfl⟩⟩
  rw [← hc.order_l] at h; unfold absb at hr1 hr2 hr3
  by_cases hl : (FloatKind.f64.format.order p3 4666723172467343360 == some .lt) = true
  rotate_left
  · rw [if_neg hl] at h
    obtain rfl := Option.some.inj h
    have hl' := Bool.eq_false_iff.mpr hl
    go_enter Try.func43, Try.ntmps43
    go_wp2
    go_ret
    exact ⟨rfl, hd⟩
  rw [if_pos hl] at h; have hn : isNan (cube a0) = false := by
    rcases Bool.eq_false_or_eq_true (isNan (cube a0)) with hh | hh
    · rw [hc.order_l, order_nan_l hh] at hl; cases hl
    · exact hh
  rw [hc.eq_of hn] at h; have hk := fun W => run_convert_float_int (P := Try.prog) W 24 3 .f64 .i64 p3 r (by kernel_rfl) hu3 h
  go_enter Try.func43, Try.ntmps43
  go_wp2
  go_ret
  exact ⟨rfl, hd⟩
end Go.Proofs.Ytlgclhhkgohanaa.F
end
section
namespace Go.Proofs.Ytlgclhhkgohanaa.F
open Go.RowKit Go.Proofs.YtlgclhhkgohanaaW.PrintWords Go.Proofs.YtlgclhhkgohanaaW.PrintLast Go.Proofs.YtlgclhhkgohanaaW.PrintMore
attribute [local go_sem] max2_int min2_int max_two min_two max_three min_three max_four min_four   -- for this text's walks alone
set_option linter.unusedVariables false
set_option linter.unusedSimpArgs false
def best_price.j0 : Nat → Int → Int → Int → List (S62) → List Int → Int → Int → Int → Int → Int → Nat → Option (Int × Bool)
  | 0, _, _, _, _, _, _, _, _, _, _, _ => none
  | k + 1, x1, x2, x16, x105000, x105001, x106000, x106001, x106002, x106003, x106004, x106005 => if x2 = 3 then (if 0 ≤ x1 then (if x1 < (x105001.length : Int) then (if (rd x105001 x1) = 3 then (some (wrap64 ((wrap64 ((wrap64 ((wrap64 (10 + x16)) * (wrap64 (10 + x16)))) + x106003)) + x106004), true)) else (some (wrap64 ((wrap64 ((wrap64 (10 + x16)) * (wrap64 (10 + x16)))) + x106003), true))) else (none)) else (none)) else (some (wrap64 ((wrap64 (10 + x16)) * (wrap64 (10 + x16))), true))
def best_price.f (k : Nat) (l0_0 : List (S62)) (l0_1 : List Int) (a1 : Int) (a2 : Int) (a3 : Int) (a4 : Int) (a5 : Bool) (a6_0 : Int) (a6_1 : Int) (a6_2 : Int) (a6_3 : Int) (a6_4 : Int) (a6_5 : Nat) : Option (Int × Bool) := if a3 > a6_0 then (some (0, false)) else (if a5 = true then (best_price.j0 k a1 a2 0 l0_0 l0_1 a6_0 a6_1 a6_2 a6_3 a6_4 a6_5) else ((ratio_Of.f (wrap64 (a6_0 - a3)) a4).bind fun t106 => ((ratio_Fits.f t106 a6_5).bind fun t107 => (if t107 = true then ((ratio_Badness.f t106).bind fun t108 => (best_price.j0 k a1 a2 t108 l0_0 l0_1 a6_0 a6_1 a6_2 a6_3 a6_4 a6_5)) else (some (0, false))))))
theorem best_price.mono_l : ∀ k, (∀ y0 y1 y2 y3 y4 y5 y6 y7 y8 y9 y10, LeO (best_price.j0 k y0 y1 y2 y3 y4 y5 y6 y7 y8 y9 y10) (best_price.j0 (k + 1) y0 y1 y2 y3 y4 y5 y6 y7 y8 y9 y10))
  | 0 => fun _ _ _ _ _ _ _ _ _ _ _ r h => by simp [best_price.j0] at h
  | k + 1 => by
    have ih0 := best_price.mono_l k
    · intro y0 y1 y2 y3 y4 y5 y6 y7 y8 y9 y10
      unfold best_price.j0
      repeat' first
      | (with_reducible exact ih0 _ _ _ _ _ _ _ _ _ _ _)
      | (with_reducible exact LeO.refl _)
      | (with_reducible exact LeO.none _)
      | (with_reducible refine LeO.ite ?_ ?_)
      | (with_reducible refine LeO.bind ?_ (fun _ => ?_))
      | exact ih0 _ _ _ _ _ _ _ _ _ _ _
      | exact LeO.none _
      | refine LeO.ite ?_ ?_
      | refine LeO.bind ?_ (fun _ => ?_)
theorem best_price.mono : ∀ a0 a1 a2 a3 a4 a5 a6 a7 a8 a9 a10 a11 a12 k, LeO (best_price.f k a0 a1 a2 a3 a4 a5 a6 a7 a8 a9 a10 a11 a12) (best_price.f (k + 1) a0 a1 a2 a3 a4 a5 a6 a7 a8 a9 a10 a11 a12) := by
  intro a0 a1 a2 a3 a4 a5 a6 a7 a8 a9 a10 a11 a12 k
  have ih0 := best_price.mono_l k; unfold best_price.f
  repeat' first
      | (with_reducible exact ih0 _ _ _ _ _ _ _ _ _ _ _)
      | (with_reducible exact LeO.refl _)
      | (with_reducible exact LeO.none _)
      | (with_reducible refine LeO.ite ?_ ?_)
      | (with_reducible refine LeO.bind ?_ (fun _ => ?_))
      | exact ih0 _ _ _ _ _ _ _ _ _ _ _
      | exact LeO.none _
      | refine LeO.ite ?_ ?_
      | refine LeO.bind ?_ (fun _ => ?_)
set_option maxHeartbeats 8000000 in
set_option maxRecDepth 100000 in
theorem best_price.calls (k : Nat) (A0_0 : Option Addr) (c0_0 : Nat) (l0_0 : List (S62)) (A0_1 : Option Addr) (c0_1 : Nat) (l0_1 : List Int) (a1 : Int) (a2 : Int) (a3 : Int) (a4 : Int) (a5 : Bool) (a6_0 : Int) (a6_1 : Int) (a6_2 : Int) (a6_3 : Int) (a6_4 : Int) (a6_5 : Nat) (r1 : Int) (r2 : Bool) (w : World) (hr0_0 : Kd.C k62 w A0_0 l0_0.length l0_0) (hc0_0 : l0_0.length ≤ c0_0) (hr0_1 : Kd.C (Kd.int .u8) w A0_1 l0_1.length l0_1) (hc0_1 : l0_1.length ≤ c0_1) (h : best_price.f k l0_0 l0_1 a1 a2 a3 a4 a5 a6_0 a6_1 a6_2 a6_3 a6_4 a6_5 = some (r1, r2)) :
    Calls Try.prog 31 #[.agg #[.slice A0_0 l0_0.length c0_0, .slice A0_1 l0_1.length c0_1], .int .i64 a1, .int .u8 a2, .int .i64 a3, .int .i64 a4, .bool a5, .agg #[.int .i64 a6_0, .int .i64 a6_1, .int .u8 a6_2, .int .i64 a6_3, .int .i64 a6_4, .float .f64 a6_5]] w fun e w' => e = .returned (.tuple #[.int .i64 r1, .bool r2]) ∧ Below w.heap.size w w' := by
  have hu31 := Try.underlying31; have hu35 := Try.underlying35; have HR0_0 := zB.mk hr0_0; have HC0_0 := zB.mk hc0_0; clear hr0_0 hc0_0; have HR0_1 := zB.mk hr0_1; have HC0_1 := zB.mk hc0_1; clear hr0_1 hc0_1; have HB := zB.mk (Below.refl w.heap.size w); have H : (if a3 > a6_0 then (some (0, false)) else (if a5 = true then (best_price.j0 k a1 a2 0 l0_0 l0_1 a6_0 a6_1 a6_2 a6_3 a6_4 a6_5) else ((ratio_Of.f (wrap64 (a6_0 - a3)) a4).bind fun t106 => ((ratio_Fits.f t106 a6_5).bind fun t107 => (if t107 = true then ((ratio_Badness.f t106).bind fun t108 => (best_price.j0 k a1 a2 t108 l0_0 l0_1 a6_0 a6_1 a6_2 a6_3 a6_4 a6_5)) else (some (0, false))))))) = some (r1, r2) := h
  clear h; by_cases c8 : a3 > a6_0
  · rw [if_pos c8] at H
    have c8b0 : decide (a6_0 < a3) = true := decide_eq_true c8
    clear c8; simp only [Option.some.injEq, Prod.mk.injEq] at H; obtain ⟨rfl, rfl⟩ := H; go_enter Try.func31, Try.ntmps31
    go_wp2_with (first | ((with_reducible refine gate_dst (N := 7) rfl ?_); refine box_event ?hg (N := 7) ?hd (cs := #[.slice A0_0 l0_0.length c0_0, .slice A0_1 l0_1.length c0_1]) (t := 31) ?hr ?_; (case hd => rfl); (case hg => rfl); (case hr => first | (go_simp; done) | (go_simp; rfl)); intro gb104 hg w9 hbox hb; have n0_ := zB.mk (zO (by repeat (first | (with_reducible first | exact HB.out | apply zJ | apply zF | apply zH) | exact HB.out)) hb); have n1_ := zB.mk (hbox); have n2_ := zB.mk ((by rw [hg]; exact (zM (by repeat (first | (with_reducible first | exact HB.out | apply zJ | apply zF | apply zH) | exact HB.out))) : w.heap.size ≤ gb104)); have n3_ := zB.mk ((by rw [hg]; exact (zM (by repeat (first | (with_reducible first | exact HB.out | apply zJ | apply zF | apply zH) | exact HB.out))) : w.heap.size ≤ gb104)); clear HB; have HB := n0_; have BK104 := n1_; have GW104 := n2_; have GE104 := n3_; clear n0_ n1_ n2_ n3_; clear hb hbox hg) | ((with_reducible refine gate_dst (N := 13) rfl ?_); refine box_event ?hg (N := 13) ?hd (cs := #[.int .i64 a6_0, .int .i64 a6_1, .int .u8 a6_2, .int .i64 a6_3, .int .i64 a6_4, .float .f64 a6_5]) (t := 35) ?hr ?_; (case hd => rfl); (case hg => rfl); (case hr => first | (go_simp; done) | (go_simp; rfl)); intro gb105 hg w10 hbox hb; have n0_ := zB.mk (zK (g := gb104) (o := .cells #[.slice A0_0 l0_0.length c0_0, .slice A0_1 l0_1.length c0_1] 31 (0, 0)) (by (with_reducible repeat (first | refine zC ?_ _ | refine zD ?_ | refine zA ?_ _)); exact BK104.out) hb); have n1_ := zB.mk (zO (by repeat (first | (with_reducible first | exact HB.out | apply zJ | apply zF | apply zH | refine zE ?_ GE104.out) | exact HB.out)) hb); have n2_ := zB.mk (hbox); have n3_ := zB.mk ((by rw [hg]; exact (zM (by repeat (first | (with_reducible first | exact HB.out | apply zJ | apply zF | apply zH | refine zE ?_ GE104.out) | exact HB.out))) : w.heap.size ≤ gb105)); have n4_ := zB.mk ((by rw [hg]; exact (zM (by repeat (first | (with_reducible first | exact HB.out | apply zJ | apply zF | apply zH | refine zE ?_ GE104.out) | exact HB.out))) : w.heap.size ≤ gb105)); have n5_ := zB.mk ((by rw [hg]; exact Nat.ne_of_lt (blk_lt (g := gb104) (o := .cells #[.slice A0_0 l0_0.length c0_0, .slice A0_1 l0_1.length c0_1] 31 (0, 0)) (by (with_reducible repeat (first | refine zC ?_ _ | refine zD ?_ | refine zA ?_ _)); exact BK104.out)) : gb104 ≠ gb105)); have n6_ := zB.mk ((by rw [hg]; exact Nat.ne_of_gt (blk_lt (g := gb104) (o := .cells #[.slice A0_0 l0_0.length c0_0, .slice A0_1 l0_1.length c0_1] 31 (0, 0)) (by (with_reducible repeat (first | refine zC ?_ _ | refine zD ?_ | refine zA ?_ _)); exact BK104.out)) : gb105 ≠ gb104)); clear BK104; clear HB; have BK104 := n0_; have HB := n1_; have BK105 := n2_; have GW105 := n3_; have GE105 := n4_; have NB104_105 := n5_; have NB105_104 := n6_; clear n0_ n1_ n2_ n3_ n4_ n5_ n6_; clear hb hbox hg; have hnb11 := NB105_104.out; have hnc11 := NB104_105.out; have hcz12_0 : w10.cell? ⟨gb105, 0, none⟩ = some (.int .i64 a6_0) := (zG BK105.out 0).trans rfl; have hcz12_1 : w10.cell? ⟨gb105, 1, none⟩ = some (.int .i64 a6_1) := (zG BK105.out 1).trans rfl; have hcz12_2 : w10.cell? ⟨gb105, 2, none⟩ = some (.int .u8 a6_2) := (zG BK105.out 2).trans rfl; have hcz12_3 : w10.cell? ⟨gb105, 3, none⟩ = some (.int .i64 a6_3) := (zG BK105.out 3).trans rfl; have hcz12_4 : w10.cell? ⟨gb105, 4, none⟩ = some (.int .i64 a6_4) := (zG BK105.out 4).trans rfl; have hcz12_5 : w10.cell? ⟨gb105, 5, none⟩ = some (.float .f64 a6_5) := (zG BK105.out 5).trans rfl; have hfz12_0 := zI BK105.out 0; have hfz12_1 := zI BK105.out 1; have hfz12_2 := zI BK105.out 2; have hfz12_3 := zI BK105.out 3; have hfz12_4 := zI BK105.out 4; have hfz12_5 := zI BK105.out 5))
    go_ret2
    exact ⟨by first | rfl | (simp [errW_none, errW_some] <;> rfl) | (simp [*, errW_none, errW_some] <;> rfl), by repeat (first | (with_reducible first | exact HB.out | apply zJ | apply zF | apply zH | refine zE ?_ GE104.out | refine zE ?_ GE105.out) | exact HB.out)⟩
  rw [if_neg c8] at H; have c8b0 : decide (a6_0 < a3) = false := decide_eq_false c8
  clear c8; have HC13 := zB.mk H; clear H; go_enter Try.func31, Try.ntmps31
  go_upto_if 24 with (first | ((with_reducible refine gate_dst (N := 7) rfl ?_); refine box_event ?hg (N := 7) ?hd (cs := #[.slice A0_0 l0_0.length c0_0, .slice A0_1 l0_1.length c0_1]) (t := 31) ?hr ?_; (case hd => rfl); (case hg => rfl); (case hr => first | (go_simp; done) | (go_simp; rfl)); intro gb104 hg w14 hbox hb; have n0_ := zB.mk (zO (by repeat (first | (with_reducible first | exact HB.out | apply zJ | apply zF | apply zH) | exact HB.out)) hb); have n1_ := zB.mk (hbox); have n2_ := zB.mk ((by rw [hg]; exact (zM (by repeat (first | (with_reducible first | exact HB.out | apply zJ | apply zF | apply zH) | exact HB.out))) : w.heap.size ≤ gb104)); have n3_ := zB.mk ((by rw [hg]; exact (zM (by repeat (first | (with_reducible first | exact HB.out | apply zJ | apply zF | apply zH) | exact HB.out))) : w.heap.size ≤ gb104)); clear HB; have HB := n0_; have BK104 := n1_; have GW104 := n2_; have GE104 := n3_; clear n0_ n1_ n2_ n3_; clear hb hbox hg) | ((with_reducible refine gate_dst (N := 13) rfl ?_); refine box_event ?hg (N := 13) ?hd (cs := #[.int .i64 a6_0, .int .i64 a6_1, .int .u8 a6_2, .int .i64 a6_3, .int .i64 a6_4, .float .f64 a6_5]) (t := 35) ?hr ?_; (case hd => rfl); (case hg => rfl); (case hr => first | (go_simp; done) | (go_simp; rfl)); intro gb105 hg w15 hbox hb; have n0_ := zB.mk (zK (g := gb104) (o := .cells #[.slice A0_0 l0_0.length c0_0, .slice A0_1 l0_1.length c0_1] 31 (0, 0)) (by (with_reducible repeat (first | refine zC ?_ _ | refine zD ?_ | refine zA ?_ _)); exact BK104.out) hb); have n1_ := zB.mk (zO (by repeat (first | (with_reducible first | exact HB.out | apply zJ | apply zF | apply zH | refine zE ?_ GE104.out) | exact HB.out)) hb); have n2_ := zB.mk (hbox); have n3_ := zB.mk ((by rw [hg]; exact (zM (by repeat (first | (with_reducible first | exact HB.out | apply zJ | apply zF | apply zH | refine zE ?_ GE104.out) | exact HB.out))) : w.heap.size ≤ gb105)); have n4_ := zB.mk ((by rw [hg]; exact (zM (by repeat (first | (with_reducible first | exact HB.out | apply zJ | apply zF | apply zH | refine zE ?_ GE104.out) | exact HB.out))) : w.heap.size ≤ gb105)); have n5_ := zB.mk ((by rw [hg]; exact Nat.ne_of_lt (blk_lt (g := gb104) (o := .cells #[.slice A0_0 l0_0.length c0_0, .slice A0_1 l0_1.length c0_1] 31 (0, 0)) (by (with_reducible repeat (first | refine zC ?_ _ | refine zD ?_ | refine zA ?_ _)); exact BK104.out)) : gb104 ≠ gb105)); have n6_ := zB.mk ((by rw [hg]; exact Nat.ne_of_gt (blk_lt (g := gb104) (o := .cells #[.slice A0_0 l0_0.length c0_0, .slice A0_1 l0_1.length c0_1] 31 (0, 0)) (by (with_reducible repeat (first | refine zC ?_ _ | refine zD ?_ | refine zA ?_ _)); exact BK104.out)) : gb105 ≠ gb104)); clear BK104; clear HB; have BK104 := n0_; have HB := n1_; have BK105 := n2_; have GW105 := n3_; have GE105 := n4_; have NB104_105 := n5_; have NB105_104 := n6_; clear n0_ n1_ n2_ n3_ n4_ n5_ n6_; clear hb hbox hg; have hnb16 := NB105_104.out; have hnc16 := NB104_105.out; have hcz17_0 : w15.cell? ⟨gb105, 0, none⟩ = some (.int .i64 a6_0) := (zG BK105.out 0).trans rfl; have hcz17_1 : w15.cell? ⟨gb105, 1, none⟩ = some (.int .i64 a6_1) := (zG BK105.out 1).trans rfl; have hcz17_2 : w15.cell? ⟨gb105, 2, none⟩ = some (.int .u8 a6_2) := (zG BK105.out 2).trans rfl; have hcz17_3 : w15.cell? ⟨gb105, 3, none⟩ = some (.int .i64 a6_3) := (zG BK105.out 3).trans rfl; have hcz17_4 : w15.cell? ⟨gb105, 4, none⟩ = some (.int .i64 a6_4) := (zG BK105.out 4).trans rfl; have hcz17_5 : w15.cell? ⟨gb105, 5, none⟩ = some (.float .f64 a6_5) := (zG BK105.out 5).trans rfl; have hfz17_0 := zI BK105.out 0; have hfz17_1 := zI BK105.out 1; have hfz17_2 := zI BK105.out 2; have hfz17_3 := zI BK105.out 3; have hfz17_4 := zI BK105.out 4; have hfz17_5 := zI BK105.out 5))
  (try simp only [Act.put, sA_, sB_, sC_])
  go_cut [16] (fun v16 wc => ∃ (kq : Nat) (x16_12 : Int), v16 = .int .i64 x16_12 ∧ zB (best_price.j0 kq a1 a2 x16_12 l0_0 l0_1 a6_0 a6_1 a6_2 a6_3 a6_4 a6_5 = some (r1, r2)) ∧ zB (kq ≤ k) ∧ zB (wc.heap[gb104]? = some (.cells #[(.slice A0_0 l0_0.length c0_0), (.slice A0_1 l0_1.length c0_1)] 31 (0, 0))) ∧ zB (wc.heap[gb105]? = some (.cells #[.int .i64 a6_0, .int .i64 a6_1, .int .u8 a6_2, .int .i64 a6_3, .int .i64 a6_4, .float .f64 a6_5] 35 (0, 0))) ∧ zB (Below w.heap.size w wc))
  case first =>
    have H := HC13.out; clear HC13; by_cases c18 : a5 = true
    · subst c18
      have H1 : (best_price.j0 k a1 a2 0 l0_0 l0_1 a6_0 a6_1 a6_2 a6_3 a6_4 a6_5) = some (r1, r2) := by rw [if_pos rfl] at H; exact H
      clear H; have H := H1; clear H1; have H' := zB.mk H
      clear H; go_wp2
      go_meet
      case rel => exact ⟨_, (0), (by first | rfl | (simp; done) | (simp [*]; done)), H', ⟨by first | omega | exact Nat.le_refl _⟩, ⟨by (with_reducible repeat (first | refine zC ?_ _ | refine zD ?_ | refine zA ?_ _)); exact BK104.out⟩, ⟨by (with_reducible repeat (first | refine zC ?_ _ | refine zD ?_ | refine zA ?_ _)); exact BK105.out⟩, ⟨by repeat (first | (with_reducible first | exact HB.out | apply zJ | apply zF | apply zH | refine zE ?_ GE104.out | refine zE ?_ GE105.out) | exact HB.out)⟩⟩
    replace c18 := Bool.eq_false_iff.mpr c18; subst c18; have H1 : ((ratio_Of.f (wrap64 (a6_0 - a3)) a4).bind fun t106 => ((ratio_Fits.f t106 a6_5).bind fun t107 => (if t107 = true then ((ratio_Badness.f t106).bind fun t108 => (best_price.j0 k a1 a2 t108 l0_0 l0_1 a6_0 a6_1 a6_2 a6_3 a6_4 a6_5)) else (some (0, false))))) = some (r1, r2) := by rw [if_neg (show ¬ (false = true) by decide)] at H; exact H
    clear H; have H := H1; clear H1; replace H := Option.bind_eq_some_iff.mp H; obtain ⟨t106, A190, H⟩ := H; replace H : ((ratio_Fits.f t106 a6_5).bind fun t107 => (if t107 = true then ((ratio_Badness.f t106).bind fun t108 => (best_price.j0 k a1 a2 t108 l0_0 l0_1 a6_0 a6_1 a6_2 a6_3 a6_4 a6_5)) else (some (0, false)))) = some (r1, r2) := H
    have A19 := zB.mk A190; clear A190; replace H := Option.bind_eq_some_iff.mp H; obtain ⟨t107, A200, H⟩ := H; replace H : (if t107 = true then ((ratio_Badness.f t106).bind fun t108 => (best_price.j0 k a1 a2 t108 l0_0 l0_1 a6_0 a6_1 a6_2 a6_3 a6_4 a6_5)) else (some (0, false))) = some (r1, r2) := H
    have A20 := zB.mk A200; clear A200; by_cases c21 : t107 = true
    rotate_left
    · replace c21 := Bool.eq_false_iff.mpr c21
      subst c21; have H1 : (some (0, false)) = some (r1, r2) := by rw [if_neg (show ¬ (false = true) by decide)] at H; exact H
      clear H; have H := H1; clear H1; simp only [Option.some.injEq, Prod.mk.injEq] at H; obtain ⟨rfl, rfl⟩ := H; have hnb25 := NB105_104.out; have hnc25 := NB104_105.out; have hcz26_0 : w15.cell? ⟨gb105, 0, none⟩ = some (.int .i64 a6_0) := (zG BK105.out 0).trans rfl
      have hcz26_1 : w15.cell? ⟨gb105, 1, none⟩ = some (.int .i64 a6_1) := (zG BK105.out 1).trans rfl
      have hcz26_2 : w15.cell? ⟨gb105, 2, none⟩ = some (.int .u8 a6_2) := (zG BK105.out 2).trans rfl
      have hcz26_3 : w15.cell? ⟨gb105, 3, none⟩ = some (.int .i64 a6_3) := (zG BK105.out 3).trans rfl
      have hcz26_4 : w15.cell? ⟨gb105, 4, none⟩ = some (.int .i64 a6_4) := (zG BK105.out 4).trans rfl
      have hcz26_5 : w15.cell? ⟨gb105, 5, none⟩ = some (.float .f64 a6_5) := (zG BK105.out 5).trans rfl
      have hfz26_0 := zI BK105.out 0; have hfz26_1 := zI BK105.out 1; have hfz26_2 := zI BK105.out 2; have hfz26_3 := zI BK105.out 3; have hfz26_4 := zI BK105.out 4; have hfz26_5 := zI BK105.out 5; go_wp2_with (first | ((with_reducible refine gate_callee (f := 41) rfl ?_); refine goesL_ (some 30) rfl rfl Try.func41 (by kernel_rfl) rfl #[.int .i64 (wrap64 (a6_0 - a3)), .int .i64 a4] rfl (by (try simp only [List.map_toArray, List.map_cons, List.map_nil]); first | done | rfl | (simp only [List.length_drop, List.length_take]; rfl)) ?_; (with_reducible refine (ratio_Of.calls (wrap64 (a6_0 - a3)) a4 t106 _ A19.out).mono ?_); rintro e w' ⟨bt_t106, rfl, ⟨nd, rfl⟩, hfr_⟩; have HF_t106 := zB.mk hfr_; clear hfr_; refine ⟨_, rfl, ?_⟩) | ((with_reducible refine gate_callee (f := 42) rfl ?_); refine goesL_ (some 34) rfl rfl Try.func42 (by kernel_rfl) rfl #[.float .f64 bt_t106, .float .f64 a6_5] rfl (by (try simp only [List.map_toArray, List.map_cons, List.map_nil]); first | done | rfl | (simp only [List.length_drop, List.length_take]; rfl)) ?_; (with_reducible refine (ratio_Fits.calls t106 a6_5 false _ A20.out).mono ?_); rintro e w' ⟨rfl, ⟨nd, rfl⟩⟩; refine ⟨_, rfl, ?_⟩))
      go_ret2
      exact ⟨by first | rfl | (simp [errW_none, errW_some] <;> rfl) | (simp [*, errW_none, errW_some] <;> rfl), by repeat (first | (with_reducible first | exact HB.out | apply zJ | apply zF | apply zH | refine zE ?_ GE104.out | refine zE ?_ GE105.out) | exact HB.out)⟩
    subst c21; have H1 : ((ratio_Badness.f t106).bind fun t108 => (best_price.j0 k a1 a2 t108 l0_0 l0_1 a6_0 a6_1 a6_2 a6_3 a6_4 a6_5)) = some (r1, r2) := by rw [if_pos rfl] at H; exact H
    clear H; have H := H1; clear H1; replace H := Option.bind_eq_some_iff.mp H; obtain ⟨t108, A220, H⟩ := H; replace H : (best_price.j0 k a1 a2 t108 l0_0 l0_1 a6_0 a6_1 a6_2 a6_3 a6_4 a6_5) = some (r1, r2) := H; have A22 := zB.mk A220; clear A220; have H' := zB.mk H
    clear H; have hnb23 := NB105_104.out; have hnc23 := NB104_105.out; have hcz24_0 : w15.cell? ⟨gb105, 0, none⟩ = some (.int .i64 a6_0) := (zG BK105.out 0).trans rfl
    have hcz24_1 : w15.cell? ⟨gb105, 1, none⟩ = some (.int .i64 a6_1) := (zG BK105.out 1).trans rfl
    have hcz24_2 : w15.cell? ⟨gb105, 2, none⟩ = some (.int .u8 a6_2) := (zG BK105.out 2).trans rfl
    have hcz24_3 : w15.cell? ⟨gb105, 3, none⟩ = some (.int .i64 a6_3) := (zG BK105.out 3).trans rfl
    have hcz24_4 : w15.cell? ⟨gb105, 4, none⟩ = some (.int .i64 a6_4) := (zG BK105.out 4).trans rfl
    have hcz24_5 : w15.cell? ⟨gb105, 5, none⟩ = some (.float .f64 a6_5) := (zG BK105.out 5).trans rfl
    have hfz24_0 := zI BK105.out 0; have hfz24_1 := zI BK105.out 1; have hfz24_2 := zI BK105.out 2; have hfz24_3 := zI BK105.out 3; have hfz24_4 := zI BK105.out 4; have hfz24_5 := zI BK105.out 5; go_wp2_with (first | ((with_reducible refine gate_callee (f := 41) rfl ?_); refine goesL_ (some 30) rfl rfl Try.func41 (by kernel_rfl) rfl #[.int .i64 (wrap64 (a6_0 - a3)), .int .i64 a4] rfl (by (try simp only [List.map_toArray, List.map_cons, List.map_nil]); first | done | rfl | (simp only [List.length_drop, List.length_take]; rfl)) ?_; (with_reducible refine (ratio_Of.calls (wrap64 (a6_0 - a3)) a4 t106 _ A19.out).mono ?_); rintro e w' ⟨bt_t106, rfl, ⟨nd, rfl⟩, hfr_⟩; have HF_t106 := zB.mk hfr_; clear hfr_; refine ⟨_, rfl, ?_⟩) | ((with_reducible refine gate_callee (f := 42) rfl ?_); refine goesL_ (some 34) rfl rfl Try.func42 (by kernel_rfl) rfl #[.float .f64 bt_t106, .float .f64 a6_5] rfl (by (try simp only [List.map_toArray, List.map_cons, List.map_nil]); first | done | rfl | (simp only [List.length_drop, List.length_take]; rfl)) ?_; (with_reducible refine (ratio_Fits.calls t106 a6_5 true _ A20.out).mono ?_); rintro e w' ⟨rfl, ⟨nd, rfl⟩⟩; refine ⟨_, rfl, ?_⟩) | ((with_reducible refine gate_callee (f := 43) rfl ?_); refine goesL_ (some 37) rfl rfl Try.func43 (by kernel_rfl) rfl #[.float .f64 bt_t106] rfl (by (try simp only [List.map_toArray, List.map_cons, List.map_nil]); first | done | rfl | (simp only [List.length_drop, List.length_take]; rfl)) ?_; (with_reducible refine (ratio_Badness.calls t106 t108 _ A22.out).mono ?_); rintro e w' ⟨rfl, ⟨nd, rfl⟩⟩; refine ⟨_, rfl, ?_⟩))
    go_meet
    case rel => exact ⟨_, (t108), (by first | rfl | (simp; done) | (simp [*]; done)), H', ⟨by first | omega | exact Nat.le_refl _⟩, ⟨by (with_reducible repeat (first | refine zC ?_ _ | refine zD ?_ | refine zA ?_ _)); exact BK104.out⟩, ⟨by (with_reducible repeat (first | refine zC ?_ _ | refine zD ?_ | refine zA ?_ _)); exact BK105.out⟩, ⟨by repeat (first | (with_reducible first | exact HB.out | apply zJ | apply zF | apply zH | refine zE ?_ GE104.out | refine zE ?_ GE105.out) | exact HB.out)⟩⟩
  clear HC13; try clear c1
  try clear c2
  try clear p2
  try clear c3
  try clear c4
  try clear p6
  try clear c8
  try clear c8b0
  try clear c11
  try clear c16
  try clear c18
  try clear c21
  try clear c23
  try clear c25
  try clear hcz12_0
  try clear hcz12_1
  try clear hcz12_2
  try clear hcz12_3
  try clear hcz12_4
  try clear hcz12_5
  try clear hcz17_0
  try clear hcz17_1
  try clear hcz17_2
  try clear hcz17_3
  try clear hcz17_4
  try clear hcz17_5
  try clear hcz24_0
  try clear hcz24_1
  try clear hcz24_2
  try clear hcz24_3
  try clear hcz24_4
  try clear hcz24_5
  try clear hcz26_0
  try clear hcz26_1
  try clear hcz26_2
  try clear hcz26_3
  try clear hcz26_4
  try clear hcz26_5
  try clear hfz12_0
  try clear hfz12_1
  try clear hfz12_2
  try clear hfz12_3
  try clear hfz12_4
  try clear hfz12_5
  try clear hfz17_0
  try clear hfz17_1
  try clear hfz17_2
  try clear hfz17_3
  try clear hfz17_4
  try clear hfz17_5
  try clear hfz24_0
  try clear hfz24_1
  try clear hfz24_2
  try clear hfz24_3
  try clear hfz24_4
  try clear hfz24_5
  try clear hfz26_0
  try clear hfz26_1
  try clear hfz26_2
  try clear hfz26_3
  try clear hfz26_4
  try clear hfz26_5
  obtain ⟨kq, x16_12, rfl, HA, HJ12, BK104, BK105, HB⟩ := hcut; cases kq with
  | zero => exact absurd HA.out (by simp [best_price.j0])
  | succ kj12 =>
    have H := HA.out; clear HA; simp only [best_price.j0] at H; by_cases c27 : a2 = 3
    rotate_left
    · rw [if_neg c27] at H
      have c27b0 : (a2 == 3) = false := beq_eq_false_iff_ne.mpr c27
      have c27b1 : (a2 != 3) = true := bne_iff_ne.mpr c27
      simp only [Option.some.injEq, Prod.mk.injEq] at H; obtain ⟨rfl, rfl⟩ := H; go_wp2
      go_ret2
      exact ⟨by first | rfl | (simp [errW_none, errW_some] <;> rfl) | (simp [*, errW_none, errW_some] <;> rfl), by repeat (first | (with_reducible first | exact HB.out | apply zJ | apply zF | apply zH | refine zE ?_ GE104.out | refine zE ?_ GE105.out) | exact HB.out)⟩
    rw [if_pos c27] at H; have c27b0 : (a2 == 3) = true := beq_iff_eq.mpr c27
    have c27b1 : (a2 != 3) = false := bne_eq_false_iff_eq.mpr c27
    clear c27; by_cases c28 : 0 ≤ a1
    rotate_left
    · rw [if_neg c28] at H
      exact absurd H (by simp)
    rw [if_pos c28] at H; have c28b0 : decide (0 ≤ a1) = true := decide_eq_true c28
    clear c28; by_cases c29 : a1 < (l0_1.length : Int)
    rotate_left
    · rw [if_neg c29] at H
      exact absurd H (by simp)
    rw [if_pos c29] at H; have c29b0 : decide (a1 < (l0_1.length : Int)) = true := decide_eq_true c29
    clear c29; by_cases c30 : (rd l0_1 a1) = 3
    · rw [if_pos c30] at H
      have c30b0 : ((rd l0_1 a1) == 3) = true := beq_iff_eq.mpr c30
      have c30b1 : ((rd l0_1 a1) != 3) = false := bne_eq_false_iff_eq.mpr c30
      clear c30; simp only [Option.some.injEq, Prod.mk.injEq] at H; obtain ⟨rfl, rfl⟩ := H; have hnb31 := NB105_104.out; have hnc31 := NB104_105.out; have hcz32_0 : wc.cell? ⟨gb105, 0, none⟩ = some (.int .i64 a6_0) := (zG BK105.out 0).trans rfl
      have hcz32_1 : wc.cell? ⟨gb105, 1, none⟩ = some (.int .i64 a6_1) := (zG BK105.out 1).trans rfl
      have hcz32_2 : wc.cell? ⟨gb105, 2, none⟩ = some (.int .u8 a6_2) := (zG BK105.out 2).trans rfl
      have hcz32_3 : wc.cell? ⟨gb105, 3, none⟩ = some (.int .i64 a6_3) := (zG BK105.out 3).trans rfl
      have hcz32_4 : wc.cell? ⟨gb105, 4, none⟩ = some (.int .i64 a6_4) := (zG BK105.out 4).trans rfl
      have hcz32_5 : wc.cell? ⟨gb105, 5, none⟩ = some (.float .f64 a6_5) := (zG BK105.out 5).trans rfl
      have hfz32_0 := zI BK105.out 0; have hfz32_1 := zI BK105.out 1; have hfz32_2 := zI BK105.out 2; have hfz32_3 := zI BK105.out 3; have hfz32_4 := zI BK105.out 4; have hfz32_5 := zI BK105.out 5; have hcz33_0 : wc.cell? ⟨gb104, 0, none⟩ = some (.slice A0_0 l0_0.length c0_0) := (zG BK104.out 0).trans rfl
      have hcz33_1 : wc.cell? ⟨gb104, 1, none⟩ = some (.slice A0_1 l0_1.length c0_1) := (zG BK104.out 1).trans rfl
      have hfz33_0 := zI BK104.out 0; have hfz33_1 := zI BK104.out 1; have p109 : 0 ≤ (a1 : Int) := of_decide_eq_true (by first | (with_reducible assumption) | assumption)
      have q109 : a1 < (l0_1.length : Int) := of_decide_eq_true (by first | (with_reducible assumption) | assumption)
      obtain ⟨ad109, e109, hx109_0⟩ := Kd.at_int HR0_1.out a1 p109 q109; cases e109
      replace hx109_0 := (HB.out.cell (World.block_lt_of_cell? w _ hx109_0)).trans hx109_0; replace p109 := eq_true p109; replace q109 := eq_true q109; go_wp2
      go_ret2
      exact ⟨by first | rfl | (simp [errW_none, errW_some] <;> rfl) | (simp [*, errW_none, errW_some] <;> rfl), by repeat (first | (with_reducible first | exact HB.out | apply zJ | apply zF | apply zH | refine zE ?_ GE104.out | refine zE ?_ GE105.out) | exact HB.out)⟩
    rw [if_neg c30] at H; have c30b0 : ((rd l0_1 a1) == 3) = false := beq_eq_false_iff_ne.mpr c30
    have c30b1 : ((rd l0_1 a1) != 3) = true := bne_iff_ne.mpr c30
    simp only [Option.some.injEq, Prod.mk.injEq] at H; obtain ⟨rfl, rfl⟩ := H; have hnb34 := NB105_104.out; have hnc34 := NB104_105.out; have hcz35_0 : wc.cell? ⟨gb105, 0, none⟩ = some (.int .i64 a6_0) := (zG BK105.out 0).trans rfl
    have hcz35_1 : wc.cell? ⟨gb105, 1, none⟩ = some (.int .i64 a6_1) := (zG BK105.out 1).trans rfl
    have hcz35_2 : wc.cell? ⟨gb105, 2, none⟩ = some (.int .u8 a6_2) := (zG BK105.out 2).trans rfl
    have hcz35_3 : wc.cell? ⟨gb105, 3, none⟩ = some (.int .i64 a6_3) := (zG BK105.out 3).trans rfl
    have hcz35_4 : wc.cell? ⟨gb105, 4, none⟩ = some (.int .i64 a6_4) := (zG BK105.out 4).trans rfl
    have hcz35_5 : wc.cell? ⟨gb105, 5, none⟩ = some (.float .f64 a6_5) := (zG BK105.out 5).trans rfl
    have hfz35_0 := zI BK105.out 0; have hfz35_1 := zI BK105.out 1; have hfz35_2 := zI BK105.out 2; have hfz35_3 := zI BK105.out 3; have hfz35_4 := zI BK105.out 4; have hfz35_5 := zI BK105.out 5; have hcz36_0 : wc.cell? ⟨gb104, 0, none⟩ = some (.slice A0_0 l0_0.length c0_0) := (zG BK104.out 0).trans rfl
    have hcz36_1 : wc.cell? ⟨gb104, 1, none⟩ = some (.slice A0_1 l0_1.length c0_1) := (zG BK104.out 1).trans rfl
    have hfz36_0 := zI BK104.out 0; have hfz36_1 := zI BK104.out 1; have p109 : 0 ≤ (a1 : Int) := of_decide_eq_true (by first | (with_reducible assumption) | assumption)
    have q109 : a1 < (l0_1.length : Int) := of_decide_eq_true (by first | (with_reducible assumption) | assumption)
    obtain ⟨ad109, e109, hx109_0⟩ := Kd.at_int HR0_1.out a1 p109 q109; cases e109
    replace hx109_0 := (HB.out.cell (World.block_lt_of_cell? w _ hx109_0)).trans hx109_0; replace p109 := eq_true p109; replace q109 := eq_true q109; go_wp2
    go_ret2
    exact ⟨by first | rfl | (simp [errW_none, errW_some] <;> rfl) | (simp [*, errW_none, errW_some] <;> rfl), by repeat (first | (with_reducible first | exact HB.out | apply zJ | apply zF | apply zH | refine zE ?_ GE104.out | refine zE ?_ GE105.out) | exact HB.out)⟩
end Go.Proofs.Ytlgclhhkgohanaa.F
end
section
namespace Go.Proofs.Ytlgclhhkgohanaa.F
open Go.RowKit Go.Proofs.YtlgclhhkgohanaaW.PrintWords Go.Proofs.YtlgclhhkgohanaaW.PrintLast Go.Proofs.YtlgclhhkgohanaaW.PrintMore
attribute [local go_sem] max2_int min2_int max_two min_two max_three min_three max_four min_four   -- for this text's walks alone
set_option linter.unusedVariables false
set_option linter.unusedSimpArgs false
def span_Next.f (a0_0 : Int) (a0_1 : Int) (a0_2 : Int) (a0_3 : Int) (a1 : Int) (a2 : Int) : Option (Int) := if a0_3 = 2 then (if a2 = 0 then (none) else (some (wrap64 ((wrap64 (a1 + a2)) - (Int.tmod a1 a2))))) else (some (wrap64 (a1 + a0_2)))
set_option maxHeartbeats 8000000 in
set_option maxRecDepth 100000 in
theorem span_Next.calls (a0_0 : Int) (a0_1 : Int) (a0_2 : Int) (a0_3 : Int) (a1 : Int) (a2 : Int) (r : Int) (w : World) (h : span_Next.f a0_0 a0_1 a0_2 a0_3 a1 a2 = some r) :
    Calls Try.prog 37 #[.agg #[.int .i64 a0_0, .int .i64 a0_1, .int .i64 a0_2, .int .u8 a0_3], .int .i64 a1, .int .i64 a2] w fun e w' => e = .returned (.int .i64 r) ∧ Below w.heap.size w w' := by
  have hu62 := Try.underlying62; have HB := zB.mk (Below.refl w.heap.size w); have H : (if a0_3 = 2 then (if a2 = 0 then (none) else (some (wrap64 ((wrap64 (a1 + a2)) - (Int.tmod a1 a2))))) else (some (wrap64 (a1 + a0_2)))) = some r := h
  clear h; by_cases c4 : a0_3 = 2
  rotate_left
  · rw [if_neg c4] at H
    have c4b0 : (a0_3 == 2) = false := beq_eq_false_iff_ne.mpr c4
    have c4b1 : (a0_3 != 2) = true := bne_iff_ne.mpr c4
    obtain rfl := Option.some.inj H
    go_enter Try.func37, Try.ntmps37
    go_wp2_with (first | ((with_reducible refine gate_dst (N := 3) rfl ?_); refine box_event ?hg (N := 3) ?hd (cs := #[.int .i64 a0_0, .int .i64 a0_1, .int .i64 a0_2, .int .u8 a0_3]) (t := 62) ?hr ?_; (case hd => rfl); (case hg => rfl); (case hr => first | (go_simp; done) | (go_simp; rfl)); intro gb110 hg w8 hbox hb; have n0_ := zB.mk (zO (by repeat (first | (with_reducible first | exact HB.out | apply zJ | apply zF | apply zH) | exact HB.out)) hb); have n1_ := zB.mk (hbox); have n2_ := zB.mk ((by rw [hg]; exact (zM (by repeat (first | (with_reducible first | exact HB.out | apply zJ | apply zF | apply zH) | exact HB.out))) : w.heap.size ≤ gb110)); have n3_ := zB.mk ((by rw [hg]; exact (zM (by repeat (first | (with_reducible first | exact HB.out | apply zJ | apply zF | apply zH) | exact HB.out))) : w.heap.size ≤ gb110)); clear HB; have HB := n0_; have BK110 := n1_; have GW110 := n2_; have GE110 := n3_; clear n0_ n1_ n2_ n3_; clear hb hbox hg; have hcz9_0 : w8.cell? ⟨gb110, 0, none⟩ = some (.int .i64 a0_0) := (zG BK110.out 0).trans rfl; have hcz9_1 : w8.cell? ⟨gb110, 1, none⟩ = some (.int .i64 a0_1) := (zG BK110.out 1).trans rfl; have hcz9_2 : w8.cell? ⟨gb110, 2, none⟩ = some (.int .i64 a0_2) := (zG BK110.out 2).trans rfl; have hcz9_3 : w8.cell? ⟨gb110, 3, none⟩ = some (.int .u8 a0_3) := (zG BK110.out 3).trans rfl; have hfz9_0 := zI BK110.out 0; have hfz9_1 := zI BK110.out 1; have hfz9_2 := zI BK110.out 2; have hfz9_3 := zI BK110.out 3))
    go_ret
    exact ⟨by first | rfl | (simp [errW_none, errW_some] <;> rfl) | (simp [*, errW_none, errW_some] <;> rfl), by repeat (first | (with_reducible first | exact HB.out | apply zJ | apply zF | apply zH | refine zE ?_ GE110.out) | exact HB.out)⟩
  rw [if_pos c4] at H; have c4b0 : (a0_3 == 2) = true := beq_iff_eq.mpr c4
  have c4b1 : (a0_3 != 2) = false := bne_eq_false_iff_eq.mpr c4
  clear c4; by_cases c5 : a2 = 0
  · rw [if_pos c5] at H
    exact absurd H (by simp)
  rw [if_neg c5] at H; have c5b0 : (a2 == 0) = false := beq_eq_false_iff_ne.mpr c5
  have c5b1 : (a2 != 0) = true := bne_iff_ne.mpr c5
  obtain rfl := Option.some.inj H
  go_enter Try.func37, Try.ntmps37
  go_wp2_with (first | ((with_reducible refine gate_dst (N := 3) rfl ?_); refine box_event ?hg (N := 3) ?hd (cs := #[.int .i64 a0_0, .int .i64 a0_1, .int .i64 a0_2, .int .u8 a0_3]) (t := 62) ?hr ?_; (case hd => rfl); (case hg => rfl); (case hr => first | (go_simp; done) | (go_simp; rfl)); intro gb110 hg w6 hbox hb; have n0_ := zB.mk (zO (by repeat (first | (with_reducible first | exact HB.out | apply zJ | apply zF | apply zH) | exact HB.out)) hb); have n1_ := zB.mk (hbox); have n2_ := zB.mk ((by rw [hg]; exact (zM (by repeat (first | (with_reducible first | exact HB.out | apply zJ | apply zF | apply zH) | exact HB.out))) : w.heap.size ≤ gb110)); have n3_ := zB.mk ((by rw [hg]; exact (zM (by repeat (first | (with_reducible first | exact HB.out | apply zJ | apply zF | apply zH) | exact HB.out))) : w.heap.size ≤ gb110)); clear HB; have HB := n0_; have BK110 := n1_; have GW110 := n2_; have GE110 := n3_; clear n0_ n1_ n2_ n3_; clear hb hbox hg; have hcz7_0 : w6.cell? ⟨gb110, 0, none⟩ = some (.int .i64 a0_0) := (zG BK110.out 0).trans rfl; have hcz7_1 : w6.cell? ⟨gb110, 1, none⟩ = some (.int .i64 a0_1) := (zG BK110.out 1).trans rfl; have hcz7_2 : w6.cell? ⟨gb110, 2, none⟩ = some (.int .i64 a0_2) := (zG BK110.out 2).trans rfl; have hcz7_3 : w6.cell? ⟨gb110, 3, none⟩ = some (.int .u8 a0_3) := (zG BK110.out 3).trans rfl; have hfz7_0 := zI BK110.out 0; have hfz7_1 := zI BK110.out 1; have hfz7_2 := zI BK110.out 2; have hfz7_3 := zI BK110.out 3))
  go_ret
  exact ⟨by first | rfl | (simp [errW_none, errW_some] <;> rfl) | (simp [*, errW_none, errW_some] <;> rfl), by repeat (first | (with_reducible first | exact HB.out | apply zJ | apply zF | apply zH | refine zE ?_ GE110.out) | exact HB.out)⟩
def span_empty.f (a0_0 : Int) (a0_1 : Int) (a0_2 : Int) (a0_3 : Int) : Option (Bool) := if a0_3 = 1 then (some true) else (if a0_3 = 0 then (some (a0_2 == 0)) else (some false))
set_option maxHeartbeats 8000000 in
set_option maxRecDepth 100000 in
theorem span_empty.calls (a0_0 : Int) (a0_1 : Int) (a0_2 : Int) (a0_3 : Int) (r : Bool) (w : World) (h : span_empty.f a0_0 a0_1 a0_2 a0_3 = some r) :
    Calls Try.prog 47 #[.agg #[.int .i64 a0_0, .int .i64 a0_1, .int .i64 a0_2, .int .u8 a0_3]] w fun e w' => e = .returned (.bool r) ∧ Below w.heap.size w w' := by
  have hu62 := Try.underlying62; have HB := zB.mk (Below.refl w.heap.size w); have H : (if a0_3 = 1 then (some true) else (if a0_3 = 0 then (some (a0_2 == 0)) else (some false))) = some r := h
  clear h; by_cases c2 : a0_3 = 1
  · rw [if_pos c2] at H
    have c2b0 : (a0_3 == 1) = true := beq_iff_eq.mpr c2
    have c2b1 : (a0_3 != 1) = false := bne_eq_false_iff_eq.mpr c2
    clear c2; obtain rfl := Option.some.inj H
    go_enter Try.func47, Try.ntmps47
    go_wp2_with (first | ((with_reducible refine gate_dst (N := 1) rfl ?_); refine box_event ?hg (N := 1) ?hd (cs := #[.int .i64 a0_0, .int .i64 a0_1, .int .i64 a0_2, .int .u8 a0_3]) (t := 62) ?hr ?_; (case hd => rfl); (case hg => rfl); (case hr => first | (go_simp; done) | (go_simp; rfl)); intro gb111 hg w3 hbox hb; have n0_ := zB.mk (zO (by repeat (first | (with_reducible first | exact HB.out | apply zJ | apply zF | apply zH) | exact HB.out)) hb); have n1_ := zB.mk (hbox); have n2_ := zB.mk ((by rw [hg]; exact (zM (by repeat (first | (with_reducible first | exact HB.out | apply zJ | apply zF | apply zH) | exact HB.out))) : w.heap.size ≤ gb111)); have n3_ := zB.mk ((by rw [hg]; exact (zM (by repeat (first | (with_reducible first | exact HB.out | apply zJ | apply zF | apply zH) | exact HB.out))) : w.heap.size ≤ gb111)); clear HB; have HB := n0_; have BK111 := n1_; have GW111 := n2_; have GE111 := n3_; clear n0_ n1_ n2_ n3_; clear hb hbox hg; have hcz4_0 : w3.cell? ⟨gb111, 0, none⟩ = some (.int .i64 a0_0) := (zG BK111.out 0).trans rfl; have hcz4_1 : w3.cell? ⟨gb111, 1, none⟩ = some (.int .i64 a0_1) := (zG BK111.out 1).trans rfl; have hcz4_2 : w3.cell? ⟨gb111, 2, none⟩ = some (.int .i64 a0_2) := (zG BK111.out 2).trans rfl; have hcz4_3 : w3.cell? ⟨gb111, 3, none⟩ = some (.int .u8 a0_3) := (zG BK111.out 3).trans rfl; have hfz4_0 := zI BK111.out 0; have hfz4_1 := zI BK111.out 1; have hfz4_2 := zI BK111.out 2; have hfz4_3 := zI BK111.out 3))
    go_ret
    exact ⟨by first | rfl | (simp [errW_none, errW_some] <;> rfl) | (simp [*, errW_none, errW_some] <;> rfl), by repeat (first | (with_reducible first | exact HB.out | apply zJ | apply zF | apply zH | refine zE ?_ GE111.out) | exact HB.out)⟩
  rw [if_neg c2] at H; have c2b0 : (a0_3 == 1) = false := beq_eq_false_iff_ne.mpr c2
  have c2b1 : (a0_3 != 1) = true := bne_iff_ne.mpr c2
  by_cases c5 : a0_3 = 0
  · rw [if_pos c5] at H
    have c5b0 : (a0_3 == 0) = true := beq_iff_eq.mpr c5
    have c5b1 : (a0_3 != 0) = false := bne_eq_false_iff_eq.mpr c5
    clear c5; obtain rfl := Option.some.inj H
    go_enter Try.func47, Try.ntmps47
    go_wp2_with (first | ((with_reducible refine gate_dst (N := 1) rfl ?_); refine box_event ?hg (N := 1) ?hd (cs := #[.int .i64 a0_0, .int .i64 a0_1, .int .i64 a0_2, .int .u8 a0_3]) (t := 62) ?hr ?_; (case hd => rfl); (case hg => rfl); (case hr => first | (go_simp; done) | (go_simp; rfl)); intro gb111 hg w6 hbox hb; have n0_ := zB.mk (zO (by repeat (first | (with_reducible first | exact HB.out | apply zJ | apply zF | apply zH) | exact HB.out)) hb); have n1_ := zB.mk (hbox); have n2_ := zB.mk ((by rw [hg]; exact (zM (by repeat (first | (with_reducible first | exact HB.out | apply zJ | apply zF | apply zH) | exact HB.out))) : w.heap.size ≤ gb111)); have n3_ := zB.mk ((by rw [hg]; exact (zM (by repeat (first | (with_reducible first | exact HB.out | apply zJ | apply zF | apply zH) | exact HB.out))) : w.heap.size ≤ gb111)); clear HB; have HB := n0_; have BK111 := n1_; have GW111 := n2_; have GE111 := n3_; clear n0_ n1_ n2_ n3_; clear hb hbox hg; have hcz7_0 : w6.cell? ⟨gb111, 0, none⟩ = some (.int .i64 a0_0) := (zG BK111.out 0).trans rfl; have hcz7_1 : w6.cell? ⟨gb111, 1, none⟩ = some (.int .i64 a0_1) := (zG BK111.out 1).trans rfl; have hcz7_2 : w6.cell? ⟨gb111, 2, none⟩ = some (.int .i64 a0_2) := (zG BK111.out 2).trans rfl; have hcz7_3 : w6.cell? ⟨gb111, 3, none⟩ = some (.int .u8 a0_3) := (zG BK111.out 3).trans rfl; have hfz7_0 := zI BK111.out 0; have hfz7_1 := zI BK111.out 1; have hfz7_2 := zI BK111.out 2; have hfz7_3 := zI BK111.out 3))
    go_ret
    exact ⟨by first | rfl | (simp [errW_none, errW_some] <;> rfl) | (simp [*, errW_none, errW_some] <;> rfl), by repeat (first | (with_reducible first | exact HB.out | apply zJ | apply zF | apply zH | refine zE ?_ GE111.out) | exact HB.out)⟩
  rw [if_neg c5] at H; have c5b0 : (a0_3 == 0) = false := beq_eq_false_iff_ne.mpr c5
  have c5b1 : (a0_3 != 0) = true := bne_iff_ne.mpr c5
  obtain rfl := Option.some.inj H
  go_enter Try.func47, Try.ntmps47
  go_wp2_with (first | ((with_reducible refine gate_dst (N := 1) rfl ?_); refine box_event ?hg (N := 1) ?hd (cs := #[.int .i64 a0_0, .int .i64 a0_1, .int .i64 a0_2, .int .u8 a0_3]) (t := 62) ?hr ?_; (case hd => rfl); (case hg => rfl); (case hr => first | (go_simp; done) | (go_simp; rfl)); intro gb111 hg w8 hbox hb; have n0_ := zB.mk (zO (by repeat (first | (with_reducible first | exact HB.out | apply zJ | apply zF | apply zH) | exact HB.out)) hb); have n1_ := zB.mk (hbox); have n2_ := zB.mk ((by rw [hg]; exact (zM (by repeat (first | (with_reducible first | exact HB.out | apply zJ | apply zF | apply zH) | exact HB.out))) : w.heap.size ≤ gb111)); have n3_ := zB.mk ((by rw [hg]; exact (zM (by repeat (first | (with_reducible first | exact HB.out | apply zJ | apply zF | apply zH) | exact HB.out))) : w.heap.size ≤ gb111)); clear HB; have HB := n0_; have BK111 := n1_; have GW111 := n2_; have GE111 := n3_; clear n0_ n1_ n2_ n3_; clear hb hbox hg; have hcz9_0 : w8.cell? ⟨gb111, 0, none⟩ = some (.int .i64 a0_0) := (zG BK111.out 0).trans rfl; have hcz9_1 : w8.cell? ⟨gb111, 1, none⟩ = some (.int .i64 a0_1) := (zG BK111.out 1).trans rfl; have hcz9_2 : w8.cell? ⟨gb111, 2, none⟩ = some (.int .i64 a0_2) := (zG BK111.out 2).trans rfl; have hcz9_3 : w8.cell? ⟨gb111, 3, none⟩ = some (.int .u8 a0_3) := (zG BK111.out 3).trans rfl; have hfz9_0 := zI BK111.out 0; have hfz9_1 := zI BK111.out 1; have hfz9_2 := zI BK111.out 2; have hfz9_3 := zI BK111.out 3))
  go_ret
  exact ⟨by first | rfl | (simp [errW_none, errW_some] <;> rfl) | (simp [*, errW_none, errW_some] <;> rfl), by repeat (first | (with_reducible first | exact HB.out | apply zJ | apply zF | apply zH | refine zE ?_ GE111.out) | exact HB.out)⟩
end Go.Proofs.Ytlgclhhkgohanaa.F
end
section
namespace Go.Proofs.Ytlgclhhkgohanaa.F
open Go.RowKit Go.Proofs.YtlgclhhkgohanaaW.PrintWords Go.Proofs.YtlgclhhkgohanaaW.PrintLast Go.Proofs.YtlgclhhkgohanaaW.PrintMore
attribute [local go_sem] max2_int min2_int max_two min_two max_three min_three max_four min_four   -- for this text's walks alone
set_option linter.unusedVariables false
set_option linter.unusedSimpArgs false
def span_Trim.l0 : Nat → Int → Int → List (S62) → List Int → Option (Int)
  | 0, _, _, _, _ => none
  | k + 1, x1, x2, x113000, x113001 => if x2 > x1 then (if 0 ≤ (wrap64 (x2 - 1)) then (if (wrap64 (x2 - 1)) < (x113000.length : Int) then ((span_empty.f ((rd_T62 x113000 (wrap64 (x2 - 1))).f0) ((rd_T62 x113000 (wrap64 (x2 - 1))).f1) ((rd_T62 x113000 (wrap64 (x2 - 1))).f2) ((rd_T62 x113000 (wrap64 (x2 - 1))).f3)).bind fun t114 => (if t114 = true then (span_Trim.l0 k x1 (wrap64 (x2 - 1)) x113000 x113001) else (some x2))) else (none)) else (none)) else (some x2)
def span_Trim.f (k : Nat) (l0_0 : List (S62)) (l0_1 : List Int) (a1 : Int) (a2 : Int) : Option (Int) := span_Trim.l0 k a1 a2 l0_0 l0_1
theorem span_Trim.mono_l : ∀ k, (∀ y0 y1 y2 y3, LeO (span_Trim.l0 k y0 y1 y2 y3) (span_Trim.l0 (k + 1) y0 y1 y2 y3))
  | 0 => fun _ _ _ _ r h => by simp [span_Trim.l0] at h
  | k + 1 => by
    have ih0 := span_Trim.mono_l k
    · intro y0 y1 y2 y3
      unfold span_Trim.l0
      repeat' first
      | (with_reducible exact ih0 _ _ _ _)
      | (with_reducible exact LeO.refl _)
      | (with_reducible exact LeO.none _)
      | (with_reducible refine LeO.ite ?_ ?_)
      | (with_reducible refine LeO.bind ?_ (fun _ => ?_))
      | exact ih0 _ _ _ _
      | exact LeO.none _
      | refine LeO.ite ?_ ?_
      | refine LeO.bind ?_ (fun _ => ?_)
theorem span_Trim.mono : ∀ a0 a1 a2 a3 k, LeO (span_Trim.f k a0 a1 a2 a3) (span_Trim.f (k + 1) a0 a1 a2 a3) := by
  intro a0 a1 a2 a3 k
  have ih0 := span_Trim.mono_l k; unfold span_Trim.f
  repeat' first
      | (with_reducible exact ih0 _ _ _ _)
      | (with_reducible exact LeO.refl _)
      | (with_reducible exact LeO.none _)
      | (with_reducible refine LeO.ite ?_ ?_)
      | (with_reducible refine LeO.bind ?_ (fun _ => ?_))
      | exact ih0 _ _ _ _
      | exact LeO.none _
      | refine LeO.ite ?_ ?_
      | refine LeO.bind ?_ (fun _ => ?_)
set_option maxHeartbeats 8000000 in
set_option maxRecDepth 100000 in
theorem span_Trim.calls (k : Nat) (A0_0 : Option Addr) (c0_0 : Nat) (l0_0 : List (S62)) (A0_1 : Option Addr) (c0_1 : Nat) (l0_1 : List Int) (a1 : Int) (a2 : Int) (r : Int) (w : World) (hr0_0 : Kd.C k62 w A0_0 l0_0.length l0_0) (hc0_0 : l0_0.length ≤ c0_0) (hr0_1 : Kd.C (Kd.int .u8) w A0_1 l0_1.length l0_1) (hc0_1 : l0_1.length ≤ c0_1) (h : span_Trim.f k l0_0 l0_1 a1 a2 = some r) :
    Calls Try.prog 38 #[.agg #[.slice A0_0 l0_0.length c0_0, .slice A0_1 l0_1.length c0_1], .int .i64 a1, .int .i64 a2] w fun e w' => e = .returned (.int .i64 r) ∧ Below w.heap.size w w' := by
  have hu31 := Try.underlying31; have hu62 := Try.underlying62; have HR0_0 := zB.mk hr0_0; have HC0_0 := zB.mk hc0_0; clear hr0_0 hc0_0; have HR0_1 := zB.mk hr0_1; have HC0_1 := zB.mk hc0_1; clear hr0_1 hc0_1; have HB := zB.mk (Below.refl w.heap.size w); have H : (span_Trim.l0 k a1 a2 l0_0 l0_1) = some r := h
  clear h; have H' := zB.mk H
  clear H; go_enter Try.func38, Try.ntmps38
  go_wp2_with (first | ((with_reducible refine gate_dst (N := 3) rfl ?_); refine box_event ?hg (N := 3) ?hd (cs := #[.slice A0_0 l0_0.length c0_0, .slice A0_1 l0_1.length c0_1]) (t := 31) ?hr ?_; (case hd => rfl); (case hg => rfl); (case hr => first | (go_simp; done) | (go_simp; rfl)); intro gb112 hg w4 hbox hb; have n0_ := zB.mk (zO (by repeat (first | (with_reducible first | exact HB.out | apply zJ | apply zF | apply zH) | exact HB.out)) hb); have n1_ := zB.mk (hbox); have n2_ := zB.mk ((by rw [hg]; exact (zM (by repeat (first | (with_reducible first | exact HB.out | apply zJ | apply zF | apply zH) | exact HB.out))) : w.heap.size ≤ gb112)); have n3_ := zB.mk ((by rw [hg]; exact (zM (by repeat (first | (with_reducible first | exact HB.out | apply zJ | apply zF | apply zH) | exact HB.out))) : w.heap.size ≤ gb112)); clear HB; have HB := n0_; have BK112 := n1_; have GW112 := n2_; have GE112 := n3_; clear n0_ n1_ n2_ n3_; clear hb hbox hg))
  go_loopg [2] k (fun kq v2 w' => ∃ (x2_1 : Int), v2 = .int .i64 x2_1 ∧ zB (span_Trim.l0 kq a1 x2_1 l0_0 l0_1 = some r) ∧ zB (kq ≤ k) ∧ zB (w'.heap[gb112]? = some (.cells #[(.slice A0_0 l0_0.length c0_0), (.slice A0_1 l0_1.length c0_1)] 31 (0, 0))) ∧ zB (Below w.heap.size w w'))
  case atStart => exact ⟨(a2), (by first | rfl | (simp; done) | (simp [*]; done)), H', ⟨Nat.le_refl _⟩, ⟨by (with_reducible repeat (first | refine zC ?_ _ | refine zD ?_ | refine zA ?_ _)); exact BK112.out⟩, ⟨by repeat (first | (with_reducible first | exact HB.out | apply zJ | apply zF | apply zH | refine zE ?_ GE112.out) | exact HB.out)⟩⟩
  clear H'; try clear p2
  try clear c3
  obtain ⟨x2_1, rfl, HA, HK1, BK112, HB⟩ := hrel; cases gk with
  | zero => exact absurd HA.out (by simp [span_Trim.l0])
  | succ k1 =>
    have H := HA.out; clear HA; simp only [span_Trim.l0] at H; by_cases c5 : x2_1 > a1
    rotate_left
    · rw [if_neg c5] at H
      have c5b0 : decide (a1 < x2_1) = false := decide_eq_false c5
      clear c5; obtain rfl := Option.some.inj H
      go_wp2
      go_ret
      exact ⟨by first | rfl | (simp [errW_none, errW_some] <;> rfl) | (simp [*, errW_none, errW_some] <;> rfl), by repeat (first | (with_reducible first | exact HB.out | apply zJ | apply zF | apply zH | refine zE ?_ GE112.out) | exact HB.out)⟩
    rw [if_pos c5] at H; have c5b0 : decide (a1 < x2_1) = true := decide_eq_true c5
    clear c5; obtain ⟨ji6, hji6⟩ : ∃ j_ : Int, (wrap64 (x2_1 - 1)) = j_ := ⟨_, rfl⟩; replace H : (if 0 ≤ (ji6) then (if (ji6) < (l0_0.length : Int) then ((span_empty.f ((rd_T62 l0_0 (ji6)).f0) ((rd_T62 l0_0 (ji6)).f1) ((rd_T62 l0_0 (ji6)).f2) ((rd_T62 l0_0 (ji6)).f3)).bind fun t114 => (if t114 = true then (span_Trim.l0 k1 a1 ji6 l0_0 l0_1) else (some x2_1))) else (none)) else (none)) = some r := by first | (rw [hji6] at H; exact H) | (simp only [hji6] at H ⊢; exact H)
    have hji6w : (IntKind.i64.wrap (x2_1 - 1)) = ji6 := (i64_w _).trans hji6
    by_cases c7 : 0 ≤ (ji6)
    rotate_left
    · rw [if_neg c7] at H
      exact absurd H (by simp)
    rw [if_pos c7] at H; have c7b0 : decide (0 ≤ (ji6)) = true := decide_eq_true c7
    clear c7; by_cases c8 : (ji6) < (l0_0.length : Int)
    rotate_left
    · rw [if_neg c8] at H
      exact absurd H (by simp)
    rw [if_pos c8] at H; have c8b0 : decide ((ji6) < (l0_0.length : Int)) = true := decide_eq_true c8
    clear c8; replace H := Option.bind_eq_some_iff.mp H; obtain ⟨t114, A90, H⟩ := H; replace H : (if t114 = true then (span_Trim.l0 k1 a1 ji6 l0_0 l0_1) else (some x2_1)) = some r := H; have A9 := zB.mk A90; clear A90; by_cases c10 : t114 = true
    rotate_left
    · replace c10 := Bool.eq_false_iff.mpr c10
      subst c10; have H1 : (some x2_1) = some r := by rw [if_neg (show ¬ (false = true) by decide)] at H; exact H
      clear H; have H := H1; clear H1; obtain rfl := Option.some.inj H
      have hcz13_0 : wr.cell? ⟨gb112, 0, none⟩ = some (.slice A0_0 l0_0.length c0_0) := (zG BK112.out 0).trans rfl
      have hcz13_1 : wr.cell? ⟨gb112, 1, none⟩ = some (.slice A0_1 l0_1.length c0_1) := (zG BK112.out 1).trans rfl
      have hfz13_0 := zI BK112.out 0; have hfz13_1 := zI BK112.out 1; have p113 : 0 ≤ ((ji6) : Int) := of_decide_eq_true (by first | (with_reducible assumption) | assumption)
      have q113 : (ji6) < (l0_0.length : Int) := of_decide_eq_true (by first | (with_reducible assumption) | assumption)
      obtain ⟨ad113, e113, hx113_0, hx113_1, hx113_2, hx113_3⟩ := at_T62 HR0_0.out (ji6) p113 q113; cases e113
      replace hx113_0 := (HB.out.cell (World.block_lt_of_cell? w _ hx113_0)).trans hx113_0; replace hx113_1 := (HB.out.cell (World.block_lt_of_cell? w _ hx113_1)).trans hx113_1; replace hx113_2 := (HB.out.cell (World.block_lt_of_cell? w _ hx113_2)).trans hx113_2; replace hx113_3 := (HB.out.cell (World.block_lt_of_cell? w _ hx113_3)).trans hx113_3; replace p113 := eq_true p113; replace q113 := eq_true q113; go_wp2_with (first | (go_at_call 47; (with_reducible refine (span_empty.calls ((rd_T62 l0_0 (ji6)).f0) ((rd_T62 l0_0 (ji6)).f1) ((rd_T62 l0_0 (ji6)).f2) ((rd_T62 l0_0 (ji6)).f3) false _ A9.out).mono ?_); rintro e w14 ⟨rfl, hb⟩; have n0_ := zB.mk (zK (g := gb112) (o := .cells #[.slice (some ad113) l0_0.length c0_0, .slice A0_1 l0_1.length c0_1] 31 (0, 0)) (by (with_reducible repeat (first | refine zC ?_ _ | refine zD ?_ | refine zA ?_ _)); exact BK112.out) hb); have n1_ := zB.mk (zO (by repeat (first | (with_reducible first | exact HB.out | apply zJ | apply zF | apply zH | refine zE ?_ GE112.out) | exact HB.out)) hb); clear BK112; clear HB; have BK112 := n0_; have HB := n1_; clear n0_ n1_; (try clear hb); (try clear hb2); (try clear hk); (try clear hi)))
      go_ret
      exact ⟨by first | rfl | (simp [errW_none, errW_some] <;> rfl) | (simp only [← hji6]; first | rfl | (simp [errW_none, errW_some] <;> rfl)) | (simp [*, errW_none, errW_some] <;> rfl), by repeat (first | (with_reducible first | exact HB.out | apply zJ | apply zF | apply zH | refine zE ?_ GE112.out) | exact HB.out)⟩
    subst c10; have H1 : (span_Trim.l0 k1 a1 ji6 l0_0 l0_1) = some r := by rw [if_pos rfl] at H; exact H
    clear H; have H := H1; clear H1; have H' := zB.mk H
    clear H; have hcz11_0 : wr.cell? ⟨gb112, 0, none⟩ = some (.slice A0_0 l0_0.length c0_0) := (zG BK112.out 0).trans rfl
    have hcz11_1 : wr.cell? ⟨gb112, 1, none⟩ = some (.slice A0_1 l0_1.length c0_1) := (zG BK112.out 1).trans rfl
    have hfz11_0 := zI BK112.out 0; have hfz11_1 := zI BK112.out 1; have p113 : 0 ≤ ((ji6) : Int) := of_decide_eq_true (by first | (with_reducible assumption) | assumption)
    have q113 : (ji6) < (l0_0.length : Int) := of_decide_eq_true (by first | (with_reducible assumption) | assumption)
    obtain ⟨ad113, e113, hx113_0, hx113_1, hx113_2, hx113_3⟩ := at_T62 HR0_0.out (ji6) p113 q113; cases e113
    replace hx113_0 := (HB.out.cell (World.block_lt_of_cell? w _ hx113_0)).trans hx113_0; replace hx113_1 := (HB.out.cell (World.block_lt_of_cell? w _ hx113_1)).trans hx113_1; replace hx113_2 := (HB.out.cell (World.block_lt_of_cell? w _ hx113_2)).trans hx113_2; replace hx113_3 := (HB.out.cell (World.block_lt_of_cell? w _ hx113_3)).trans hx113_3; replace p113 := eq_true p113; replace q113 := eq_true q113; go_wp2_with (first | (go_at_call 47; (with_reducible refine (span_empty.calls ((rd_T62 l0_0 (ji6)).f0) ((rd_T62 l0_0 (ji6)).f1) ((rd_T62 l0_0 (ji6)).f2) ((rd_T62 l0_0 (ji6)).f3) true _ A9.out).mono ?_); rintro e w12 ⟨rfl, hb⟩; have n0_ := zB.mk (zK (g := gb112) (o := .cells #[.slice (some ad113) l0_0.length c0_0, .slice A0_1 l0_1.length c0_1] 31 (0, 0)) (by (with_reducible repeat (first | refine zC ?_ _ | refine zD ?_ | refine zA ?_ _)); exact BK112.out) hb); have n1_ := zB.mk (zO (by repeat (first | (with_reducible first | exact HB.out | apply zJ | apply zF | apply zH | refine zE ?_ GE112.out) | exact HB.out)) hb); clear BK112; clear HB; have BK112 := n0_; have HB := n1_; clear n0_ n1_; (try clear hb); (try clear hb2); (try clear hk); (try clear hi)))
    go_roundg k1
    case measure => have := HK1.out; omega
    case rel => exact ⟨(ji6), (by first | rfl | (simp; done) | (simp only [← hji6] <;> (first | rfl | simp)) | (simp [*]; done)), H', ⟨by have := HK1.out; omega⟩, ⟨by (with_reducible repeat (first | refine zC ?_ _ | refine zD ?_ | refine zA ?_ _)); exact BK112.out⟩, ⟨by repeat (first | (with_reducible first | exact HB.out | apply zJ | apply zF | apply zH | refine zE ?_ GE112.out) | exact HB.out)⟩⟩
end Go.Proofs.Ytlgclhhkgohanaa.F
end
section
namespace Go.Proofs.Ytlgclhhkgohanaa.F
open Go.RowKit Go.Proofs.YtlgclhhkgohanaaW.PrintWords Go.Proofs.YtlgclhhkgohanaaW.PrintLast Go.Proofs.YtlgclhhkgohanaaW.PrintMore
attribute [local go_sem] max2_int min2_int max_two min_two max_three min_three max_four min_four   -- for this text's walks alone
set_option linter.unusedVariables false
set_option linter.unusedSimpArgs false
mutual
def best_next.l0 : Nat → Int → Int → Int → List (S65) → Int → Int → Int → Int → Int → List (S62) → List Int → Int → Int → Int → Int → Int → Nat → Int → Int → Option (Int × Int)
  | 0, _, _, _, _, _, _, _, _, _, _, _, _, _, _, _, _, _, _, _ => none
  | k + 1, x1, x2, x3, x4, x14, x15, x16, x17, x18, x116000, x116001, x117000, x117001, x117002, x117003, x117004, x117005, x119000, x119001 => if x18 ≤ x3 then (if 0 ≤ (wrap64 (x18 - 1)) then (if (wrap64 (x18 - 1)) < (x116000.length : Int) then ((span_Next.f ((rd_T62 x116000 (wrap64 (x18 - 1))).f0) ((rd_T62 x116000 (wrap64 (x18 - 1))).f1) ((rd_T62 x116000 (wrap64 (x18 - 1))).f2) ((rd_T62 x116000 (wrap64 (x18 - 1))).f3) x14 x117001).bind fun t121 => (if ((rd_T62 x116000 (wrap64 (x18 - 1))).f3) = 1 then (best_next.j1 k x1 x2 x3 x4 t121 x15 (wrap64 (x16 + 1)) x17 x18 x116000 x116001 x117000 x117001 x117002 x117003 x117004 x117005 x119000 x119001) else (best_next.j1 k x1 x2 x3 x4 t121 x15 x16 x17 x18 x116000 x116001 x117000 x117001 x117002 x117003 x117004 x117005 x119000 x119001))) else (none)) else (none)) else (some (x119000, x119001))
def best_next.j1 : Nat → Int → Int → Int → List (S65) → Int → Int → Int → Int → Int → List (S62) → List Int → Int → Int → Int → Int → Int → Nat → Int → Int → Option (Int × Int)
  | 0, _, _, _, _, _, _, _, _, _, _, _, _, _, _, _, _, _, _, _ => none
  | k + 1, x1, x2, x3, x4, x14, x15, x16, x17, x18, x116000, x116001, x117000, x117001, x117002, x117003, x117004, x117005, x119000, x119001 => (span_Trim.f k x116000 x116001 (wrap64 (x18 - 1)) x18).bind fun t122 => (if t122 = x18 then (best_next.j2 k x1 x2 x3 x4 x14 x14 x16 x16 x18 x116000 x116001 x117000 x117001 x117002 x117003 x117004 x117005 x119000 x119001) else (best_next.j2 k x1 x2 x3 x4 x14 x15 x16 x17 x18 x116000 x116001 x117000 x117001 x117002 x117003 x117004 x117005 x119000 x119001))
def best_next.j2 : Nat → Int → Int → Int → List (S65) → Int → Int → Int → Int → Int → List (S62) → List Int → Int → Int → Int → Int → Int → Nat → Int → Int → Option (Int × Int)
  | 0, _, _, _, _, _, _, _, _, _, _, _, _, _, _, _, _, _, _, _ => none
  | k + 1, x1, x2, x3, x4, x14, x15, x16, x17, x18, x116000, x116001, x117000, x117001, x117002, x117003, x117004, x117005, x119000, x119001 => if x15 > x117000 then (some (x119000, x119001)) else ((span_Ends.f x116000 x116001 x18).bind fun bt123 => (if 0 ≤ (wrap64 (x18 - x2)) then (if (wrap64 (x18 - x2)) < (x4.length : Int) then (if bt123.2 = true then (if x18 < x3 then (best_next.j3 k x1 x2 x3 x4 x14 x15 x16 x17 x18 bt123.1 (decide (((rd_T65 x4 (wrap64 (x18 - x2))).f1) < 0)) x116000 x116001 x117000 x117001 x117002 x117003 x117004 x117005 x119000 x119001 ((rd_T65 x4 (wrap64 (x18 - x2))).f0) ((rd_T65 x4 (wrap64 (x18 - x2))).f1)) else (best_next.j3 k x1 x2 x3 x4 x14 x15 x16 x17 x18 bt123.1 false x116000 x116001 x117000 x117001 x117002 x117003 x117004 x117005 x119000 x119001 ((rd_T65 x4 (wrap64 (x18 - x2))).f0) ((rd_T65 x4 (wrap64 (x18 - x2))).f1))) else (best_next.j3 k x1 x2 x3 x4 x14 x15 x16 x17 x18 bt123.1 true x116000 x116001 x117000 x117001 x117002 x117003 x117004 x117005 x119000 x119001 ((rd_T65 x4 (wrap64 (x18 - x2))).f0) ((rd_T65 x4 (wrap64 (x18 - x2))).f1))) else (none)) else (none)))
def best_next.j3 : Nat → Int → Int → Int → List (S65) → Int → Int → Int → Int → Int → Int → Bool → List (S62) → List Int → Int → Int → Int → Int → Int → Nat → Int → Int → Int → Int → Option (Int × Int)
  | 0, _, _, _, _, _, _, _, _, _, _, _, _, _, _, _, _, _, _, _, _, _, _, _ => none
  | k + 1, x1, x2, x3, x4, x14, x15, x16, x17, x18, x20, x86, x116000, x116001, x117000, x117001, x117002, x117003, x117004, x117005, x119000, x119001, x127000, x127001 => if x86 = true then (best_next.l0 k x1 x2 x3 x4 x14 x15 x16 x17 (wrap64 (x18 + 1)) x116000 x116001 x117000 x117001 x117002 x117003 x117004 x117005 x119000 x119001) else (if x20 = 3 then ((best_price.f k x116000 x116001 x1 x20 (wrap64 (x15 + 1)) x17 (x18 == x3) x117000 x117001 x117002 x117003 x117004 x117005).bind fun bt127 => (if bt127.2 = true then (if x119001 < 0 then (best_next.l0 k x1 x2 x3 x4 x14 x15 x16 x17 (wrap64 (x18 + 1)) x116000 x116001 x117000 x117001 x117002 x117003 x117004 x117005 (wrap64 (bt127.1 + x127000)) x18) else (if (wrap64 (bt127.1 + x127000)) < x119000 then (best_next.l0 k x1 x2 x3 x4 x14 x15 x16 x17 (wrap64 (x18 + 1)) x116000 x116001 x117000 x117001 x117002 x117003 x117004 x117005 (wrap64 (bt127.1 + x127000)) x18) else (best_next.l0 k x1 x2 x3 x4 x14 x15 x16 x17 (wrap64 (x18 + 1)) x116000 x116001 x117000 x117001 x117002 x117003 x117004 x117005 x119000 x119001))) else (best_next.l0 k x1 x2 x3 x4 x14 x15 x16 x17 (wrap64 (x18 + 1)) x116000 x116001 x117000 x117001 x117002 x117003 x117004 x117005 x119000 x119001))) else ((best_price.f k x116000 x116001 x1 x20 x15 x17 (x18 == x3) x117000 x117001 x117002 x117003 x117004 x117005).bind fun bt129 => (if bt129.2 = true then (if x119001 < 0 then (best_next.l0 k x1 x2 x3 x4 x14 x15 x16 x17 (wrap64 (x18 + 1)) x116000 x116001 x117000 x117001 x117002 x117003 x117004 x117005 (wrap64 (bt129.1 + x127000)) x18) else (if (wrap64 (bt129.1 + x127000)) < x119000 then (best_next.l0 k x1 x2 x3 x4 x14 x15 x16 x17 (wrap64 (x18 + 1)) x116000 x116001 x117000 x117001 x117002 x117003 x117004 x117005 (wrap64 (bt129.1 + x127000)) x18) else (best_next.l0 k x1 x2 x3 x4 x14 x15 x16 x17 (wrap64 (x18 + 1)) x116000 x116001 x117000 x117001 x117002 x117003 x117004 x117005 x119000 x119001))) else (best_next.l0 k x1 x2 x3 x4 x14 x15 x16 x17 (wrap64 (x18 + 1)) x116000 x116001 x117000 x117001 x117002 x117003 x117004 x117005 x119000 x119001))))
end
def best_next.f (k : Nat) (l0_0 : List (S62)) (l0_1 : List Int) (a1 : Int) (a2 : Int) (a3 : Int) (l4 : List (S65)) (a5_0 : Int) (a5_1 : Int) (a5_2 : Int) (a5_3 : Int) (a5_4 : Int) (a5_5 : Nat) : Option (Int × Int) := best_next.l0 k a1 a2 a3 l4 0 0 0 0 (wrap64 (a1 + 1)) l0_0 l0_1 a5_0 a5_1 a5_2 a5_3 a5_4 a5_5 0 (-1)
theorem best_next.mono_l : ∀ k, (∀ y0 y1 y2 y3 y4 y5 y6 y7 y8 y9 y10 y11 y12 y13 y14 y15 y16 y17 y18, LeO (best_next.l0 k y0 y1 y2 y3 y4 y5 y6 y7 y8 y9 y10 y11 y12 y13 y14 y15 y16 y17 y18) (best_next.l0 (k + 1) y0 y1 y2 y3 y4 y5 y6 y7 y8 y9 y10 y11 y12 y13 y14 y15 y16 y17 y18)) ∧ (∀ y0 y1 y2 y3 y4 y5 y6 y7 y8 y9 y10 y11 y12 y13 y14 y15 y16 y17 y18, LeO (best_next.j1 k y0 y1 y2 y3 y4 y5 y6 y7 y8 y9 y10 y11 y12 y13 y14 y15 y16 y17 y18) (best_next.j1 (k + 1) y0 y1 y2 y3 y4 y5 y6 y7 y8 y9 y10 y11 y12 y13 y14 y15 y16 y17 y18)) ∧ (∀ y0 y1 y2 y3 y4 y5 y6 y7 y8 y9 y10 y11 y12 y13 y14 y15 y16 y17 y18, LeO (best_next.j2 k y0 y1 y2 y3 y4 y5 y6 y7 y8 y9 y10 y11 y12 y13 y14 y15 y16 y17 y18) (best_next.j2 (k + 1) y0 y1 y2 y3 y4 y5 y6 y7 y8 y9 y10 y11 y12 y13 y14 y15 y16 y17 y18)) ∧ (∀ y0 y1 y2 y3 y4 y5 y6 y7 y8 y9 y10 y11 y12 y13 y14 y15 y16 y17 y18 y19 y20 y21 y22, LeO (best_next.j3 k y0 y1 y2 y3 y4 y5 y6 y7 y8 y9 y10 y11 y12 y13 y14 y15 y16 y17 y18 y19 y20 y21 y22) (best_next.j3 (k + 1) y0 y1 y2 y3 y4 y5 y6 y7 y8 y9 y10 y11 y12 y13 y14 y15 y16 y17 y18 y19 y20 y21 y22))
  | 0 => ⟨fun _ _ _ _ _ _ _ _ _ _ _ _ _ _ _ _ _ _ _ r h => by simp [best_next.l0] at h, fun _ _ _ _ _ _ _ _ _ _ _ _ _ _ _ _ _ _ _ r h => by simp [best_next.j1] at h, fun _ _ _ _ _ _ _ _ _ _ _ _ _ _ _ _ _ _ _ r h => by simp [best_next.j2] at h, fun _ _ _ _ _ _ _ _ _ _ _ _ _ _ _ _ _ _ _ _ _ _ _ r h => by simp [best_next.j3] at h⟩
  | k + 1 => by
    obtain ⟨ih0, ih1, ih2, ih3⟩ := best_next.mono_l k; refine ⟨?_, ?_, ?_, ?_⟩
    · intro y0 y1 y2 y3 y4 y5 y6 y7 y8 y9 y10 y11 y12 y13 y14 y15 y16 y17 y18
      unfold best_next.l0
      repeat' first
      | (with_reducible exact ih0 _ _ _ _ _ _ _ _ _ _ _ _ _ _ _ _ _ _ _)
      | (with_reducible exact ih1 _ _ _ _ _ _ _ _ _ _ _ _ _ _ _ _ _ _ _)
      | (with_reducible exact ih2 _ _ _ _ _ _ _ _ _ _ _ _ _ _ _ _ _ _ _)
      | (with_reducible exact ih3 _ _ _ _ _ _ _ _ _ _ _ _ _ _ _ _ _ _ _ _ _ _ _)
      | (with_reducible exact best_price.mono _ _ _ _ _ _ _ _ _ _ _ _ _ _)
      | (with_reducible exact span_Trim.mono _ _ _ _ _)
      | (with_reducible exact LeO.refl _)
      | (with_reducible exact LeO.none _)
      | (with_reducible refine LeO.ite ?_ ?_)
      | (with_reducible refine LeO.bind ?_ (fun _ => ?_))
      | exact ih0 _ _ _ _ _ _ _ _ _ _ _ _ _ _ _ _ _ _ _
      | exact ih1 _ _ _ _ _ _ _ _ _ _ _ _ _ _ _ _ _ _ _
      | exact ih2 _ _ _ _ _ _ _ _ _ _ _ _ _ _ _ _ _ _ _
      | exact ih3 _ _ _ _ _ _ _ _ _ _ _ _ _ _ _ _ _ _ _ _ _ _ _
      | exact best_price.mono _ _ _ _ _ _ _ _ _ _ _ _ _ _
      | exact span_Trim.mono _ _ _ _ _
      | exact LeO.none _
      | refine LeO.ite ?_ ?_
      | refine LeO.bind ?_ (fun _ => ?_)
    · intro y0 y1 y2 y3 y4 y5 y6 y7 y8 y9 y10 y11 y12 y13 y14 y15 y16 y17 y18
      unfold best_next.j1
      repeat' first
      | (with_reducible exact ih0 _ _ _ _ _ _ _ _ _ _ _ _ _ _ _ _ _ _ _)
      | (with_reducible exact ih1 _ _ _ _ _ _ _ _ _ _ _ _ _ _ _ _ _ _ _)
      | (with_reducible exact ih2 _ _ _ _ _ _ _ _ _ _ _ _ _ _ _ _ _ _ _)
      | (with_reducible exact ih3 _ _ _ _ _ _ _ _ _ _ _ _ _ _ _ _ _ _ _ _ _ _ _)
      | (with_reducible exact best_price.mono _ _ _ _ _ _ _ _ _ _ _ _ _ _)
      | (with_reducible exact span_Trim.mono _ _ _ _ _)
      | (with_reducible exact LeO.refl _)
      | (with_reducible exact LeO.none _)
      | (with_reducible refine LeO.ite ?_ ?_)
      | (with_reducible refine LeO.bind ?_ (fun _ => ?_))
      | exact ih0 _ _ _ _ _ _ _ _ _ _ _ _ _ _ _ _ _ _ _
      | exact ih1 _ _ _ _ _ _ _ _ _ _ _ _ _ _ _ _ _ _ _
      | exact ih2 _ _ _ _ _ _ _ _ _ _ _ _ _ _ _ _ _ _ _
      | exact ih3 _ _ _ _ _ _ _ _ _ _ _ _ _ _ _ _ _ _ _ _ _ _ _
      | exact best_price.mono _ _ _ _ _ _ _ _ _ _ _ _ _ _
      | exact span_Trim.mono _ _ _ _ _
      | exact LeO.none _
      | refine LeO.ite ?_ ?_
      | refine LeO.bind ?_ (fun _ => ?_)
    · intro y0 y1 y2 y3 y4 y5 y6 y7 y8 y9 y10 y11 y12 y13 y14 y15 y16 y17 y18
      unfold best_next.j2
      repeat' first
      | (with_reducible exact ih0 _ _ _ _ _ _ _ _ _ _ _ _ _ _ _ _ _ _ _)
      | (with_reducible exact ih1 _ _ _ _ _ _ _ _ _ _ _ _ _ _ _ _ _ _ _)
      | (with_reducible exact ih2 _ _ _ _ _ _ _ _ _ _ _ _ _ _ _ _ _ _ _)
      | (with_reducible exact ih3 _ _ _ _ _ _ _ _ _ _ _ _ _ _ _ _ _ _ _ _ _ _ _)
      | (with_reducible exact best_price.mono _ _ _ _ _ _ _ _ _ _ _ _ _ _)
      | (with_reducible exact span_Trim.mono _ _ _ _ _)
      | (with_reducible exact LeO.refl _)
      | (with_reducible exact LeO.none _)
      | (with_reducible refine LeO.ite ?_ ?_)
      | (with_reducible refine LeO.bind ?_ (fun _ => ?_))
      | exact ih0 _ _ _ _ _ _ _ _ _ _ _ _ _ _ _ _ _ _ _
      | exact ih1 _ _ _ _ _ _ _ _ _ _ _ _ _ _ _ _ _ _ _
      | exact ih2 _ _ _ _ _ _ _ _ _ _ _ _ _ _ _ _ _ _ _
      | exact ih3 _ _ _ _ _ _ _ _ _ _ _ _ _ _ _ _ _ _ _ _ _ _ _
      | exact best_price.mono _ _ _ _ _ _ _ _ _ _ _ _ _ _
      | exact span_Trim.mono _ _ _ _ _
      | exact LeO.none _
      | refine LeO.ite ?_ ?_
      | refine LeO.bind ?_ (fun _ => ?_)
    · intro y0 y1 y2 y3 y4 y5 y6 y7 y8 y9 y10 y11 y12 y13 y14 y15 y16 y17 y18 y19 y20 y21 y22
      unfold best_next.j3
      repeat' first
      | (with_reducible exact ih0 _ _ _ _ _ _ _ _ _ _ _ _ _ _ _ _ _ _ _)
      | (with_reducible exact ih1 _ _ _ _ _ _ _ _ _ _ _ _ _ _ _ _ _ _ _)
      | (with_reducible exact ih2 _ _ _ _ _ _ _ _ _ _ _ _ _ _ _ _ _ _ _)
      | (with_reducible exact ih3 _ _ _ _ _ _ _ _ _ _ _ _ _ _ _ _ _ _ _ _ _ _ _)
      | (with_reducible exact best_price.mono _ _ _ _ _ _ _ _ _ _ _ _ _ _)
      | (with_reducible exact span_Trim.mono _ _ _ _ _)
      | (with_reducible exact LeO.refl _)
      | (with_reducible exact LeO.none _)
      | (with_reducible refine LeO.ite ?_ ?_)
      | (with_reducible refine LeO.bind ?_ (fun _ => ?_))
      | exact ih0 _ _ _ _ _ _ _ _ _ _ _ _ _ _ _ _ _ _ _
      | exact ih1 _ _ _ _ _ _ _ _ _ _ _ _ _ _ _ _ _ _ _
      | exact ih2 _ _ _ _ _ _ _ _ _ _ _ _ _ _ _ _ _ _ _
      | exact ih3 _ _ _ _ _ _ _ _ _ _ _ _ _ _ _ _ _ _ _ _ _ _ _
      | exact best_price.mono _ _ _ _ _ _ _ _ _ _ _ _ _ _
      | exact span_Trim.mono _ _ _ _ _
      | exact LeO.none _
      | refine LeO.ite ?_ ?_
      | refine LeO.bind ?_ (fun _ => ?_)
theorem best_next.mono : ∀ a0 a1 a2 a3 a4 a5 a6 a7 a8 a9 a10 a11 k, LeO (best_next.f k a0 a1 a2 a3 a4 a5 a6 a7 a8 a9 a10 a11) (best_next.f (k + 1) a0 a1 a2 a3 a4 a5 a6 a7 a8 a9 a10 a11) := by
  intro a0 a1 a2 a3 a4 a5 a6 a7 a8 a9 a10 a11 k
  obtain ⟨ih0, ih1, ih2, ih3⟩ := best_next.mono_l k; unfold best_next.f
  repeat' first
      | (with_reducible exact ih0 _ _ _ _ _ _ _ _ _ _ _ _ _ _ _ _ _ _ _)
      | (with_reducible exact ih1 _ _ _ _ _ _ _ _ _ _ _ _ _ _ _ _ _ _ _)
      | (with_reducible exact ih2 _ _ _ _ _ _ _ _ _ _ _ _ _ _ _ _ _ _ _)
      | (with_reducible exact ih3 _ _ _ _ _ _ _ _ _ _ _ _ _ _ _ _ _ _ _ _ _ _ _)
      | (with_reducible exact best_price.mono _ _ _ _ _ _ _ _ _ _ _ _ _ _)
      | (with_reducible exact span_Trim.mono _ _ _ _ _)
      | (with_reducible exact LeO.refl _)
      | (with_reducible exact LeO.none _)
      | (with_reducible refine LeO.ite ?_ ?_)
      | (with_reducible refine LeO.bind ?_ (fun _ => ?_))
      | exact ih0 _ _ _ _ _ _ _ _ _ _ _ _ _ _ _ _ _ _ _
      | exact ih1 _ _ _ _ _ _ _ _ _ _ _ _ _ _ _ _ _ _ _
      | exact ih2 _ _ _ _ _ _ _ _ _ _ _ _ _ _ _ _ _ _ _
      | exact ih3 _ _ _ _ _ _ _ _ _ _ _ _ _ _ _ _ _ _ _ _ _ _ _
      | exact best_price.mono _ _ _ _ _ _ _ _ _ _ _ _ _ _
      | exact span_Trim.mono _ _ _ _ _
      | exact LeO.none _
      | refine LeO.ite ?_ ?_
      | refine LeO.bind ?_ (fun _ => ?_)
set_option maxHeartbeats 8000000 in
set_option maxRecDepth 100000 in
theorem best_next.calls (k : Nat) (A0_0 : Option Addr) (c0_0 : Nat) (l0_0 : List (S62)) (A0_1 : Option Addr) (c0_1 : Nat) (l0_1 : List Int) (a1 : Int) (a2 : Int) (a3 : Int) (A4 : Option Addr) (c4 : Nat) (l4 : List (S65)) (a5_0 : Int) (a5_1 : Int) (a5_2 : Int) (a5_3 : Int) (a5_4 : Int) (a5_5 : Nat) (r1 : Int) (r2 : Int) (w : World) (hr0_0 : Kd.C k62 w A0_0 l0_0.length l0_0) (hc0_0 : l0_0.length ≤ c0_0) (hr0_1 : Kd.C (Kd.int .u8) w A0_1 l0_1.length l0_1) (hc0_1 : l0_1.length ≤ c0_1) (hr4 : Kd.C k65 w A4 l4.length l4) (hc4 : l4.length ≤ c4) (h : best_next.f k l0_0 l0_1 a1 a2 a3 l4 a5_0 a5_1 a5_2 a5_3 a5_4 a5_5 = some (r1, r2)) :
    Calls Try.prog 24 #[.agg #[.slice A0_0 l0_0.length c0_0, .slice A0_1 l0_1.length c0_1], .int .i64 a1, .int .i64 a2, .int .i64 a3, .slice A4 l4.length c4, .agg #[.int .i64 a5_0, .int .i64 a5_1, .int .u8 a5_2, .int .i64 a5_3, .int .i64 a5_4, .float .f64 a5_5]] w fun e w' => e = .returned (.agg #[.int .i64 r1, .int .i64 r2]) ∧ Below w.heap.size w w' := by
  have hu31 := Try.underlying31; have hu35 := Try.underlying35; have hu65 := Try.underlying65; have hu62 := Try.underlying62; have HR0_0 := zB.mk hr0_0; have HC0_0 := zB.mk hc0_0; clear hr0_0 hc0_0; have HR0_1 := zB.mk hr0_1; have HC0_1 := zB.mk hc0_1; clear hr0_1 hc0_1; have HR4 := zB.mk hr4; have HC4 := zB.mk hc4; clear hr4 hc4; have HB := zB.mk (Below.refl w.heap.size w); have H : (best_next.l0 k a1 a2 a3 l4 0 0 0 0 (wrap64 (a1 + 1)) l0_0 l0_1 a5_0 a5_1 a5_2 a5_3 a5_4 a5_5 0 (-1)) = some (r1, r2) := h
  clear h; have H' := zB.mk H
  clear H; go_enter Try.func24, Try.ntmps24
  go_wp2_with (first | ((with_reducible refine gate_dst (N := 6) rfl ?_); refine box_event ?hg (N := 6) ?hd (cs := #[.slice A0_0 l0_0.length c0_0, .slice A0_1 l0_1.length c0_1]) (t := 31) ?hr ?_; (case hd => rfl); (case hg => rfl); (case hr => first | (go_simp; done) | (go_simp; rfl)); intro gb115 hg w7 hbox hb; have n0_ := zB.mk (zO (by repeat (first | (with_reducible first | exact HB.out | apply zJ | apply zF | apply zH) | exact HB.out)) hb); have n1_ := zB.mk (hbox); have n2_ := zB.mk ((by rw [hg]; exact (zM (by repeat (first | (with_reducible first | exact HB.out | apply zJ | apply zF | apply zH) | exact HB.out))) : w.heap.size ≤ gb115)); have n3_ := zB.mk ((by rw [hg]; exact (zM (by repeat (first | (with_reducible first | exact HB.out | apply zJ | apply zF | apply zH) | exact HB.out))) : w.heap.size ≤ gb115)); clear HB; have HB := n0_; have BK115 := n1_; have GW115 := n2_; have GE115 := n3_; clear n0_ n1_ n2_ n3_; clear hb hbox hg) | ((with_reducible refine gate_dst (N := 11) rfl ?_); refine box_event ?hg (N := 11) ?hd (cs := #[.int .i64 a5_0, .int .i64 a5_1, .int .u8 a5_2, .int .i64 a5_3, .int .i64 a5_4, .float .f64 a5_5]) (t := 35) ?hr ?_; (case hd => rfl); (case hg => rfl); (case hr => first | (go_simp; done) | (go_simp; rfl)); intro gb116 hg w8 hbox hb; have n0_ := zB.mk (zK (g := gb115) (o := .cells #[.slice A0_0 l0_0.length c0_0, .slice A0_1 l0_1.length c0_1] 31 (0, 0)) (by (with_reducible repeat (first | refine zC ?_ _ | refine zD ?_ | refine zA ?_ _)); exact BK115.out) hb); have n1_ := zB.mk (zO (by repeat (first | (with_reducible first | exact HB.out | apply zJ | apply zF | apply zH | refine zE ?_ GE115.out) | exact HB.out)) hb); have n2_ := zB.mk (hbox); have n3_ := zB.mk ((by rw [hg]; exact (zM (by repeat (first | (with_reducible first | exact HB.out | apply zJ | apply zF | apply zH | refine zE ?_ GE115.out) | exact HB.out))) : w.heap.size ≤ gb116)); have n4_ := zB.mk ((by rw [hg]; exact (zM (by repeat (first | (with_reducible first | exact HB.out | apply zJ | apply zF | apply zH | refine zE ?_ GE115.out) | exact HB.out))) : w.heap.size ≤ gb116)); have n5_ := zB.mk ((by rw [hg]; exact Nat.ne_of_lt (blk_lt (g := gb115) (o := .cells #[.slice A0_0 l0_0.length c0_0, .slice A0_1 l0_1.length c0_1] 31 (0, 0)) (by (with_reducible repeat (first | refine zC ?_ _ | refine zD ?_ | refine zA ?_ _)); exact BK115.out)) : gb115 ≠ gb116)); have n6_ := zB.mk ((by rw [hg]; exact Nat.ne_of_gt (blk_lt (g := gb115) (o := .cells #[.slice A0_0 l0_0.length c0_0, .slice A0_1 l0_1.length c0_1] 31 (0, 0)) (by (with_reducible repeat (first | refine zC ?_ _ | refine zD ?_ | refine zA ?_ _)); exact BK115.out)) : gb116 ≠ gb115)); clear BK115; clear HB; have BK115 := n0_; have HB := n1_; have BK116 := n2_; have GW116 := n3_; have GE116 := n4_; have NB115_116 := n5_; have NB116_115 := n6_; clear n0_ n1_ n2_ n3_ n4_ n5_ n6_; clear hb hbox hg) | ((with_reducible refine gate_dst (N := 12) rfl ?_); refine box_event ?hg (N := 12) ?hd (cs := #[.int .i64 0, .int .i64 0]) (t := 65) ?hr ?_; (case hd => rfl); (case hg => rfl); (case hr => first | (go_simp; done) | (go_simp; rfl)); intro gb117 hg w9 hbox hb; have n0_ := zB.mk (zK (g := gb115) (o := .cells #[.slice A0_0 l0_0.length c0_0, .slice A0_1 l0_1.length c0_1] 31 (0, 0)) (by (with_reducible repeat (first | refine zC ?_ _ | refine zD ?_ | refine zA ?_ _)); exact BK115.out) hb); have n1_ := zB.mk (zK (g := gb116) (o := .cells #[.int .i64 a5_0, .int .i64 a5_1, .int .u8 a5_2, .int .i64 a5_3, .int .i64 a5_4, .float .f64 a5_5] 35 (0, 0)) (by (with_reducible repeat (first | refine zC ?_ _ | refine zD ?_ | refine zA ?_ _)); exact BK116.out) hb); have n2_ := zB.mk (zO (by repeat (first | (with_reducible first | exact HB.out | apply zJ | apply zF | apply zH | refine zE ?_ GE115.out | refine zE ?_ GE116.out) | exact HB.out)) hb); have n3_ := zB.mk (hbox); have n4_ := zB.mk ((by rw [hg]; exact (zM (by repeat (first | (with_reducible first | exact HB.out | apply zJ | apply zF | apply zH | refine zE ?_ GE115.out | refine zE ?_ GE116.out) | exact HB.out))) : w.heap.size ≤ gb117)); have n5_ := zB.mk ((by rw [hg]; exact (zM (by repeat (first | (with_reducible first | exact HB.out | apply zJ | apply zF | apply zH | refine zE ?_ GE115.out | refine zE ?_ GE116.out) | exact HB.out))) : w.heap.size ≤ gb117)); have n6_ := zB.mk ((by rw [hg]; exact Nat.ne_of_lt (blk_lt (g := gb115) (o := .cells #[.slice A0_0 l0_0.length c0_0, .slice A0_1 l0_1.length c0_1] 31 (0, 0)) (by (with_reducible repeat (first | refine zC ?_ _ | refine zD ?_ | refine zA ?_ _)); exact BK115.out)) : gb115 ≠ gb117)); have n7_ := zB.mk ((by rw [hg]; exact Nat.ne_of_gt (blk_lt (g := gb115) (o := .cells #[.slice A0_0 l0_0.length c0_0, .slice A0_1 l0_1.length c0_1] 31 (0, 0)) (by (with_reducible repeat (first | refine zC ?_ _ | refine zD ?_ | refine zA ?_ _)); exact BK115.out)) : gb117 ≠ gb115)); have n8_ := zB.mk ((by rw [hg]; exact Nat.ne_of_lt (blk_lt (g := gb116) (o := .cells #[.int .i64 a5_0, .int .i64 a5_1, .int .u8 a5_2, .int .i64 a5_3, .int .i64 a5_4, .float .f64 a5_5] 35 (0, 0)) (by (with_reducible repeat (first | refine zC ?_ _ | refine zD ?_ | refine zA ?_ _)); exact BK116.out)) : gb116 ≠ gb117)); have n9_ := zB.mk ((by rw [hg]; exact Nat.ne_of_gt (blk_lt (g := gb116) (o := .cells #[.int .i64 a5_0, .int .i64 a5_1, .int .u8 a5_2, .int .i64 a5_3, .int .i64 a5_4, .float .f64 a5_5] 35 (0, 0)) (by (with_reducible repeat (first | refine zC ?_ _ | refine zD ?_ | refine zA ?_ _)); exact BK116.out)) : gb117 ≠ gb116)); clear BK115; clear BK116; clear HB; have BK115 := n0_; have BK116 := n1_; have HB := n2_; have BK117 := n3_; have GW117 := n4_; have GE117 := n5_; have NB115_117 := n6_; have NB117_115 := n7_; have NB116_117 := n8_; have NB117_116 := n9_; clear n0_ n1_ n2_ n3_ n4_ n5_ n6_ n7_ n8_ n9_; clear hb hbox hg) | ((with_reducible refine gate_dst (N := 13) rfl ?_); refine box_event ?hg (N := 13) ?hd (cs := #[.int .i64 0, .int .i64 0]) (t := 65) ?hr ?_; (case hd => rfl); (case hg => rfl); (case hr => first | (go_simp; done) | (go_simp; rfl)); intro gb118 hg w10 hbox hb; have n0_ := zB.mk (zK (g := gb115) (o := .cells #[.slice A0_0 l0_0.length c0_0, .slice A0_1 l0_1.length c0_1] 31 (0, 0)) (by (with_reducible repeat (first | refine zC ?_ _ | refine zD ?_ | refine zA ?_ _)); exact BK115.out) hb); have n1_ := zB.mk (zK (g := gb116) (o := .cells #[.int .i64 a5_0, .int .i64 a5_1, .int .u8 a5_2, .int .i64 a5_3, .int .i64 a5_4, .float .f64 a5_5] 35 (0, 0)) (by (with_reducible repeat (first | refine zC ?_ _ | refine zD ?_ | refine zA ?_ _)); exact BK116.out) hb); have n2_ := zB.mk (zK (g := gb117) (o := .cells #[.int .i64 0, .int .i64 0] 65 (0, 0)) (by (with_reducible repeat (first | refine zC ?_ _ | refine zD ?_ | refine zA ?_ _)); exact BK117.out) hb); have n3_ := zB.mk (zO (by repeat (first | (with_reducible first | exact HB.out | apply zJ | apply zF | apply zH | refine zE ?_ GE115.out | refine zE ?_ GE116.out | refine zE ?_ GE117.out) | exact HB.out)) hb); have n4_ := zB.mk (hbox); have n5_ := zB.mk ((by rw [hg]; exact (zM (by repeat (first | (with_reducible first | exact HB.out | apply zJ | apply zF | apply zH | refine zE ?_ GE115.out | refine zE ?_ GE116.out | refine zE ?_ GE117.out) | exact HB.out))) : w.heap.size ≤ gb118)); have n6_ := zB.mk ((by rw [hg]; exact (zM (by repeat (first | (with_reducible first | exact HB.out | apply zJ | apply zF | apply zH | refine zE ?_ GE115.out | refine zE ?_ GE116.out | refine zE ?_ GE117.out) | exact HB.out))) : w.heap.size ≤ gb118)); have n7_ := zB.mk ((by rw [hg]; exact Nat.ne_of_lt (blk_lt (g := gb115) (o := .cells #[.slice A0_0 l0_0.length c0_0, .slice A0_1 l0_1.length c0_1] 31 (0, 0)) (by (with_reducible repeat (first | refine zC ?_ _ | refine zD ?_ | refine zA ?_ _)); exact BK115.out)) : gb115 ≠ gb118)); have n8_ := zB.mk ((by rw [hg]; exact Nat.ne_of_gt (blk_lt (g := gb115) (o := .cells #[.slice A0_0 l0_0.length c0_0, .slice A0_1 l0_1.length c0_1] 31 (0, 0)) (by (with_reducible repeat (first | refine zC ?_ _ | refine zD ?_ | refine zA ?_ _)); exact BK115.out)) : gb118 ≠ gb115)); have n9_ := zB.mk ((by rw [hg]; exact Nat.ne_of_lt (blk_lt (g := gb116) (o := .cells #[.int .i64 a5_0, .int .i64 a5_1, .int .u8 a5_2, .int .i64 a5_3, .int .i64 a5_4, .float .f64 a5_5] 35 (0, 0)) (by (with_reducible repeat (first | refine zC ?_ _ | refine zD ?_ | refine zA ?_ _)); exact BK116.out)) : gb116 ≠ gb118)); have n10_ := zB.mk ((by rw [hg]; exact Nat.ne_of_gt (blk_lt (g := gb116) (o := .cells #[.int .i64 a5_0, .int .i64 a5_1, .int .u8 a5_2, .int .i64 a5_3, .int .i64 a5_4, .float .f64 a5_5] 35 (0, 0)) (by (with_reducible repeat (first | refine zC ?_ _ | refine zD ?_ | refine zA ?_ _)); exact BK116.out)) : gb118 ≠ gb116)); have n11_ := zB.mk ((by rw [hg]; exact Nat.ne_of_lt (blk_lt (g := gb117) (o := .cells #[.int .i64 0, .int .i64 0] 65 (0, 0)) (by (with_reducible repeat (first | refine zC ?_ _ | refine zD ?_ | refine zA ?_ _)); exact BK117.out)) : gb117 ≠ gb118)); have n12_ := zB.mk ((by rw [hg]; exact Nat.ne_of_gt (blk_lt (g := gb117) (o := .cells #[.int .i64 0, .int .i64 0] 65 (0, 0)) (by (with_reducible repeat (first | refine zC ?_ _ | refine zD ?_ | refine zA ?_ _)); exact BK117.out)) : gb118 ≠ gb117)); clear BK115; clear BK116; clear BK117; clear HB; have BK115 := n0_; have BK116 := n1_; have BK117 := n2_; have HB := n3_; have BK118 := n4_; have GW118 := n5_; have GE118 := n6_; have NB115_118 := n7_; have NB118_115 := n8_; have NB116_118 := n9_; have NB118_116 := n10_; have NB117_118 := n11_; have NB118_117 := n12_; clear n0_ n1_ n2_ n3_ n4_ n5_ n6_ n7_ n8_ n9_ n10_ n11_ n12_; clear hb hbox hg; have hnb11 := NB118_115.out; have hnc11 := NB115_118.out; have hnb12 := NB118_116.out; have hnc12 := NB116_118.out; have hnb13 := NB118_117.out; have hnc13 := NB117_118.out; have hcz14_0 : w10.cell? ⟨gb118, 0, none⟩ = some (.int .i64 0) := (zG BK118.out 0).trans rfl; have hcz14_1 : w10.cell? ⟨gb118, 1, none⟩ = some (.int .i64 0) := (zG BK118.out 1).trans rfl; have hfz14_0 := zI BK118.out 0; have hfz14_1 := zI BK118.out 1) | ((with_reducible refine gate_store (t := 65) (p := 13) rfl ?_); refine store_event (t := 65) (p := 13) (v := ?vo_w15) (w1 := ((w10.setCell ⟨gb118, 0, none⟩ (.int .i64 0)).setCell ⟨gb118, 1, none⟩ (.int .i64 (-1)))) ?hg ?ho ?hn ?hr ?_; (case ho => rfl); (case hg => rfl); (case hn => rfl); (case hr => first | (go_simp; done) | (go_simp; rfl)); intro w15 hw; have n0_ : zB (w15.heap[gb115]? = some (.cells #[.slice A0_0 l0_0.length c0_0, .slice A0_1 l0_1.length c0_1] 31 (0, 0))) := ⟨(by rw [hw]; exact (by (with_reducible repeat (first | refine zC ?_ _ | refine zD ?_ | refine zA ?_ _)); refine zN ?_ NB115_118.out _; (with_reducible repeat (first | refine zC ?_ _ | refine zD ?_ | refine zA ?_ _)); refine zN ?_ NB115_118.out _; (with_reducible repeat (first | refine zC ?_ _ | refine zD ?_ | refine zA ?_ _)); exact BK115.out))⟩; have n1_ : zB (w15.heap[gb116]? = some (.cells #[.int .i64 a5_0, .int .i64 a5_1, .int .u8 a5_2, .int .i64 a5_3, .int .i64 a5_4, .float .f64 a5_5] 35 (0, 0))) := ⟨(by rw [hw]; exact (by (with_reducible repeat (first | refine zC ?_ _ | refine zD ?_ | refine zA ?_ _)); refine zN ?_ NB116_118.out _; (with_reducible repeat (first | refine zC ?_ _ | refine zD ?_ | refine zA ?_ _)); refine zN ?_ NB116_118.out _; (with_reducible repeat (first | refine zC ?_ _ | refine zD ?_ | refine zA ?_ _)); exact BK116.out))⟩; have n2_ : zB (w15.heap[gb117]? = some (.cells #[.int .i64 0, .int .i64 0] 65 (0, 0))) := ⟨(by rw [hw]; exact (by (with_reducible repeat (first | refine zC ?_ _ | refine zD ?_ | refine zA ?_ _)); refine zN ?_ NB117_118.out _; (with_reducible repeat (first | refine zC ?_ _ | refine zD ?_ | refine zA ?_ _)); refine zN ?_ NB117_118.out _; (with_reducible repeat (first | refine zC ?_ _ | refine zD ?_ | refine zA ?_ _)); exact BK117.out))⟩; have n3_ : zB (w15.heap[gb118]? = some (.cells #[.int .i64 0, .int .i64 (-1)] 65 (0, 0))) := ⟨(by rw [hw]; exact (by (with_reducible repeat (first | refine zC ?_ _ | refine zD ?_ | refine zA ?_ _)); refine blk_put (cs := #[.int .i64 0, .int .i64 0]) ?_ 1 _ rfl; (with_reducible repeat (first | refine zC ?_ _ | refine zD ?_ | refine zA ?_ _)); refine blk_put (cs := #[.int .i64 0, .int .i64 0]) ?_ 0 _ rfl; (with_reducible repeat (first | refine zC ?_ _ | refine zD ?_ | refine zA ?_ _)); exact BK118.out))⟩; have n4_ : zB (Below w.heap.size w w15) := ⟨(by rw [hw]; exact (by repeat (first | (with_reducible first | exact HB.out | apply zJ | apply zF | apply zH | refine zE ?_ GE115.out | refine zE ?_ GE116.out | refine zE ?_ GE117.out | refine zE ?_ GE118.out) | exact HB.out)))⟩; clear hw; clear BK115; clear BK116; clear BK117; clear BK118; clear HB; have BK115 := n0_; have BK116 := n1_; have BK117 := n2_; have BK118 := n3_; have HB := n4_; clear n0_ n1_ n2_ n3_ n4_))
  go_loopg [14, 15, 16, 17, 18] k (fun kq v14 v15 v16 v17 v18 w' => ∃ (x14_1 : Int) (x15_1 : Int) (x16_1 : Int) (x17_1 : Int) (x18_1 : Int) (x119000_1 : Int) (x119001_1 : Int), v14 = .int .i64 x14_1 ∧ v15 = .int .i64 x15_1 ∧ v16 = .int .i64 x16_1 ∧ v17 = .int .i64 x17_1 ∧ v18 = .int .i64 x18_1 ∧ zB (best_next.l0 kq a1 a2 a3 l4 x14_1 x15_1 x16_1 x17_1 x18_1 l0_0 l0_1 a5_0 a5_1 a5_2 a5_3 a5_4 a5_5 x119000_1 x119001_1 = some (r1, r2)) ∧ zB (kq ≤ k) ∧ zB (w'.heap[gb115]? = some (.cells #[(.slice A0_0 l0_0.length c0_0), (.slice A0_1 l0_1.length c0_1)] 31 (0, 0))) ∧ zB (w'.heap[gb116]? = some (.cells #[.int .i64 a5_0, .int .i64 a5_1, .int .u8 a5_2, .int .i64 a5_3, .int .i64 a5_4, .float .f64 a5_5] 35 (0, 0))) ∧ zB (w'.heap[gb117]? = some (.cells #[.int .i64 0, .int .i64 0] 65 (0, 0))) ∧ zB (w'.heap[gb118]? = some (.cells #[.int .i64 x119000_1, .int .i64 x119001_1] 65 (0, 0))) ∧ zB (Below w.heap.size w w'))
  case atStart => exact ⟨(0), (0), (0), (0), (wrap64 (a1 + 1)), (0), ((-1)), (by first | rfl | (simp; done) | (simp [*]; done)), (by first | rfl | (simp; done) | (simp [*]; done)), (by first | rfl | (simp; done) | (simp [*]; done)), (by first | rfl | (simp; done) | (simp [*]; done)), (by first | rfl | (simp; done) | (simp [*]; done)), H', ⟨Nat.le_refl _⟩, ⟨by (with_reducible repeat (first | refine zC ?_ _ | refine zD ?_ | refine zA ?_ _)); exact BK115.out⟩, ⟨by (with_reducible repeat (first | refine zC ?_ _ | refine zD ?_ | refine zA ?_ _)); exact BK116.out⟩, ⟨by (with_reducible repeat (first | refine zC ?_ _ | refine zD ?_ | refine zA ?_ _)); exact BK117.out⟩, ⟨by (with_reducible repeat (first | refine zC ?_ _ | refine zD ?_ | refine zA ?_ _)); exact BK118.out⟩, ⟨by repeat (first | (with_reducible first | exact HB.out | apply zJ | apply zF | apply zH | refine zE ?_ GE115.out | refine zE ?_ GE116.out | refine zE ?_ GE117.out | refine zE ?_ GE118.out) | exact HB.out)⟩⟩
  clear H'; try clear c1
  try clear c2
  try clear p2
  try clear c4
  try clear p6
  try clear c11
  try clear c12
  try clear c13
  try clear hcz14_0
  try clear hcz14_1
  try clear hfz14_0
  try clear hfz14_1
  obtain ⟨x14_1, x15_1, x16_1, x17_1, x18_1, x119000_1, x119001_1, rfl, rfl, rfl, rfl, rfl, HA, HK1, BK115, BK116, BK117, BK118, HB⟩ := hrel; cases gk with
  | zero => exact absurd HA.out (by simp [best_next.l0])
  | succ k1 =>
    have H := HA.out; clear HA; simp only [best_next.l0] at H; by_cases c16 : x18_1 ≤ a3
    rotate_left
    · rw [if_neg c16] at H
      have c16b0 : decide (x18_1 ≤ a3) = false := decide_eq_false c16
      clear c16; simp only [Option.some.injEq, Prod.mk.injEq] at H; obtain ⟨rfl, rfl⟩ := H; have hnb246 := NB118_115.out; have hnc246 := NB115_118.out; have hnb247 := NB118_116.out; have hnc247 := NB116_118.out; have hnb248 := NB118_117.out; have hnc248 := NB117_118.out; have hcz249_0 : wr.cell? ⟨gb118, 0, none⟩ = some (.int .i64 x119000_1) := (zG BK118.out 0).trans rfl
      have hcz249_1 : wr.cell? ⟨gb118, 1, none⟩ = some (.int .i64 x119001_1) := (zG BK118.out 1).trans rfl
      have hfz249_0 := zI BK118.out 0; have hfz249_1 := zI BK118.out 1; have hnb250 := NB117_115.out; have hnc250 := NB115_117.out; have hnb251 := NB117_116.out; have hnc251 := NB116_117.out; have hcz252_0 : wr.cell? ⟨gb117, 0, none⟩ = some (.int .i64 0) := (zG BK117.out 0).trans rfl
      have hcz252_1 : wr.cell? ⟨gb117, 1, none⟩ = some (.int .i64 0) := (zG BK117.out 1).trans rfl
      have hfz252_0 := zI BK117.out 0; have hfz252_1 := zI BK117.out 1; go_wp2_with (first | ((with_reducible refine gate_store (t := 65) (p := 12) rfl ?_); refine store_event (t := 65) (p := 12) (v := ?vo_w253) (w1 := ((wr.setCell ⟨gb117, 0, none⟩ (.int .i64 x119000_1)).setCell ⟨gb117, 1, none⟩ (.int .i64 x119001_1))) ?hg ?ho ?hn ?hr ?_; (case ho => rfl); (case hg => rfl); (case hn => rfl); (case hr => first | (go_simp; done) | (go_simp; rfl)); intro w253 hw; have n0_ : zB (w253.heap[gb115]? = some (.cells #[.slice A0_0 l0_0.length c0_0, .slice A0_1 l0_1.length c0_1] 31 (0, 0))) := ⟨(by rw [hw]; exact (by (with_reducible repeat (first | refine zC ?_ _ | refine zD ?_ | refine zA ?_ _)); refine zN ?_ NB115_117.out _; (with_reducible repeat (first | refine zC ?_ _ | refine zD ?_ | refine zA ?_ _)); refine zN ?_ NB115_117.out _; (with_reducible repeat (first | refine zC ?_ _ | refine zD ?_ | refine zA ?_ _)); exact BK115.out))⟩; have n1_ : zB (w253.heap[gb116]? = some (.cells #[.int .i64 a5_0, .int .i64 a5_1, .int .u8 a5_2, .int .i64 a5_3, .int .i64 a5_4, .float .f64 a5_5] 35 (0, 0))) := ⟨(by rw [hw]; exact (by (with_reducible repeat (first | refine zC ?_ _ | refine zD ?_ | refine zA ?_ _)); refine zN ?_ NB116_117.out _; (with_reducible repeat (first | refine zC ?_ _ | refine zD ?_ | refine zA ?_ _)); refine zN ?_ NB116_117.out _; (with_reducible repeat (first | refine zC ?_ _ | refine zD ?_ | refine zA ?_ _)); exact BK116.out))⟩; have n2_ : zB (w253.heap[gb117]? = some (.cells #[.int .i64 x119000_1, .int .i64 x119001_1] 65 (0, 0))) := ⟨(by rw [hw]; exact (by (with_reducible repeat (first | refine zC ?_ _ | refine zD ?_ | refine zA ?_ _)); refine blk_put (cs := #[.int .i64 x119000_1, .int .i64 0]) ?_ 1 _ rfl; (with_reducible repeat (first | refine zC ?_ _ | refine zD ?_ | refine zA ?_ _)); refine blk_put (cs := #[.int .i64 0, .int .i64 0]) ?_ 0 _ rfl; (with_reducible repeat (first | refine zC ?_ _ | refine zD ?_ | refine zA ?_ _)); exact BK117.out))⟩; have n3_ : zB (w253.heap[gb118]? = some (.cells #[.int .i64 x119000_1, .int .i64 x119001_1] 65 (0, 0))) := ⟨(by rw [hw]; exact (by (with_reducible repeat (first | refine zC ?_ _ | refine zD ?_ | refine zA ?_ _)); refine zN ?_ NB118_117.out _; (with_reducible repeat (first | refine zC ?_ _ | refine zD ?_ | refine zA ?_ _)); refine zN ?_ NB118_117.out _; (with_reducible repeat (first | refine zC ?_ _ | refine zD ?_ | refine zA ?_ _)); exact BK118.out))⟩; have n4_ : zB (Below w.heap.size w w253) := ⟨(by rw [hw]; exact (by repeat (first | (with_reducible first | exact HB.out | apply zJ | apply zF | apply zH | refine zE ?_ GE115.out | refine zE ?_ GE116.out | refine zE ?_ GE117.out | refine zE ?_ GE118.out) | exact HB.out)))⟩; clear hw; clear BK115; clear BK116; clear BK117; clear BK118; clear HB; have BK115 := n0_; have BK116 := n1_; have BK117 := n2_; have BK118 := n3_; have HB := n4_; clear n0_ n1_ n2_ n3_ n4_))
      refine bodyPost_ret (results_cell_row rfl _ _ gb117 65 #[.int .i64 x119000_1, .int .i64 x119001_1] (0, 0) _ rfl (by (with_reducible repeat (first | refine zC ?_ _ | refine zD ?_ | refine zA ?_ _)); exact BK117.out) Try.underlying65 rfl (by kernel_rfl)) rfl ?_
      exact ⟨by first | rfl | (simp [errW_none, errW_some] <;> rfl) | (simp [*, errW_none, errW_some] <;> rfl), by repeat (first | (with_reducible first | exact HB.out | apply zJ | apply zF | apply zH | refine zE ?_ GE115.out | refine zE ?_ GE116.out | refine zE ?_ GE117.out | refine zE ?_ GE118.out) | exact HB.out)⟩
    rw [if_pos c16] at H; have c16b0 : decide (x18_1 ≤ a3) = true := decide_eq_true c16
    clear c16; obtain ⟨ji17, hji17⟩ : ∃ j_ : Int, (wrap64 (x18_1 - 1)) = j_ := ⟨_, rfl⟩; replace H : (if 0 ≤ (ji17) then (if (ji17) < (l0_0.length : Int) then ((span_Next.f ((rd_T62 l0_0 (ji17)).f0) ((rd_T62 l0_0 (ji17)).f1) ((rd_T62 l0_0 (ji17)).f2) ((rd_T62 l0_0 (ji17)).f3) x14_1 a5_1).bind fun t121 => (if ((rd_T62 l0_0 (ji17)).f3) = 1 then (best_next.j1 k1 a1 a2 a3 l4 t121 x15_1 (wrap64 (x16_1 + 1)) x17_1 x18_1 l0_0 l0_1 a5_0 a5_1 a5_2 a5_3 a5_4 a5_5 x119000_1 x119001_1) else (best_next.j1 k1 a1 a2 a3 l4 t121 x15_1 x16_1 x17_1 x18_1 l0_0 l0_1 a5_0 a5_1 a5_2 a5_3 a5_4 a5_5 x119000_1 x119001_1))) else (none)) else (none)) = some (r1, r2) := by first | (rw [hji17] at H; exact H) | (simp only [hji17] at H ⊢; exact H)
    have hji17w : (IntKind.i64.wrap (x18_1 - 1)) = ji17 := (i64_w _).trans hji17
    by_cases c18 : 0 ≤ (ji17)
    rotate_left
    · rw [if_neg c18] at H
      exact absurd H (by simp)
    rw [if_pos c18] at H; have c18b0 : decide (0 ≤ (ji17)) = true := decide_eq_true c18
    clear c18; by_cases c19 : (ji17) < (l0_0.length : Int)
    rotate_left
    · rw [if_neg c19] at H
      exact absurd H (by simp)
    rw [if_pos c19] at H; have c19b0 : decide ((ji17) < (l0_0.length : Int)) = true := decide_eq_true c19
    clear c19; replace H := Option.bind_eq_some_iff.mp H; obtain ⟨t121, A200, H⟩ := H; replace H : (if ((rd_T62 l0_0 (ji17)).f3) = 1 then (best_next.j1 k1 a1 a2 a3 l4 t121 x15_1 (wrap64 (x16_1 + 1)) x17_1 x18_1 l0_0 l0_1 a5_0 a5_1 a5_2 a5_3 a5_4 a5_5 x119000_1 x119001_1) else (best_next.j1 k1 a1 a2 a3 l4 t121 x15_1 x16_1 x17_1 x18_1 l0_0 l0_1 a5_0 a5_1 a5_2 a5_3 a5_4 a5_5 x119000_1 x119001_1)) = some (r1, r2) := H; have A20 := zB.mk A200; clear A200; have HC21 := zB.mk H; clear H; have hnb22 := NB115_116.out; have hnc22 := NB116_115.out; have hnb23 := NB115_117.out; have hnc23 := NB117_115.out; have hnb24 := NB115_118.out; have hnc24 := NB118_115.out; have hcz25_0 : wr.cell? ⟨gb115, 0, none⟩ = some (.slice A0_0 l0_0.length c0_0) := (zG BK115.out 0).trans rfl
    have hcz25_1 : wr.cell? ⟨gb115, 1, none⟩ = some (.slice A0_1 l0_1.length c0_1) := (zG BK115.out 1).trans rfl
    have hfz25_0 := zI BK115.out 0; have hfz25_1 := zI BK115.out 1; have p119 : 0 ≤ ((ji17) : Int) := of_decide_eq_true (by first | (with_reducible assumption) | assumption)
    have q119 : (ji17) < (l0_0.length : Int) := of_decide_eq_true (by first | (with_reducible assumption) | assumption)
    obtain ⟨ad119, e119, hx119_0, hx119_1, hx119_2, hx119_3⟩ := at_T62 HR0_0.out (ji17) p119 q119; cases e119
    replace hx119_0 := (HB.out.cell (World.block_lt_of_cell? w _ hx119_0)).trans hx119_0; replace hx119_1 := (HB.out.cell (World.block_lt_of_cell? w _ hx119_1)).trans hx119_1; replace hx119_2 := (HB.out.cell (World.block_lt_of_cell? w _ hx119_2)).trans hx119_2; replace hx119_3 := (HB.out.cell (World.block_lt_of_cell? w _ hx119_3)).trans hx119_3; replace p119 := eq_true p119; replace q119 := eq_true q119; go_upto_if 47 with (first | ((with_reducible refine gate_dst (N := 19) rfl ?_); refine box_event ?hg (N := 19) ?hd (cs := #[.int .i64 0, .int .i64 0, .int .i64 0, .int .u8 0]) (t := 62) ?hr ?_; (case hd => rfl); (case hg => rfl); (case hr => first | (go_simp; done) | (go_simp; rfl)); intro gb120 hg w26 hbox hb; have n0_ := zB.mk (zK (g := gb115) (o := .cells #[.slice (some ad119) l0_0.length c0_0, .slice A0_1 l0_1.length c0_1] 31 (0, 0)) (by (with_reducible repeat (first | refine zC ?_ _ | refine zD ?_ | refine zA ?_ _)); exact BK115.out) hb); have n1_ := zB.mk (zK (g := gb116) (o := .cells #[.int .i64 a5_0, .int .i64 a5_1, .int .u8 a5_2, .int .i64 a5_3, .int .i64 a5_4, .float .f64 a5_5] 35 (0, 0)) (by (with_reducible repeat (first | refine zC ?_ _ | refine zD ?_ | refine zA ?_ _)); exact BK116.out) hb); have n2_ := zB.mk (zK (g := gb117) (o := .cells #[.int .i64 0, .int .i64 0] 65 (0, 0)) (by (with_reducible repeat (first | refine zC ?_ _ | refine zD ?_ | refine zA ?_ _)); exact BK117.out) hb); have n3_ := zB.mk (zK (g := gb118) (o := .cells #[.int .i64 x119000_1, .int .i64 x119001_1] 65 (0, 0)) (by (with_reducible repeat (first | refine zC ?_ _ | refine zD ?_ | refine zA ?_ _)); exact BK118.out) hb); have n4_ := zB.mk (zO (by repeat (first | (with_reducible first | exact HB.out | apply zJ | apply zF | apply zH | refine zE ?_ GE115.out | refine zE ?_ GE116.out | refine zE ?_ GE117.out | refine zE ?_ GE118.out) | exact HB.out)) hb); have n5_ := zB.mk (hbox); have n6_ := zB.mk ((by rw [hg]; exact (zM (by repeat (first | (with_reducible first | exact HB.out | apply zJ | apply zF | apply zH | refine zE ?_ GE115.out | refine zE ?_ GE116.out | refine zE ?_ GE117.out | refine zE ?_ GE118.out) | exact HB.out))) : w.heap.size ≤ gb120)); have n7_ := zB.mk ((by rw [hg]; exact (zM (by repeat (first | (with_reducible first | exact HB.out | apply zJ | apply zF | apply zH | refine zE ?_ GE115.out | refine zE ?_ GE116.out | refine zE ?_ GE117.out | refine zE ?_ GE118.out) | exact HB.out))) : w.heap.size ≤ gb120)); have n8_ := zB.mk ((by rw [hg]; exact Nat.ne_of_lt (blk_lt (g := gb115) (o := .cells #[.slice (some ad119) l0_0.length c0_0, .slice A0_1 l0_1.length c0_1] 31 (0, 0)) (by (with_reducible repeat (first | refine zC ?_ _ | refine zD ?_ | refine zA ?_ _)); exact BK115.out)) : gb115 ≠ gb120)); have n9_ := zB.mk ((by rw [hg]; exact Nat.ne_of_gt (blk_lt (g := gb115) (o := .cells #[.slice (some ad119) l0_0.length c0_0, .slice A0_1 l0_1.length c0_1] 31 (0, 0)) (by (with_reducible repeat (first | refine zC ?_ _ | refine zD ?_ | refine zA ?_ _)); exact BK115.out)) : gb120 ≠ gb115)); have n10_ := zB.mk ((by rw [hg]; exact Nat.ne_of_lt (blk_lt (g := gb116) (o := .cells #[.int .i64 a5_0, .int .i64 a5_1, .int .u8 a5_2, .int .i64 a5_3, .int .i64 a5_4, .float .f64 a5_5] 35 (0, 0)) (by (with_reducible repeat (first | refine zC ?_ _ | refine zD ?_ | refine zA ?_ _)); exact BK116.out)) : gb116 ≠ gb120)); have n11_ := zB.mk ((by rw [hg]; exact Nat.ne_of_gt (blk_lt (g := gb116) (o := .cells #[.int .i64 a5_0, .int .i64 a5_1, .int .u8 a5_2, .int .i64 a5_3, .int .i64 a5_4, .float .f64 a5_5] 35 (0, 0)) (by (with_reducible repeat (first | refine zC ?_ _ | refine zD ?_ | refine zA ?_ _)); exact BK116.out)) : gb120 ≠ gb116)); have n12_ := zB.mk ((by rw [hg]; exact Nat.ne_of_lt (blk_lt (g := gb117) (o := .cells #[.int .i64 0, .int .i64 0] 65 (0, 0)) (by (with_reducible repeat (first | refine zC ?_ _ | refine zD ?_ | refine zA ?_ _)); exact BK117.out)) : gb117 ≠ gb120)); have n13_ := zB.mk ((by rw [hg]; exact Nat.ne_of_gt (blk_lt (g := gb117) (o := .cells #[.int .i64 0, .int .i64 0] 65 (0, 0)) (by (with_reducible repeat (first | refine zC ?_ _ | refine zD ?_ | refine zA ?_ _)); exact BK117.out)) : gb120 ≠ gb117)); have n14_ := zB.mk ((by rw [hg]; exact Nat.ne_of_lt (blk_lt (g := gb118) (o := .cells #[.int .i64 x119000_1, .int .i64 x119001_1] 65 (0, 0)) (by (with_reducible repeat (first | refine zC ?_ _ | refine zD ?_ | refine zA ?_ _)); exact BK118.out)) : gb118 ≠ gb120)); have n15_ := zB.mk ((by rw [hg]; exact Nat.ne_of_gt (blk_lt (g := gb118) (o := .cells #[.int .i64 x119000_1, .int .i64 x119001_1] 65 (0, 0)) (by (with_reducible repeat (first | refine zC ?_ _ | refine zD ?_ | refine zA ?_ _)); exact BK118.out)) : gb120 ≠ gb118)); clear BK115; clear BK116; clear BK117; clear BK118; clear HB; have BK115 := n0_; have BK116 := n1_; have BK117 := n2_; have BK118 := n3_; have HB := n4_; have BK120 := n5_; have GW120 := n6_; have GE120 := n7_; have NB115_120 := n8_; have NB120_115 := n9_; have NB116_120 := n10_; have NB120_116 := n11_; have NB117_120 := n12_; have NB120_117 := n13_; have NB118_120 := n14_; have NB120_118 := n15_; clear n0_ n1_ n2_ n3_ n4_ n5_ n6_ n7_ n8_ n9_ n10_ n11_ n12_ n13_ n14_ n15_; clear hb hbox hg; have hnb27 := NB120_115.out; have hnc27 := NB115_120.out; have hnb28 := NB120_116.out; have hnc28 := NB116_120.out; have hnb29 := NB120_117.out; have hnc29 := NB117_120.out; have hnb30 := NB120_118.out; have hnc30 := NB118_120.out; have hcz31_0 : w26.cell? ⟨gb120, 0, none⟩ = some (.int .i64 0) := (zG BK120.out 0).trans rfl; have hcz31_1 : w26.cell? ⟨gb120, 1, none⟩ = some (.int .i64 0) := (zG BK120.out 1).trans rfl; have hcz31_2 : w26.cell? ⟨gb120, 2, none⟩ = some (.int .i64 0) := (zG BK120.out 2).trans rfl; have hcz31_3 : w26.cell? ⟨gb120, 3, none⟩ = some (.int .u8 0) := (zG BK120.out 3).trans rfl; have hfz31_0 := zI BK120.out 0; have hfz31_1 := zI BK120.out 1; have hfz31_2 := zI BK120.out 2; have hfz31_3 := zI BK120.out 3) | ((with_reducible refine gate_store (t := 62) (p := 19) rfl ?_); refine store_event (t := 62) (p := 19) (v := ?vo_w32) (w1 := ((((w26.setCell ⟨gb120, 0, none⟩ (.int .i64 ((rd_T62 l0_0 (ji17)).f0))).setCell ⟨gb120, 1, none⟩ (.int .i64 ((rd_T62 l0_0 (ji17)).f1))).setCell ⟨gb120, 2, none⟩ (.int .i64 ((rd_T62 l0_0 (ji17)).f2))).setCell ⟨gb120, 3, none⟩ (.int .u8 ((rd_T62 l0_0 (ji17)).f3)))) ?hg ?ho ?hn ?hr ?_; (case ho => rfl); (case hg => rfl); (case hn => rfl); (case hr => first | (go_simp; done) | (go_simp; rfl)); intro w32 hw; have n0_ : zB (w32.heap[gb115]? = some (.cells #[.slice (some ad119) l0_0.length c0_0, .slice A0_1 l0_1.length c0_1] 31 (0, 0))) := ⟨(by rw [hw]; exact (by (with_reducible repeat (first | refine zC ?_ _ | refine zD ?_ | refine zA ?_ _)); refine zN ?_ NB115_120.out _; (with_reducible repeat (first | refine zC ?_ _ | refine zD ?_ | refine zA ?_ _)); refine zN ?_ NB115_120.out _; (with_reducible repeat (first | refine zC ?_ _ | refine zD ?_ | refine zA ?_ _)); refine zN ?_ NB115_120.out _; (with_reducible repeat (first | refine zC ?_ _ | refine zD ?_ | refine zA ?_ _)); refine zN ?_ NB115_120.out _; (with_reducible repeat (first | refine zC ?_ _ | refine zD ?_ | refine zA ?_ _)); exact BK115.out))⟩; have n1_ : zB (w32.heap[gb116]? = some (.cells #[.int .i64 a5_0, .int .i64 a5_1, .int .u8 a5_2, .int .i64 a5_3, .int .i64 a5_4, .float .f64 a5_5] 35 (0, 0))) := ⟨(by rw [hw]; exact (by (with_reducible repeat (first | refine zC ?_ _ | refine zD ?_ | refine zA ?_ _)); refine zN ?_ NB116_120.out _; (with_reducible repeat (first | refine zC ?_ _ | refine zD ?_ | refine zA ?_ _)); refine zN ?_ NB116_120.out _; (with_reducible repeat (first | refine zC ?_ _ | refine zD ?_ | refine zA ?_ _)); refine zN ?_ NB116_120.out _; (with_reducible repeat (first | refine zC ?_ _ | refine zD ?_ | refine zA ?_ _)); refine zN ?_ NB116_120.out _; (with_reducible repeat (first | refine zC ?_ _ | refine zD ?_ | refine zA ?_ _)); exact BK116.out))⟩; have n2_ : zB (w32.heap[gb117]? = some (.cells #[.int .i64 0, .int .i64 0] 65 (0, 0))) := ⟨(by rw [hw]; exact (by (with_reducible repeat (first | refine zC ?_ _ | refine zD ?_ | refine zA ?_ _)); refine zN ?_ NB117_120.out _; (with_reducible repeat (first | refine zC ?_ _ | refine zD ?_ | refine zA ?_ _)); refine zN ?_ NB117_120.out _; (with_reducible repeat (first | refine zC ?_ _ | refine zD ?_ | refine zA ?_ _)); refine zN ?_ NB117_120.out _; (with_reducible repeat (first | refine zC ?_ _ | refine zD ?_ | refine zA ?_ _)); refine zN ?_ NB117_120.out _; (with_reducible repeat (first | refine zC ?_ _ | refine zD ?_ | refine zA ?_ _)); exact BK117.out))⟩; have n3_ : zB (w32.heap[gb118]? = some (.cells #[.int .i64 x119000_1, .int .i64 x119001_1] 65 (0, 0))) := ⟨(by rw [hw]; exact (by (with_reducible repeat (first | refine zC ?_ _ | refine zD ?_ | refine zA ?_ _)); refine zN ?_ NB118_120.out _; (with_reducible repeat (first | refine zC ?_ _ | refine zD ?_ | refine zA ?_ _)); refine zN ?_ NB118_120.out _; (with_reducible repeat (first | refine zC ?_ _ | refine zD ?_ | refine zA ?_ _)); refine zN ?_ NB118_120.out _; (with_reducible repeat (first | refine zC ?_ _ | refine zD ?_ | refine zA ?_ _)); refine zN ?_ NB118_120.out _; (with_reducible repeat (first | refine zC ?_ _ | refine zD ?_ | refine zA ?_ _)); exact BK118.out))⟩; have n4_ : zB (w32.heap[gb120]? = some (.cells #[.int .i64 ((rd_T62 l0_0 (ji17)).f0), .int .i64 ((rd_T62 l0_0 (ji17)).f1), .int .i64 ((rd_T62 l0_0 (ji17)).f2), .int .u8 ((rd_T62 l0_0 (ji17)).f3)] 62 (0, 0))) := ⟨(by rw [hw]; exact (by (with_reducible repeat (first | refine zC ?_ _ | refine zD ?_ | refine zA ?_ _)); refine blk_put (cs := #[.int .i64 ((rd_T62 l0_0 (ji17)).f0), .int .i64 ((rd_T62 l0_0 (ji17)).f1), .int .i64 ((rd_T62 l0_0 (ji17)).f2), .int .u8 0]) ?_ 3 _ rfl; (with_reducible repeat (first | refine zC ?_ _ | refine zD ?_ | refine zA ?_ _)); refine blk_put (cs := #[.int .i64 ((rd_T62 l0_0 (ji17)).f0), .int .i64 ((rd_T62 l0_0 (ji17)).f1), .int .i64 0, .int .u8 0]) ?_ 2 _ rfl; (with_reducible repeat (first | refine zC ?_ _ | refine zD ?_ | refine zA ?_ _)); refine blk_put (cs := #[.int .i64 ((rd_T62 l0_0 (ji17)).f0), .int .i64 0, .int .i64 0, .int .u8 0]) ?_ 1 _ rfl; (with_reducible repeat (first | refine zC ?_ _ | refine zD ?_ | refine zA ?_ _)); refine blk_put (cs := #[.int .i64 0, .int .i64 0, .int .i64 0, .int .u8 0]) ?_ 0 _ rfl; (with_reducible repeat (first | refine zC ?_ _ | refine zD ?_ | refine zA ?_ _)); exact BK120.out))⟩; have n5_ : zB (Below w.heap.size w w32) := ⟨(by rw [hw]; exact (by repeat (first | (with_reducible first | exact HB.out | apply zJ | apply zF | apply zH | refine zE ?_ GE115.out | refine zE ?_ GE116.out | refine zE ?_ GE117.out | refine zE ?_ GE118.out | refine zE ?_ GE120.out) | exact HB.out)))⟩; clear hw; clear BK115; clear BK116; clear BK117; clear BK118; clear BK120; clear HB; have BK115 := n0_; have BK116 := n1_; have BK117 := n2_; have BK118 := n3_; have BK120 := n4_; have HB := n5_; clear n0_ n1_ n2_ n3_ n4_ n5_; have hcz33_0 : w32.cell? ⟨gb120, 0, none⟩ = some (.int .i64 ((rd_T62 l0_0 (ji17)).f0)) := (zG BK120.out 0).trans rfl; have hcz33_1 : w32.cell? ⟨gb120, 1, none⟩ = some (.int .i64 ((rd_T62 l0_0 (ji17)).f1)) := (zG BK120.out 1).trans rfl; have hcz33_2 : w32.cell? ⟨gb120, 2, none⟩ = some (.int .i64 ((rd_T62 l0_0 (ji17)).f2)) := (zG BK120.out 2).trans rfl; have hcz33_3 : w32.cell? ⟨gb120, 3, none⟩ = some (.int .u8 ((rd_T62 l0_0 (ji17)).f3)) := (zG BK120.out 3).trans rfl; have hfz33_0 := zI BK120.out 0; have hfz33_1 := zI BK120.out 1; have hfz33_2 := zI BK120.out 2; have hfz33_3 := zI BK120.out 3; have hnb34 := NB116_117.out; have hnc34 := NB117_116.out; have hnb35 := NB116_118.out; have hnc35 := NB118_116.out; have hcz36_0 : w32.cell? ⟨gb116, 0, none⟩ = some (.int .i64 a5_0) := (zG BK116.out 0).trans rfl; have hcz36_1 : w32.cell? ⟨gb116, 1, none⟩ = some (.int .i64 a5_1) := (zG BK116.out 1).trans rfl; have hcz36_2 : w32.cell? ⟨gb116, 2, none⟩ = some (.int .u8 a5_2) := (zG BK116.out 2).trans rfl; have hcz36_3 : w32.cell? ⟨gb116, 3, none⟩ = some (.int .i64 a5_3) := (zG BK116.out 3).trans rfl; have hcz36_4 : w32.cell? ⟨gb116, 4, none⟩ = some (.int .i64 a5_4) := (zG BK116.out 4).trans rfl; have hcz36_5 : w32.cell? ⟨gb116, 5, none⟩ = some (.float .f64 a5_5) := (zG BK116.out 5).trans rfl; have hfz36_0 := zI BK116.out 0; have hfz36_1 := zI BK116.out 1; have hfz36_2 := zI BK116.out 2; have hfz36_3 := zI BK116.out 3; have hfz36_4 := zI BK116.out 4; have hfz36_5 := zI BK116.out 5) | ((with_reducible refine gate_callee (f := 37) rfl ?_); refine goesL_ (some 44) rfl rfl Try.func37 (by kernel_rfl) rfl #[.agg #[.int .i64 ((rd_T62 l0_0 (ji17)).f0), .int .i64 ((rd_T62 l0_0 (ji17)).f1), .int .i64 ((rd_T62 l0_0 (ji17)).f2), .int .u8 ((rd_T62 l0_0 (ji17)).f3)], .int .i64 x14_1, .int .i64 a5_1] rfl (by (try simp only [List.map_toArray, List.map_cons, List.map_nil]); first | done | (simp only [hji17]; rfl) | rfl | (simp only [List.length_drop, List.length_take]; rfl)) ?_; (with_reducible refine (span_Next.calls ((rd_T62 l0_0 (ji17)).f0) ((rd_T62 l0_0 (ji17)).f1) ((rd_T62 l0_0 (ji17)).f2) ((rd_T62 l0_0 (ji17)).f3) x14_1 a5_1 t121 _ A20.out).mono ?_); rintro e w37 ⟨rfl, hb⟩; refine ⟨_, rfl, ?_⟩; have n0_ := zB.mk (zK (g := gb115) (o := .cells #[.slice (some ad119) l0_0.length c0_0, .slice A0_1 l0_1.length c0_1] 31 (0, 0)) (by (with_reducible repeat (first | refine zC ?_ _ | refine zD ?_ | refine zA ?_ _)); exact BK115.out) hb); have n1_ := zB.mk (zK (g := gb116) (o := .cells #[.int .i64 a5_0, .int .i64 a5_1, .int .u8 a5_2, .int .i64 a5_3, .int .i64 a5_4, .float .f64 a5_5] 35 (0, 0)) (by (with_reducible repeat (first | refine zC ?_ _ | refine zD ?_ | refine zA ?_ _)); exact BK116.out) hb); have n2_ := zB.mk (zK (g := gb117) (o := .cells #[.int .i64 0, .int .i64 0] 65 (0, 0)) (by (with_reducible repeat (first | refine zC ?_ _ | refine zD ?_ | refine zA ?_ _)); exact BK117.out) hb); have n3_ := zB.mk (zK (g := gb118) (o := .cells #[.int .i64 x119000_1, .int .i64 x119001_1] 65 (0, 0)) (by (with_reducible repeat (first | refine zC ?_ _ | refine zD ?_ | refine zA ?_ _)); exact BK118.out) hb); have n4_ := zB.mk (zK (g := gb120) (o := .cells #[.int .i64 ((rd_T62 l0_0 (ji17)).f0), .int .i64 ((rd_T62 l0_0 (ji17)).f1), .int .i64 ((rd_T62 l0_0 (ji17)).f2), .int .u8 ((rd_T62 l0_0 (ji17)).f3)] 62 (0, 0)) (by (with_reducible repeat (first | refine zC ?_ _ | refine zD ?_ | refine zA ?_ _)); exact BK120.out) hb); have n5_ := zB.mk (zO (by repeat (first | (with_reducible first | exact HB.out | apply zJ | apply zF | apply zH | refine zE ?_ GE115.out | refine zE ?_ GE116.out | refine zE ?_ GE117.out | refine zE ?_ GE118.out | refine zE ?_ GE120.out) | exact HB.out)) hb); clear BK115; clear BK116; clear BK117; clear BK118; clear BK120; clear HB; have BK115 := n0_; have BK116 := n1_; have BK117 := n2_; have BK118 := n3_; have BK120 := n4_; have HB := n5_; clear n0_ n1_ n2_ n3_ n4_ n5_; (try clear hb); (try clear hb2); (try clear hk); (try clear hi); have hcz38_0 : w37.cell? ⟨gb120, 0, none⟩ = some (.int .i64 ((rd_T62 l0_0 (ji17)).f0)) := (zG BK120.out 0).trans rfl; have hcz38_1 : w37.cell? ⟨gb120, 1, none⟩ = some (.int .i64 ((rd_T62 l0_0 (ji17)).f1)) := (zG BK120.out 1).trans rfl; have hcz38_2 : w37.cell? ⟨gb120, 2, none⟩ = some (.int .i64 ((rd_T62 l0_0 (ji17)).f2)) := (zG BK120.out 2).trans rfl; have hcz38_3 : w37.cell? ⟨gb120, 3, none⟩ = some (.int .u8 ((rd_T62 l0_0 (ji17)).f3)) := (zG BK120.out 3).trans rfl; have hfz38_0 := zI BK120.out 0; have hfz38_1 := zI BK120.out 1; have hfz38_2 := zI BK120.out 2; have hfz38_3 := zI BK120.out 3))
    (try simp only [Act.put, sA_, sB_, sC_])
    go_cut [16] (fun v16 wc => ∃ (kq : Nat) (x16_20 : Int), v16 = .int .i64 x16_20 ∧ zB (best_next.j1 kq a1 a2 a3 l4 t121 x15_1 x16_20 x17_1 x18_1 l0_0 l0_1 a5_0 a5_1 a5_2 a5_3 a5_4 a5_5 x119000_1 x119001_1 = some (r1, r2)) ∧ zB (kq ≤ k1) ∧ zB (wc.heap[gb115]? = some (.cells #[(.slice (some ad119) l0_0.length c0_0), (.slice A0_1 l0_1.length c0_1)] 31 (0, 0))) ∧ zB (wc.heap[gb116]? = some (.cells #[.int .i64 a5_0, .int .i64 a5_1, .int .u8 a5_2, .int .i64 a5_3, .int .i64 a5_4, .float .f64 a5_5] 35 (0, 0))) ∧ zB (wc.heap[gb117]? = some (.cells #[.int .i64 0, .int .i64 0] 65 (0, 0))) ∧ zB (wc.heap[gb118]? = some (.cells #[.int .i64 x119000_1, .int .i64 x119001_1] 65 (0, 0))) ∧ zB (wc.heap[gb120]? = some (.cells #[.int .i64 ((rd_T62 l0_0 (ji17)).f0), .int .i64 ((rd_T62 l0_0 (ji17)).f1), .int .i64 ((rd_T62 l0_0 (ji17)).f2), .int .u8 ((rd_T62 l0_0 (ji17)).f3)] 62 (0, 0))) ∧ zB (Below w.heap.size w wc))
    case first =>
      have H := HC21.out; clear HC21; by_cases c39 : ((rd_T62 l0_0 (ji17)).f3) = 1
      · rw [if_pos c39] at H
        have c39b0 : (((rd_T62 l0_0 (ji17)).f3) == 1) = true := beq_iff_eq.mpr c39
        have c39b1 : (((rd_T62 l0_0 (ji17)).f3) != 1) = false := bne_eq_false_iff_eq.mpr c39
        clear c39; (first | rw [c39b0] | (simp only [i64_w, i32_w]; rw [c39b0]) | skip)
        have H' := zB.mk H
        clear H; go_wp2
        go_meet
        case rel => exact ⟨_, (wrap64 (x16_1 + 1)), (by first | rfl | (simp; done) | (simp [*]; done)), H', ⟨by have := HK1.out; first | omega | exact Nat.le_refl _⟩, ⟨by (with_reducible repeat (first | refine zC ?_ _ | refine zD ?_ | refine zA ?_ _)); exact BK115.out⟩, ⟨by (with_reducible repeat (first | refine zC ?_ _ | refine zD ?_ | refine zA ?_ _)); exact BK116.out⟩, ⟨by (with_reducible repeat (first | refine zC ?_ _ | refine zD ?_ | refine zA ?_ _)); exact BK117.out⟩, ⟨by (with_reducible repeat (first | refine zC ?_ _ | refine zD ?_ | refine zA ?_ _)); exact BK118.out⟩, ⟨by (with_reducible repeat (first | refine zC ?_ _ | refine zD ?_ | refine zA ?_ _)); exact BK120.out⟩, ⟨by repeat (first | (with_reducible first | exact HB.out | apply zJ | apply zF | apply zH | refine zE ?_ GE115.out | refine zE ?_ GE116.out | refine zE ?_ GE117.out | refine zE ?_ GE118.out | refine zE ?_ GE120.out) | exact HB.out)⟩⟩
      rw [if_neg c39] at H; have c39b0 : (((rd_T62 l0_0 (ji17)).f3) == 1) = false := beq_eq_false_iff_ne.mpr c39
      have c39b1 : (((rd_T62 l0_0 (ji17)).f3) != 1) = true := bne_iff_ne.mpr c39
      (first | rw [c39b0] | (simp only [i64_w, i32_w]; rw [c39b0]) | skip)
      have H' := zB.mk H
      clear H; go_wp2
      go_meet
      case rel => exact ⟨_, (x16_1), (by first | rfl | (simp; done) | (simp [*]; done)), H', ⟨by have := HK1.out; first | omega | exact Nat.le_refl _⟩, ⟨by (with_reducible repeat (first | refine zC ?_ _ | refine zD ?_ | refine zA ?_ _)); exact BK115.out⟩, ⟨by (with_reducible repeat (first | refine zC ?_ _ | refine zD ?_ | refine zA ?_ _)); exact BK116.out⟩, ⟨by (with_reducible repeat (first | refine zC ?_ _ | refine zD ?_ | refine zA ?_ _)); exact BK117.out⟩, ⟨by (with_reducible repeat (first | refine zC ?_ _ | refine zD ?_ | refine zA ?_ _)); exact BK118.out⟩, ⟨by (with_reducible repeat (first | refine zC ?_ _ | refine zD ?_ | refine zA ?_ _)); exact BK120.out⟩, ⟨by repeat (first | (with_reducible first | exact HB.out | apply zJ | apply zF | apply zH | refine zE ?_ GE115.out | refine zE ?_ GE116.out | refine zE ?_ GE117.out | refine zE ?_ GE118.out | refine zE ?_ GE120.out) | exact HB.out)⟩⟩
    clear HC21; try clear c1
    try clear p1
    try clear q1
    try clear hx1
    try clear c2
    try clear p2
    try clear c3
    try clear c4
    try clear p6
    try clear c11
    try clear p11
    try clear q11
    try clear hx11
    try clear c12
    try clear c13
    try clear c16
    try clear c16b0
    try clear c18
    try clear c18b0
    try clear c19
    try clear c19b0
    try clear c22
    try clear c23
    try clear c24
    try clear c27
    try clear c28
    try clear c29
    try clear c30
    try clear c34
    try clear c35
    try clear c37
    try clear c39
    try clear c39b0
    try clear c39b1
    try clear hcz14_0
    try clear hcz14_1
    try clear hcz25_0
    try clear hcz25_1
    try clear hcz31_0
    try clear hcz31_1
    try clear hcz31_2
    try clear hcz31_3
    try clear hcz33_0
    try clear hcz33_1
    try clear hcz33_2
    try clear hcz33_3
    try clear hcz36_0
    try clear hcz36_1
    try clear hcz36_2
    try clear hcz36_3
    try clear hcz36_4
    try clear hcz36_5
    try clear hcz38_0
    try clear hcz38_1
    try clear hcz38_2
    try clear hcz38_3
    try clear hfz14_0
    try clear hfz14_1
    try clear hfz25_0
    try clear hfz25_1
    try clear hfz31_0
    try clear hfz31_1
    try clear hfz31_2
    try clear hfz31_3
    try clear hfz33_0
    try clear hfz33_1
    try clear hfz33_2
    try clear hfz33_3
    try clear hfz36_0
    try clear hfz36_1
    try clear hfz36_2
    try clear hfz36_3
    try clear hfz36_4
    try clear hfz36_5
    try clear hfz38_0
    try clear hfz38_1
    try clear hfz38_2
    try clear hfz38_3
    try clear hx119_0
    try clear hx119_1
    try clear hx119_2
    try clear hx119_3
    try clear p119
    try clear p2
    try clear p6
    try clear q119
    obtain ⟨kq, x16_20, rfl, HA, HJ20, BK115, BK116, BK117, BK118, BK120, HB⟩ := hcut; cases kq with
    | zero => exact absurd HA.out (by simp [best_next.j1])
    | succ kj20 =>
      have H := HA.out; clear HA; simp only [best_next.j1] at H; replace H := Option.bind_eq_some_iff.mp H; obtain ⟨t122, A400, H⟩ := H; replace H : (if t122 = x18_1 then (best_next.j2 kj20 a1 a2 a3 l4 t121 t121 x16_20 x16_20 x18_1 l0_0 l0_1 a5_0 a5_1 a5_2 a5_3 a5_4 a5_5 x119000_1 x119001_1) else (best_next.j2 kj20 a1 a2 a3 l4 t121 x15_1 x16_20 x17_1 x18_1 l0_0 l0_1 a5_0 a5_1 a5_2 a5_3 a5_4 a5_5 x119000_1 x119001_1)) = some (r1, r2) := H; have A40 := zB.mk A400; clear A400; have HC41 := zB.mk H; clear H; have hnb42 := NB115_116.out; have hnc42 := NB116_115.out; have hnb43 := NB115_117.out; have hnc43 := NB117_115.out; have hnb44 := NB115_118.out; have hnc44 := NB118_115.out; have hnb45 := NB115_120.out; have hnc45 := NB120_115.out; have hcz46_0 : wc.cell? ⟨gb115, 0, none⟩ = some (.slice (some ad119) l0_0.length c0_0) := (zG BK115.out 0).trans rfl
      have hcz46_1 : wc.cell? ⟨gb115, 1, none⟩ = some (.slice A0_1 l0_1.length c0_1) := (zG BK115.out 1).trans rfl
      have hfz46_0 := zI BK115.out 0; have hfz46_1 := zI BK115.out 1; go_upto_if 56 with (first | ((with_reducible refine gate_callee (f := 38) rfl ?_); refine goesL_ (some 54) rfl rfl Try.func38 (by kernel_rfl) rfl #[.agg #[.slice (some ad119) l0_0.length c0_0, .slice A0_1 l0_1.length c0_1], .int .i64 (wrap64 (x18_1 - 1)), .int .i64 x18_1] rfl (by (try simp only [List.map_toArray, List.map_cons, List.map_nil]); first | done | (rw [hji17] <;> rfl) | rfl | (simp only [List.length_drop, List.length_take]; rfl)) ?_; (with_reducible refine (span_Trim.calls kj20 _ _ l0_0 _ _ l0_1 (wrap64 (x18_1 - 1)) x18_1 t122 _ ?side1 ?side2 ?side3 ?side4 A40.out).mono ?_); (case side1 => repeat (first | exact (Kd.C_below HR0_0.out HB.out) | (with_reducible refine Kd.C_alloc ?_ _) | (with_reducible refine Kd.C_drewN ?_ _) | (with_reducible refine Kd.C_drew ?_))); (case side2 => exact HC0_0.out); (case side3 => repeat (first | exact (Kd.C_below HR0_1.out HB.out) | (with_reducible refine Kd.C_alloc ?_ _) | (with_reducible refine Kd.C_drewN ?_ _) | (with_reducible refine Kd.C_drew ?_))); (case side4 => exact HC0_1.out); rintro e w47 ⟨rfl, hb⟩; refine ⟨_, rfl, ?_⟩; have n0_ := zB.mk (zK (g := gb115) (o := .cells #[.slice (some ad119) l0_0.length c0_0, .slice A0_1 l0_1.length c0_1] 31 (0, 0)) (by (with_reducible repeat (first | refine zC ?_ _ | refine zD ?_ | refine zA ?_ _)); exact BK115.out) hb); have n1_ := zB.mk (zK (g := gb116) (o := .cells #[.int .i64 a5_0, .int .i64 a5_1, .int .u8 a5_2, .int .i64 a5_3, .int .i64 a5_4, .float .f64 a5_5] 35 (0, 0)) (by (with_reducible repeat (first | refine zC ?_ _ | refine zD ?_ | refine zA ?_ _)); exact BK116.out) hb); have n2_ := zB.mk (zK (g := gb117) (o := .cells #[.int .i64 0, .int .i64 0] 65 (0, 0)) (by (with_reducible repeat (first | refine zC ?_ _ | refine zD ?_ | refine zA ?_ _)); exact BK117.out) hb); have n3_ := zB.mk (zK (g := gb118) (o := .cells #[.int .i64 x119000_1, .int .i64 x119001_1] 65 (0, 0)) (by (with_reducible repeat (first | refine zC ?_ _ | refine zD ?_ | refine zA ?_ _)); exact BK118.out) hb); have n4_ := zB.mk (zK (g := gb120) (o := .cells #[.int .i64 ((rd_T62 l0_0 (ji17)).f0), .int .i64 ((rd_T62 l0_0 (ji17)).f1), .int .i64 ((rd_T62 l0_0 (ji17)).f2), .int .u8 ((rd_T62 l0_0 (ji17)).f3)] 62 (0, 0)) (by (with_reducible repeat (first | refine zC ?_ _ | refine zD ?_ | refine zA ?_ _)); exact BK120.out) hb); have n5_ := zB.mk (zO (by repeat (first | (with_reducible first | exact HB.out | apply zJ | apply zF | apply zH | refine zE ?_ GE115.out | refine zE ?_ GE116.out | refine zE ?_ GE117.out | refine zE ?_ GE118.out | refine zE ?_ GE120.out) | exact HB.out)) hb); clear BK115; clear BK116; clear BK117; clear BK118; clear BK120; clear HB; have BK115 := n0_; have BK116 := n1_; have BK117 := n2_; have BK118 := n3_; have BK120 := n4_; have HB := n5_; clear n0_ n1_ n2_ n3_ n4_ n5_; (try clear hb); (try clear hb2); (try clear hk); (try clear hi)))
      (try simp only [Act.put, sA_, sB_, sC_])
      go_cut [15, 17] (fun v15 v17 wc => ∃ (kq : Nat) (x15_40 : Int) (x17_40 : Int), v15 = .int .i64 x15_40 ∧ v17 = .int .i64 x17_40 ∧ zB (best_next.j2 kq a1 a2 a3 l4 t121 x15_40 x16_20 x17_40 x18_1 l0_0 l0_1 a5_0 a5_1 a5_2 a5_3 a5_4 a5_5 x119000_1 x119001_1 = some (r1, r2)) ∧ zB (kq ≤ kj20) ∧ zB (wc.heap[gb115]? = some (.cells #[(.slice (some ad119) l0_0.length c0_0), (.slice A0_1 l0_1.length c0_1)] 31 (0, 0))) ∧ zB (wc.heap[gb116]? = some (.cells #[.int .i64 a5_0, .int .i64 a5_1, .int .u8 a5_2, .int .i64 a5_3, .int .i64 a5_4, .float .f64 a5_5] 35 (0, 0))) ∧ zB (wc.heap[gb117]? = some (.cells #[.int .i64 0, .int .i64 0] 65 (0, 0))) ∧ zB (wc.heap[gb118]? = some (.cells #[.int .i64 x119000_1, .int .i64 x119001_1] 65 (0, 0))) ∧ zB (wc.heap[gb120]? = some (.cells #[.int .i64 ((rd_T62 l0_0 (ji17)).f0), .int .i64 ((rd_T62 l0_0 (ji17)).f1), .int .i64 ((rd_T62 l0_0 (ji17)).f2), .int .u8 ((rd_T62 l0_0 (ji17)).f3)] 62 (0, 0))) ∧ zB (Below w.heap.size w wc))
      case first =>
        have H := HC41.out; clear HC41; by_cases c48 : t122 = x18_1
        · rw [if_pos c48] at H
          have c48b0 : (t122 == x18_1) = true := beq_iff_eq.mpr c48
          have c48b1 : (t122 != x18_1) = false := bne_eq_false_iff_eq.mpr c48
          clear c48; (first | rw [c48b0] | (simp only [i64_w, i32_w]; rw [c48b0]) | skip)
          have H' := zB.mk H
          clear H; go_wp2
          go_meet
          case rel => exact ⟨_, (t121), (x16_20), (by first | rfl | (simp; done) | (simp [*]; done)), (by first | rfl | (simp; done) | (simp [*]; done)), H', ⟨by have := HK1.out; have := HJ20.out; first | omega | exact Nat.le_refl _⟩, ⟨by (with_reducible repeat (first | refine zC ?_ _ | refine zD ?_ | refine zA ?_ _)); exact BK115.out⟩, ⟨by (with_reducible repeat (first | refine zC ?_ _ | refine zD ?_ | refine zA ?_ _)); exact BK116.out⟩, ⟨by (with_reducible repeat (first | refine zC ?_ _ | refine zD ?_ | refine zA ?_ _)); exact BK117.out⟩, ⟨by (with_reducible repeat (first | refine zC ?_ _ | refine zD ?_ | refine zA ?_ _)); exact BK118.out⟩, ⟨by (with_reducible repeat (first | refine zC ?_ _ | refine zD ?_ | refine zA ?_ _)); exact BK120.out⟩, ⟨by repeat (first | (with_reducible first | exact HB.out | apply zJ | apply zF | apply zH | refine zE ?_ GE115.out | refine zE ?_ GE116.out | refine zE ?_ GE117.out | refine zE ?_ GE118.out | refine zE ?_ GE120.out) | exact HB.out)⟩⟩
        rw [if_neg c48] at H; have c48b0 : (t122 == x18_1) = false := beq_eq_false_iff_ne.mpr c48
        have c48b1 : (t122 != x18_1) = true := bne_iff_ne.mpr c48
        (first | rw [c48b0] | (simp only [i64_w, i32_w]; rw [c48b0]) | skip)
        have H' := zB.mk H
        clear H; go_wp2
        go_meet
        case rel => exact ⟨_, (x15_1), (x17_1), (by first | rfl | (simp; done) | (simp [*]; done)), (by first | rfl | (simp; done) | (simp [*]; done)), H', ⟨by have := HK1.out; have := HJ20.out; first | omega | exact Nat.le_refl _⟩, ⟨by (with_reducible repeat (first | refine zC ?_ _ | refine zD ?_ | refine zA ?_ _)); exact BK115.out⟩, ⟨by (with_reducible repeat (first | refine zC ?_ _ | refine zD ?_ | refine zA ?_ _)); exact BK116.out⟩, ⟨by (with_reducible repeat (first | refine zC ?_ _ | refine zD ?_ | refine zA ?_ _)); exact BK117.out⟩, ⟨by (with_reducible repeat (first | refine zC ?_ _ | refine zD ?_ | refine zA ?_ _)); exact BK118.out⟩, ⟨by (with_reducible repeat (first | refine zC ?_ _ | refine zD ?_ | refine zA ?_ _)); exact BK120.out⟩, ⟨by repeat (first | (with_reducible first | exact HB.out | apply zJ | apply zF | apply zH | refine zE ?_ GE115.out | refine zE ?_ GE116.out | refine zE ?_ GE117.out | refine zE ?_ GE118.out | refine zE ?_ GE120.out) | exact HB.out)⟩⟩
      clear HC41; try clear c1
      try clear p1
      try clear q1
      try clear hx1
      try clear c2
      try clear p2
      try clear c3
      try clear c4
      try clear p6
      try clear c11
      try clear p11
      try clear q11
      try clear hx11
      try clear c12
      try clear c13
      try clear c16
      try clear c16b0
      try clear c18
      try clear c18b0
      try clear c19
      try clear c19b0
      try clear c22
      try clear c23
      try clear c24
      try clear c27
      try clear c28
      try clear c29
      try clear c30
      try clear c34
      try clear c35
      try clear c37
      try clear c38
      try clear c39
      try clear c39b0
      try clear c39b1
      try clear c42
      try clear c43
      try clear c44
      try clear c45
      try clear c48
      try clear c48b0
      try clear c48b1
      try clear hcz14_0
      try clear hcz14_1
      try clear hcz25_0
      try clear hcz25_1
      try clear hcz31_0
      try clear hcz31_1
      try clear hcz31_2
      try clear hcz31_3
      try clear hcz33_0
      try clear hcz33_1
      try clear hcz33_2
      try clear hcz33_3
      try clear hcz36_0
      try clear hcz36_1
      try clear hcz36_2
      try clear hcz36_3
      try clear hcz36_4
      try clear hcz36_5
      try clear hcz38_0
      try clear hcz38_1
      try clear hcz38_2
      try clear hcz38_3
      try clear hcz46_0
      try clear hcz46_1
      try clear hfz14_0
      try clear hfz14_1
      try clear hfz25_0
      try clear hfz25_1
      try clear hfz31_0
      try clear hfz31_1
      try clear hfz31_2
      try clear hfz31_3
      try clear hfz33_0
      try clear hfz33_1
      try clear hfz33_2
      try clear hfz33_3
      try clear hfz36_0
      try clear hfz36_1
      try clear hfz36_2
      try clear hfz36_3
      try clear hfz36_4
      try clear hfz36_5
      try clear hfz38_0
      try clear hfz38_1
      try clear hfz38_2
      try clear hfz38_3
      try clear hfz46_0
      try clear hfz46_1
      try clear hx119_0
      try clear hx119_1
      try clear hx119_2
      try clear hx119_3
      try clear p1
      try clear p11
      try clear p119
      try clear p2
      try clear p6
      try clear q1
      try clear q11
      try clear q119
      obtain ⟨kq, x15_40, x17_40, rfl, rfl, HA, HJ40, BK115, BK116, BK117, BK118, BK120, HB⟩ := hcut; cases kq with
      | zero => exact absurd HA.out (by simp [best_next.j2])
      | succ kj40 =>
        have H := HA.out; clear HA; simp only [best_next.j2] at H; by_cases c49 : x15_40 > a5_0
        · rw [if_pos c49] at H
          have c49b0 : decide (a5_0 < x15_40) = true := decide_eq_true c49
          clear c49; simp only [Option.some.injEq, Prod.mk.injEq] at H; obtain ⟨rfl, rfl⟩ := H; have hnb50 := NB116_115.out; have hnc50 := NB115_116.out; have hnb51 := NB116_117.out; have hnc51 := NB117_116.out; have hnb52 := NB116_118.out; have hnc52 := NB118_116.out; have hnb53 := NB116_120.out; have hnc53 := NB120_116.out; have hcz54_0 : wc.cell? ⟨gb116, 0, none⟩ = some (.int .i64 a5_0) := (zG BK116.out 0).trans rfl
          have hcz54_1 : wc.cell? ⟨gb116, 1, none⟩ = some (.int .i64 a5_1) := (zG BK116.out 1).trans rfl
          have hcz54_2 : wc.cell? ⟨gb116, 2, none⟩ = some (.int .u8 a5_2) := (zG BK116.out 2).trans rfl
          have hcz54_3 : wc.cell? ⟨gb116, 3, none⟩ = some (.int .i64 a5_3) := (zG BK116.out 3).trans rfl
          have hcz54_4 : wc.cell? ⟨gb116, 4, none⟩ = some (.int .i64 a5_4) := (zG BK116.out 4).trans rfl
          have hcz54_5 : wc.cell? ⟨gb116, 5, none⟩ = some (.float .f64 a5_5) := (zG BK116.out 5).trans rfl
          have hfz54_0 := zI BK116.out 0; have hfz54_1 := zI BK116.out 1; have hfz54_2 := zI BK116.out 2; have hfz54_3 := zI BK116.out 3; have hfz54_4 := zI BK116.out 4; have hfz54_5 := zI BK116.out 5; have hnb55 := NB118_115.out; have hnc55 := NB115_118.out; have hnb56 := NB118_117.out; have hnc56 := NB117_118.out; have hnb57 := NB118_120.out; have hnc57 := NB120_118.out; have hcz58_0 : wc.cell? ⟨gb118, 0, none⟩ = some (.int .i64 x119000_1) := (zG BK118.out 0).trans rfl
          have hcz58_1 : wc.cell? ⟨gb118, 1, none⟩ = some (.int .i64 x119001_1) := (zG BK118.out 1).trans rfl
          have hfz58_0 := zI BK118.out 0; have hfz58_1 := zI BK118.out 1; have hnb59 := NB117_115.out; have hnc59 := NB115_117.out; have hnb60 := NB117_120.out; have hnc60 := NB120_117.out; have hcz61_0 : wc.cell? ⟨gb117, 0, none⟩ = some (.int .i64 0) := (zG BK117.out 0).trans rfl
          have hcz61_1 : wc.cell? ⟨gb117, 1, none⟩ = some (.int .i64 0) := (zG BK117.out 1).trans rfl
          have hfz61_0 := zI BK117.out 0; have hfz61_1 := zI BK117.out 1; go_wp2_with (first | ((with_reducible refine gate_store (t := 65) (p := 12) rfl ?_); refine store_event (t := 65) (p := 12) (v := ?vo_w62) (w1 := ((wc.setCell ⟨gb117, 0, none⟩ (.int .i64 x119000_1)).setCell ⟨gb117, 1, none⟩ (.int .i64 x119001_1))) ?hg ?ho ?hn ?hr ?_; (case ho => rfl); (case hg => rfl); (case hn => rfl); (case hr => first | (go_simp; done) | (go_simp; rfl)); intro w62 hw; have n0_ : zB (w62.heap[gb115]? = some (.cells #[.slice (some ad119) l0_0.length c0_0, .slice A0_1 l0_1.length c0_1] 31 (0, 0))) := ⟨(by rw [hw]; exact (by (with_reducible repeat (first | refine zC ?_ _ | refine zD ?_ | refine zA ?_ _)); refine zN ?_ NB115_117.out _; (with_reducible repeat (first | refine zC ?_ _ | refine zD ?_ | refine zA ?_ _)); refine zN ?_ NB115_117.out _; (with_reducible repeat (first | refine zC ?_ _ | refine zD ?_ | refine zA ?_ _)); exact BK115.out))⟩; have n1_ : zB (w62.heap[gb116]? = some (.cells #[.int .i64 a5_0, .int .i64 a5_1, .int .u8 a5_2, .int .i64 a5_3, .int .i64 a5_4, .float .f64 a5_5] 35 (0, 0))) := ⟨(by rw [hw]; exact (by (with_reducible repeat (first | refine zC ?_ _ | refine zD ?_ | refine zA ?_ _)); refine zN ?_ NB116_117.out _; (with_reducible repeat (first | refine zC ?_ _ | refine zD ?_ | refine zA ?_ _)); refine zN ?_ NB116_117.out _; (with_reducible repeat (first | refine zC ?_ _ | refine zD ?_ | refine zA ?_ _)); exact BK116.out))⟩; have n2_ : zB (w62.heap[gb117]? = some (.cells #[.int .i64 x119000_1, .int .i64 x119001_1] 65 (0, 0))) := ⟨(by rw [hw]; exact (by (with_reducible repeat (first | refine zC ?_ _ | refine zD ?_ | refine zA ?_ _)); refine blk_put (cs := #[.int .i64 x119000_1, .int .i64 0]) ?_ 1 _ rfl; (with_reducible repeat (first | refine zC ?_ _ | refine zD ?_ | refine zA ?_ _)); refine blk_put (cs := #[.int .i64 0, .int .i64 0]) ?_ 0 _ rfl; (with_reducible repeat (first | refine zC ?_ _ | refine zD ?_ | refine zA ?_ _)); exact BK117.out))⟩; have n3_ : zB (w62.heap[gb118]? = some (.cells #[.int .i64 x119000_1, .int .i64 x119001_1] 65 (0, 0))) := ⟨(by rw [hw]; exact (by (with_reducible repeat (first | refine zC ?_ _ | refine zD ?_ | refine zA ?_ _)); refine zN ?_ NB118_117.out _; (with_reducible repeat (first | refine zC ?_ _ | refine zD ?_ | refine zA ?_ _)); refine zN ?_ NB118_117.out _; (with_reducible repeat (first | refine zC ?_ _ | refine zD ?_ | refine zA ?_ _)); exact BK118.out))⟩; have n4_ : zB (w62.heap[gb120]? = some (.cells #[.int .i64 ((rd_T62 l0_0 (ji17)).f0), .int .i64 ((rd_T62 l0_0 (ji17)).f1), .int .i64 ((rd_T62 l0_0 (ji17)).f2), .int .u8 ((rd_T62 l0_0 (ji17)).f3)] 62 (0, 0))) := ⟨(by rw [hw]; exact (by (with_reducible repeat (first | refine zC ?_ _ | refine zD ?_ | refine zA ?_ _)); refine zN ?_ NB120_117.out _; (with_reducible repeat (first | refine zC ?_ _ | refine zD ?_ | refine zA ?_ _)); refine zN ?_ NB120_117.out _; (with_reducible repeat (first | refine zC ?_ _ | refine zD ?_ | refine zA ?_ _)); exact BK120.out))⟩; have n5_ : zB (Below w.heap.size w w62) := ⟨(by rw [hw]; exact (by repeat (first | (with_reducible first | exact HB.out | apply zJ | apply zF | apply zH | refine zE ?_ GE115.out | refine zE ?_ GE116.out | refine zE ?_ GE117.out | refine zE ?_ GE118.out | refine zE ?_ GE120.out) | exact HB.out)))⟩; clear hw; clear BK115; clear BK116; clear BK117; clear BK118; clear BK120; clear HB; have BK115 := n0_; have BK116 := n1_; have BK117 := n2_; have BK118 := n3_; have BK120 := n4_; have HB := n5_; clear n0_ n1_ n2_ n3_ n4_ n5_))
          refine bodyPost_ret (results_cell_row rfl _ _ gb117 65 #[.int .i64 x119000_1, .int .i64 x119001_1] (0, 0) _ rfl (by (with_reducible repeat (first | refine zC ?_ _ | refine zD ?_ | refine zA ?_ _)); exact BK117.out) Try.underlying65 rfl (by kernel_rfl)) rfl ?_
          exact ⟨by first | rfl | (simp [errW_none, errW_some] <;> rfl) | (simp only [← hji17]; first | rfl | (simp [errW_none, errW_some] <;> rfl)) | (simp [*, errW_none, errW_some] <;> rfl), by repeat (first | (with_reducible first | exact HB.out | apply zJ | apply zF | apply zH | refine zE ?_ GE115.out | refine zE ?_ GE116.out | refine zE ?_ GE117.out | refine zE ?_ GE118.out | refine zE ?_ GE120.out) | exact HB.out)⟩
        rw [if_neg c49] at H; have c49b0 : decide (a5_0 < x15_40) = false := decide_eq_false c49
        clear c49; replace H := Option.bind_eq_some_iff.mp H; obtain ⟨⟨t123, t124⟩, A630, H⟩ := H; replace H : (if 0 ≤ (wrap64 (x18_1 - a2)) then (if (wrap64 (x18_1 - a2)) < (l4.length : Int) then (if t124 = true then (if x18_1 < a3 then (best_next.j3 kj40 a1 a2 a3 l4 t121 x15_40 x16_20 x17_40 x18_1 t123 (decide (((rd_T65 l4 (wrap64 (x18_1 - a2))).f1) < 0)) l0_0 l0_1 a5_0 a5_1 a5_2 a5_3 a5_4 a5_5 x119000_1 x119001_1 ((rd_T65 l4 (wrap64 (x18_1 - a2))).f0) ((rd_T65 l4 (wrap64 (x18_1 - a2))).f1)) else (best_next.j3 kj40 a1 a2 a3 l4 t121 x15_40 x16_20 x17_40 x18_1 t123 false l0_0 l0_1 a5_0 a5_1 a5_2 a5_3 a5_4 a5_5 x119000_1 x119001_1 ((rd_T65 l4 (wrap64 (x18_1 - a2))).f0) ((rd_T65 l4 (wrap64 (x18_1 - a2))).f1))) else (best_next.j3 kj40 a1 a2 a3 l4 t121 x15_40 x16_20 x17_40 x18_1 t123 true l0_0 l0_1 a5_0 a5_1 a5_2 a5_3 a5_4 a5_5 x119000_1 x119001_1 ((rd_T65 l4 (wrap64 (x18_1 - a2))).f0) ((rd_T65 l4 (wrap64 (x18_1 - a2))).f1))) else (none)) else (none)) = some (r1, r2) := H; have A63 := zB.mk A630; clear A630; obtain ⟨ji64, hji64⟩ : ∃ j_ : Int, (wrap64 (x18_1 - a2)) = j_ := ⟨_, rfl⟩; replace H : (if 0 ≤ (ji64) then (if (ji64) < (l4.length : Int) then (if t124 = true then (if x18_1 < a3 then (best_next.j3 kj40 a1 a2 a3 l4 t121 x15_40 x16_20 x17_40 x18_1 t123 (decide (((rd_T65 l4 (ji64)).f1) < 0)) l0_0 l0_1 a5_0 a5_1 a5_2 a5_3 a5_4 a5_5 x119000_1 x119001_1 ((rd_T65 l4 (ji64)).f0) ((rd_T65 l4 (ji64)).f1)) else (best_next.j3 kj40 a1 a2 a3 l4 t121 x15_40 x16_20 x17_40 x18_1 t123 false l0_0 l0_1 a5_0 a5_1 a5_2 a5_3 a5_4 a5_5 x119000_1 x119001_1 ((rd_T65 l4 (ji64)).f0) ((rd_T65 l4 (ji64)).f1))) else (best_next.j3 kj40 a1 a2 a3 l4 t121 x15_40 x16_20 x17_40 x18_1 t123 true l0_0 l0_1 a5_0 a5_1 a5_2 a5_3 a5_4 a5_5 x119000_1 x119001_1 ((rd_T65 l4 (ji64)).f0) ((rd_T65 l4 (ji64)).f1))) else (none)) else (none)) = some (r1, r2) := by first | (rw [hji64] at H; exact H) | (simp only [hji64] at H ⊢; exact H)
        (try rw [hji64] at A63)
        have hji64w : (IntKind.i64.wrap (x18_1 - a2)) = ji64 := (i64_w _).trans hji64
        by_cases c65 : 0 ≤ (ji64)
        rotate_left
        · rw [if_neg c65] at H
          exact absurd H (by simp)
        rw [if_pos c65] at H; have c65b0 : decide (0 ≤ (ji64)) = true := decide_eq_true c65
        clear c65; by_cases c66 : (ji64) < (l4.length : Int)
        rotate_left
        · rw [if_neg c66] at H
          exact absurd H (by simp)
        rw [if_pos c66] at H; have c66b0 : decide ((ji64) < (l4.length : Int)) = true := decide_eq_true c66
        clear c66; have HC67 := zB.mk H; clear H; have hnb68 := NB116_115.out; have hnc68 := NB115_116.out; have hnb69 := NB116_117.out; have hnc69 := NB117_116.out; have hnb70 := NB116_118.out; have hnc70 := NB118_116.out; have hnb71 := NB116_120.out; have hnc71 := NB120_116.out; have hcz72_0 : wc.cell? ⟨gb116, 0, none⟩ = some (.int .i64 a5_0) := (zG BK116.out 0).trans rfl
        have hcz72_1 : wc.cell? ⟨gb116, 1, none⟩ = some (.int .i64 a5_1) := (zG BK116.out 1).trans rfl
        have hcz72_2 : wc.cell? ⟨gb116, 2, none⟩ = some (.int .u8 a5_2) := (zG BK116.out 2).trans rfl
        have hcz72_3 : wc.cell? ⟨gb116, 3, none⟩ = some (.int .i64 a5_3) := (zG BK116.out 3).trans rfl
        have hcz72_4 : wc.cell? ⟨gb116, 4, none⟩ = some (.int .i64 a5_4) := (zG BK116.out 4).trans rfl
        have hcz72_5 : wc.cell? ⟨gb116, 5, none⟩ = some (.float .f64 a5_5) := (zG BK116.out 5).trans rfl
        have hfz72_0 := zI BK116.out 0; have hfz72_1 := zI BK116.out 1; have hfz72_2 := zI BK116.out 2; have hfz72_3 := zI BK116.out 3; have hfz72_4 := zI BK116.out 4; have hfz72_5 := zI BK116.out 5; have hnb73 := NB115_117.out; have hnc73 := NB117_115.out; have hnb74 := NB115_118.out; have hnc74 := NB118_115.out; have hnb75 := NB115_120.out; have hnc75 := NB120_115.out; have hcz76_0 : wc.cell? ⟨gb115, 0, none⟩ = some (.slice (some ad119) l0_0.length c0_0) := (zG BK115.out 0).trans rfl
        have hcz76_1 : wc.cell? ⟨gb115, 1, none⟩ = some (.slice A0_1 l0_1.length c0_1) := (zG BK115.out 1).trans rfl
        have hfz76_0 := zI BK115.out 0; have hfz76_1 := zI BK115.out 1; go_upto_region 15 with (first | ((with_reducible refine gate_callee (f := 30) rfl ?_); refine goesL_ (some 66) rfl rfl Try.func30 (by kernel_rfl) rfl #[.agg #[.slice (some ad119) l0_0.length c0_0, .slice A0_1 l0_1.length c0_1], .int .i64 x18_1] rfl (by (try simp only [List.map_toArray, List.map_cons, List.map_nil]); first | done | rfl | (simp only [List.length_drop, List.length_take]; rfl)) ?_; (with_reducible refine (span_Ends.calls _ _ l0_0 _ _ l0_1 x18_1 t123 t124 _ ?side1 ?side2 ?side3 ?side4 A63.out).mono ?_); (case side1 => repeat (first | exact (Kd.C_below HR0_0.out HB.out) | (with_reducible refine Kd.C_alloc ?_ _) | (with_reducible refine Kd.C_drewN ?_ _) | (with_reducible refine Kd.C_drew ?_))); (case side2 => exact HC0_0.out); (case side3 => repeat (first | exact (Kd.C_below HR0_1.out HB.out) | (with_reducible refine Kd.C_alloc ?_ _) | (with_reducible refine Kd.C_drewN ?_ _) | (with_reducible refine Kd.C_drew ?_))); (case side4 => exact HC0_1.out); rintro e w77 ⟨rfl, hb⟩; refine ⟨_, rfl, ?_⟩; have n0_ := zB.mk (zK (g := gb115) (o := .cells #[.slice (some ad119) l0_0.length c0_0, .slice A0_1 l0_1.length c0_1] 31 (0, 0)) (by (with_reducible repeat (first | refine zC ?_ _ | refine zD ?_ | refine zA ?_ _)); exact BK115.out) hb); have n1_ := zB.mk (zK (g := gb116) (o := .cells #[.int .i64 a5_0, .int .i64 a5_1, .int .u8 a5_2, .int .i64 a5_3, .int .i64 a5_4, .float .f64 a5_5] 35 (0, 0)) (by (with_reducible repeat (first | refine zC ?_ _ | refine zD ?_ | refine zA ?_ _)); exact BK116.out) hb); have n2_ := zB.mk (zK (g := gb117) (o := .cells #[.int .i64 0, .int .i64 0] 65 (0, 0)) (by (with_reducible repeat (first | refine zC ?_ _ | refine zD ?_ | refine zA ?_ _)); exact BK117.out) hb); have n3_ := zB.mk (zK (g := gb118) (o := .cells #[.int .i64 x119000_1, .int .i64 x119001_1] 65 (0, 0)) (by (with_reducible repeat (first | refine zC ?_ _ | refine zD ?_ | refine zA ?_ _)); exact BK118.out) hb); have n4_ := zB.mk (zK (g := gb120) (o := .cells #[.int .i64 ((rd_T62 l0_0 (ji17)).f0), .int .i64 ((rd_T62 l0_0 (ji17)).f1), .int .i64 ((rd_T62 l0_0 (ji17)).f2), .int .u8 ((rd_T62 l0_0 (ji17)).f3)] 62 (0, 0)) (by (with_reducible repeat (first | refine zC ?_ _ | refine zD ?_ | refine zA ?_ _)); exact BK120.out) hb); have n5_ := zB.mk (zO (by repeat (first | (with_reducible first | exact HB.out | apply zJ | apply zF | apply zH | refine zE ?_ GE115.out | refine zE ?_ GE116.out | refine zE ?_ GE117.out | refine zE ?_ GE118.out | refine zE ?_ GE120.out) | exact HB.out)) hb); clear BK115; clear BK116; clear BK117; clear BK118; clear BK120; clear HB; have BK115 := n0_; have BK116 := n1_; have BK117 := n2_; have BK118 := n3_; have BK120 := n4_; have HB := n5_; clear n0_ n1_ n2_ n3_ n4_ n5_; (try clear hb); (try clear hb2); (try clear hk); (try clear hi); have p125 : 0 ≤ ((ji64) : Int) := of_decide_eq_true (by first | (with_reducible assumption) | assumption); have q125 : (ji64) < (l4.length : Int) := of_decide_eq_true (by first | (with_reducible assumption) | assumption); obtain ⟨ad125, e125, hx125_0, hx125_1⟩ := at_T65 HR4.out (ji64) p125 q125; cases e125; replace hx125_0 := (HB.out.cell (World.block_lt_of_cell? w _ hx125_0)).trans hx125_0; replace hx125_1 := (HB.out.cell (World.block_lt_of_cell? w _ hx125_1)).trans hx125_1; replace p125 := eq_true p125; replace q125 := eq_true q125) | ((with_reducible refine gate_dst (N := 22) rfl ?_); refine box_event ?hg (N := 22) ?hd (cs := #[.int .i64 0, .int .i64 0]) (t := 65) ?hr ?_; (case hd => rfl); (case hg => rfl); (case hr => first | (go_simp; done) | (go_simp; rfl)); intro gb126 hg w78 hbox hb; have n0_ := zB.mk (zK (g := gb115) (o := .cells #[.slice (some ad119) l0_0.length c0_0, .slice A0_1 l0_1.length c0_1] 31 (0, 0)) (by (with_reducible repeat (first | refine zC ?_ _ | refine zD ?_ | refine zA ?_ _)); exact BK115.out) hb); have n1_ := zB.mk (zK (g := gb116) (o := .cells #[.int .i64 a5_0, .int .i64 a5_1, .int .u8 a5_2, .int .i64 a5_3, .int .i64 a5_4, .float .f64 a5_5] 35 (0, 0)) (by (with_reducible repeat (first | refine zC ?_ _ | refine zD ?_ | refine zA ?_ _)); exact BK116.out) hb); have n2_ := zB.mk (zK (g := gb117) (o := .cells #[.int .i64 0, .int .i64 0] 65 (0, 0)) (by (with_reducible repeat (first | refine zC ?_ _ | refine zD ?_ | refine zA ?_ _)); exact BK117.out) hb); have n3_ := zB.mk (zK (g := gb118) (o := .cells #[.int .i64 x119000_1, .int .i64 x119001_1] 65 (0, 0)) (by (with_reducible repeat (first | refine zC ?_ _ | refine zD ?_ | refine zA ?_ _)); exact BK118.out) hb); have n4_ := zB.mk (zK (g := gb120) (o := .cells #[.int .i64 ((rd_T62 l0_0 (ji17)).f0), .int .i64 ((rd_T62 l0_0 (ji17)).f1), .int .i64 ((rd_T62 l0_0 (ji17)).f2), .int .u8 ((rd_T62 l0_0 (ji17)).f3)] 62 (0, 0)) (by (with_reducible repeat (first | refine zC ?_ _ | refine zD ?_ | refine zA ?_ _)); exact BK120.out) hb); have n5_ := zB.mk (zO (by repeat (first | (with_reducible first | exact HB.out | apply zJ | apply zF | apply zH | refine zE ?_ GE115.out | refine zE ?_ GE116.out | refine zE ?_ GE117.out | refine zE ?_ GE118.out | refine zE ?_ GE120.out) | exact HB.out)) hb); have n6_ := zB.mk (hbox); have n7_ := zB.mk ((by rw [hg]; exact (zM (by repeat (first | (with_reducible first | exact HB.out | apply zJ | apply zF | apply zH | refine zE ?_ GE115.out | refine zE ?_ GE116.out | refine zE ?_ GE117.out | refine zE ?_ GE118.out | refine zE ?_ GE120.out) | exact HB.out))) : w.heap.size ≤ gb126)); have n8_ := zB.mk ((by rw [hg]; exact (zM (by repeat (first | (with_reducible first | exact HB.out | apply zJ | apply zF | apply zH | refine zE ?_ GE115.out | refine zE ?_ GE116.out | refine zE ?_ GE117.out | refine zE ?_ GE118.out | refine zE ?_ GE120.out) | exact HB.out))) : w.heap.size ≤ gb126)); have n9_ := zB.mk ((by rw [hg]; exact Nat.ne_of_lt (blk_lt (g := gb115) (o := .cells #[.slice (some ad119) l0_0.length c0_0, .slice A0_1 l0_1.length c0_1] 31 (0, 0)) (by (with_reducible repeat (first | refine zC ?_ _ | refine zD ?_ | refine zA ?_ _)); exact BK115.out)) : gb115 ≠ gb126)); have n10_ := zB.mk ((by rw [hg]; exact Nat.ne_of_gt (blk_lt (g := gb115) (o := .cells #[.slice (some ad119) l0_0.length c0_0, .slice A0_1 l0_1.length c0_1] 31 (0, 0)) (by (with_reducible repeat (first | refine zC ?_ _ | refine zD ?_ | refine zA ?_ _)); exact BK115.out)) : gb126 ≠ gb115)); have n11_ := zB.mk ((by rw [hg]; exact Nat.ne_of_lt (blk_lt (g := gb116) (o := .cells #[.int .i64 a5_0, .int .i64 a5_1, .int .u8 a5_2, .int .i64 a5_3, .int .i64 a5_4, .float .f64 a5_5] 35 (0, 0)) (by (with_reducible repeat (first | refine zC ?_ _ | refine zD ?_ | refine zA ?_ _)); exact BK116.out)) : gb116 ≠ gb126)); have n12_ := zB.mk ((by rw [hg]; exact Nat.ne_of_gt (blk_lt (g := gb116) (o := .cells #[.int .i64 a5_0, .int .i64 a5_1, .int .u8 a5_2, .int .i64 a5_3, .int .i64 a5_4, .float .f64 a5_5] 35 (0, 0)) (by (with_reducible repeat (first | refine zC ?_ _ | refine zD ?_ | refine zA ?_ _)); exact BK116.out)) : gb126 ≠ gb116)); have n13_ := zB.mk ((by rw [hg]; exact Nat.ne_of_lt (blk_lt (g := gb117) (o := .cells #[.int .i64 0, .int .i64 0] 65 (0, 0)) (by (with_reducible repeat (first | refine zC ?_ _ | refine zD ?_ | refine zA ?_ _)); exact BK117.out)) : gb117 ≠ gb126)); have n14_ := zB.mk ((by rw [hg]; exact Nat.ne_of_gt (blk_lt (g := gb117) (o := .cells #[.int .i64 0, .int .i64 0] 65 (0, 0)) (by (with_reducible repeat (first | refine zC ?_ _ | refine zD ?_ | refine zA ?_ _)); exact BK117.out)) : gb126 ≠ gb117)); have n15_ := zB.mk ((by rw [hg]; exact Nat.ne_of_lt (blk_lt (g := gb118) (o := .cells #[.int .i64 x119000_1, .int .i64 x119001_1] 65 (0, 0)) (by (with_reducible repeat (first | refine zC ?_ _ | refine zD ?_ | refine zA ?_ _)); exact BK118.out)) : gb118 ≠ gb126)); have n16_ := zB.mk ((by rw [hg]; exact Nat.ne_of_gt (blk_lt (g := gb118) (o := .cells #[.int .i64 x119000_1, .int .i64 x119001_1] 65 (0, 0)) (by (with_reducible repeat (first | refine zC ?_ _ | refine zD ?_ | refine zA ?_ _)); exact BK118.out)) : gb126 ≠ gb118)); have n17_ := zB.mk ((by rw [hg]; exact Nat.ne_of_lt (blk_lt (g := gb120) (o := .cells #[.int .i64 ((rd_T62 l0_0 (ji17)).f0), .int .i64 ((rd_T62 l0_0 (ji17)).f1), .int .i64 ((rd_T62 l0_0 (ji17)).f2), .int .u8 ((rd_T62 l0_0 (ji17)).f3)] 62 (0, 0)) (by (with_reducible repeat (first | refine zC ?_ _ | refine zD ?_ | refine zA ?_ _)); exact BK120.out)) : gb120 ≠ gb126)); have n18_ := zB.mk ((by rw [hg]; exact Nat.ne_of_gt (blk_lt (g := gb120) (o := .cells #[.int .i64 ((rd_T62 l0_0 (ji17)).f0), .int .i64 ((rd_T62 l0_0 (ji17)).f1), .int .i64 ((rd_T62 l0_0 (ji17)).f2), .int .u8 ((rd_T62 l0_0 (ji17)).f3)] 62 (0, 0)) (by (with_reducible repeat (first | refine zC ?_ _ | refine zD ?_ | refine zA ?_ _)); exact BK120.out)) : gb126 ≠ gb120)); clear BK115; clear BK116; clear BK117; clear BK118; clear BK120; clear HB; have BK115 := n0_; have BK116 := n1_; have BK117 := n2_; have BK118 := n3_; have BK120 := n4_; have HB := n5_; have BK126 := n6_; have GW126 := n7_; have GE126 := n8_; have NB115_126 := n9_; have NB126_115 := n10_; have NB116_126 := n11_; have NB126_116 := n12_; have NB117_126 := n13_; have NB126_117 := n14_; have NB118_126 := n15_; have NB126_118 := n16_; have NB120_126 := n17_; have NB126_120 := n18_; clear n0_ n1_ n2_ n3_ n4_ n5_ n6_ n7_ n8_ n9_ n10_ n11_ n12_ n13_ n14_ n15_ n16_ n17_ n18_; clear hb hbox hg; have hnb79 := NB126_115.out; have hnc79 := NB115_126.out; have hnb80 := NB126_116.out; have hnc80 := NB116_126.out; have hnb81 := NB126_117.out; have hnc81 := NB117_126.out; have hnb82 := NB126_118.out; have hnc82 := NB118_126.out; have hnb83 := NB126_120.out; have hnc83 := NB120_126.out; have hcz84_0 : w78.cell? ⟨gb126, 0, none⟩ = some (.int .i64 0) := (zG BK126.out 0).trans rfl; have hcz84_1 : w78.cell? ⟨gb126, 1, none⟩ = some (.int .i64 0) := (zG BK126.out 1).trans rfl; have hfz84_0 := zI BK126.out 0; have hfz84_1 := zI BK126.out 1) | ((with_reducible refine gate_store (t := 65) (p := 22) rfl ?_); refine store_event (t := 65) (p := 22) (v := ?vo_w85) (w1 := ((w78.setCell ⟨gb126, 0, none⟩ (.int .i64 ((rd_T65 l4 (ji64)).f0))).setCell ⟨gb126, 1, none⟩ (.int .i64 ((rd_T65 l4 (ji64)).f1)))) ?hg ?ho ?hn ?hr ?_; (case ho => rfl); (case hg => rfl); (case hn => rfl); (case hr => first | (go_simp; done) | (go_simp; rfl)); intro w85 hw; have n0_ : zB (w85.heap[gb115]? = some (.cells #[.slice (some ad119) l0_0.length c0_0, .slice A0_1 l0_1.length c0_1] 31 (0, 0))) := ⟨(by rw [hw]; exact (by (with_reducible repeat (first | refine zC ?_ _ | refine zD ?_ | refine zA ?_ _)); refine zN ?_ NB115_126.out _; (with_reducible repeat (first | refine zC ?_ _ | refine zD ?_ | refine zA ?_ _)); refine zN ?_ NB115_126.out _; (with_reducible repeat (first | refine zC ?_ _ | refine zD ?_ | refine zA ?_ _)); exact BK115.out))⟩; have n1_ : zB (w85.heap[gb116]? = some (.cells #[.int .i64 a5_0, .int .i64 a5_1, .int .u8 a5_2, .int .i64 a5_3, .int .i64 a5_4, .float .f64 a5_5] 35 (0, 0))) := ⟨(by rw [hw]; exact (by (with_reducible repeat (first | refine zC ?_ _ | refine zD ?_ | refine zA ?_ _)); refine zN ?_ NB116_126.out _; (with_reducible repeat (first | refine zC ?_ _ | refine zD ?_ | refine zA ?_ _)); refine zN ?_ NB116_126.out _; (with_reducible repeat (first | refine zC ?_ _ | refine zD ?_ | refine zA ?_ _)); exact BK116.out))⟩; have n2_ : zB (w85.heap[gb117]? = some (.cells #[.int .i64 0, .int .i64 0] 65 (0, 0))) := ⟨(by rw [hw]; exact (by (with_reducible repeat (first | refine zC ?_ _ | refine zD ?_ | refine zA ?_ _)); refine zN ?_ NB117_126.out _; (with_reducible repeat (first | refine zC ?_ _ | refine zD ?_ | refine zA ?_ _)); refine zN ?_ NB117_126.out _; (with_reducible repeat (first | refine zC ?_ _ | refine zD ?_ | refine zA ?_ _)); exact BK117.out))⟩; have n3_ : zB (w85.heap[gb118]? = some (.cells #[.int .i64 x119000_1, .int .i64 x119001_1] 65 (0, 0))) := ⟨(by rw [hw]; exact (by (with_reducible repeat (first | refine zC ?_ _ | refine zD ?_ | refine zA ?_ _)); refine zN ?_ NB118_126.out _; (with_reducible repeat (first | refine zC ?_ _ | refine zD ?_ | refine zA ?_ _)); refine zN ?_ NB118_126.out _; (with_reducible repeat (first | refine zC ?_ _ | refine zD ?_ | refine zA ?_ _)); exact BK118.out))⟩; have n4_ : zB (w85.heap[gb120]? = some (.cells #[.int .i64 ((rd_T62 l0_0 (ji17)).f0), .int .i64 ((rd_T62 l0_0 (ji17)).f1), .int .i64 ((rd_T62 l0_0 (ji17)).f2), .int .u8 ((rd_T62 l0_0 (ji17)).f3)] 62 (0, 0))) := ⟨(by rw [hw]; exact (by (with_reducible repeat (first | refine zC ?_ _ | refine zD ?_ | refine zA ?_ _)); refine zN ?_ NB120_126.out _; (with_reducible repeat (first | refine zC ?_ _ | refine zD ?_ | refine zA ?_ _)); refine zN ?_ NB120_126.out _; (with_reducible repeat (first | refine zC ?_ _ | refine zD ?_ | refine zA ?_ _)); exact BK120.out))⟩; have n5_ : zB (w85.heap[gb126]? = some (.cells #[.int .i64 ((rd_T65 l4 (ji64)).f0), .int .i64 ((rd_T65 l4 (ji64)).f1)] 65 (0, 0))) := ⟨(by rw [hw]; exact (by (with_reducible repeat (first | refine zC ?_ _ | refine zD ?_ | refine zA ?_ _)); refine blk_put (cs := #[.int .i64 ((rd_T65 l4 (ji64)).f0), .int .i64 0]) ?_ 1 _ rfl; (with_reducible repeat (first | refine zC ?_ _ | refine zD ?_ | refine zA ?_ _)); refine blk_put (cs := #[.int .i64 0, .int .i64 0]) ?_ 0 _ rfl; (with_reducible repeat (first | refine zC ?_ _ | refine zD ?_ | refine zA ?_ _)); exact BK126.out))⟩; have n6_ : zB (Below w.heap.size w w85) := ⟨(by rw [hw]; exact (by repeat (first | (with_reducible first | exact HB.out | apply zJ | apply zF | apply zH | refine zE ?_ GE115.out | refine zE ?_ GE116.out | refine zE ?_ GE117.out | refine zE ?_ GE118.out | refine zE ?_ GE120.out | refine zE ?_ GE126.out) | exact HB.out)))⟩; clear hw; clear BK115; clear BK116; clear BK117; clear BK118; clear BK120; clear BK126; clear HB; have BK115 := n0_; have BK116 := n1_; have BK117 := n2_; have BK118 := n3_; have BK120 := n4_; have BK126 := n5_; have HB := n6_; clear n0_ n1_ n2_ n3_ n4_ n5_ n6_))
        (try simp only [Act.put, sA_, sB_, sC_])
        go_cut [86] (fun v86 wc => ∃ (kq : Nat) (x86_66 : Bool), v86 = .bool x86_66 ∧ zB (best_next.j3 kq a1 a2 a3 l4 t121 x15_40 x16_20 x17_40 x18_1 t123 x86_66 l0_0 l0_1 a5_0 a5_1 a5_2 a5_3 a5_4 a5_5 x119000_1 x119001_1 ((rd_T65 l4 (ji64)).f0) ((rd_T65 l4 (ji64)).f1) = some (r1, r2)) ∧ zB (kq ≤ kj40) ∧ zB (wc.heap[gb115]? = some (.cells #[(.slice (some ad119) l0_0.length c0_0), (.slice A0_1 l0_1.length c0_1)] 31 (0, 0))) ∧ zB (wc.heap[gb116]? = some (.cells #[.int .i64 a5_0, .int .i64 a5_1, .int .u8 a5_2, .int .i64 a5_3, .int .i64 a5_4, .float .f64 a5_5] 35 (0, 0))) ∧ zB (wc.heap[gb117]? = some (.cells #[.int .i64 0, .int .i64 0] 65 (0, 0))) ∧ zB (wc.heap[gb118]? = some (.cells #[.int .i64 x119000_1, .int .i64 x119001_1] 65 (0, 0))) ∧ zB (wc.heap[gb120]? = some (.cells #[.int .i64 ((rd_T62 l0_0 (ji17)).f0), .int .i64 ((rd_T62 l0_0 (ji17)).f1), .int .i64 ((rd_T62 l0_0 (ji17)).f2), .int .u8 ((rd_T62 l0_0 (ji17)).f3)] 62 (0, 0))) ∧ zB (wc.heap[gb126]? = some (.cells #[.int .i64 ((rd_T65 l4 (ji64)).f0), .int .i64 ((rd_T65 l4 (ji64)).f1)] 65 (0, 0))) ∧ zB (Below w.heap.size w wc))
        case first =>
          have H := HC67.out; clear HC67; by_cases c86 : t124 = true
          rotate_left
          · replace c86 := Bool.eq_false_iff.mpr c86
            subst c86; have H1 : (best_next.j3 kj40 a1 a2 a3 l4 t121 x15_40 x16_20 x17_40 x18_1 t123 true l0_0 l0_1 a5_0 a5_1 a5_2 a5_3 a5_4 a5_5 x119000_1 x119001_1 ((rd_T65 l4 (ji64)).f0) ((rd_T65 l4 (ji64)).f1)) = some (r1, r2) := by rw [if_neg (show ¬ (false = true) by decide)] at H; exact H
            clear H; have H := H1; clear H1; have H' := zB.mk H
            clear H; go_wp2
            go_meet
            case rel => exact ⟨_, (true), (by first | rfl | (simp; done) | (simp [*]; done)), H', ⟨by have := HK1.out; have := HJ20.out; have := HJ40.out; first | omega | exact Nat.le_refl _⟩, ⟨by (with_reducible repeat (first | refine zC ?_ _ | refine zD ?_ | refine zA ?_ _)); exact BK115.out⟩, ⟨by (with_reducible repeat (first | refine zC ?_ _ | refine zD ?_ | refine zA ?_ _)); exact BK116.out⟩, ⟨by (with_reducible repeat (first | refine zC ?_ _ | refine zD ?_ | refine zA ?_ _)); exact BK117.out⟩, ⟨by (with_reducible repeat (first | refine zC ?_ _ | refine zD ?_ | refine zA ?_ _)); exact BK118.out⟩, ⟨by (with_reducible repeat (first | refine zC ?_ _ | refine zD ?_ | refine zA ?_ _)); exact BK120.out⟩, ⟨by (with_reducible repeat (first | refine zC ?_ _ | refine zD ?_ | refine zA ?_ _)); exact BK126.out⟩, ⟨by repeat (first | (with_reducible first | exact HB.out | apply zJ | apply zF | apply zH | refine zE ?_ GE115.out | refine zE ?_ GE116.out | refine zE ?_ GE117.out | refine zE ?_ GE118.out | refine zE ?_ GE120.out | refine zE ?_ GE126.out) | exact HB.out)⟩⟩
          subst c86; have H1 : (if x18_1 < a3 then (best_next.j3 kj40 a1 a2 a3 l4 t121 x15_40 x16_20 x17_40 x18_1 t123 (decide (((rd_T65 l4 (ji64)).f1) < 0)) l0_0 l0_1 a5_0 a5_1 a5_2 a5_3 a5_4 a5_5 x119000_1 x119001_1 ((rd_T65 l4 (ji64)).f0) ((rd_T65 l4 (ji64)).f1)) else (best_next.j3 kj40 a1 a2 a3 l4 t121 x15_40 x16_20 x17_40 x18_1 t123 false l0_0 l0_1 a5_0 a5_1 a5_2 a5_3 a5_4 a5_5 x119000_1 x119001_1 ((rd_T65 l4 (ji64)).f0) ((rd_T65 l4 (ji64)).f1))) = some (r1, r2) := by rw [if_pos rfl] at H; exact H
          clear H; have H := H1; clear H1; by_cases c87 : x18_1 < a3
          rotate_left
          · rw [if_neg c87] at H
            have c87b0 : decide (x18_1 < a3) = false := decide_eq_false c87
            clear c87; (first | rw [c87b0] | (simp only [i64_w, i32_w]; rw [c87b0]) | skip)
            have H' := zB.mk H
            clear H; go_wp2
            go_meet
            case rel => exact ⟨_, (false), (by first | rfl | (simp; done) | (simp [*]; done)), H', ⟨by have := HK1.out; have := HJ20.out; have := HJ40.out; first | omega | exact Nat.le_refl _⟩, ⟨by (with_reducible repeat (first | refine zC ?_ _ | refine zD ?_ | refine zA ?_ _)); exact BK115.out⟩, ⟨by (with_reducible repeat (first | refine zC ?_ _ | refine zD ?_ | refine zA ?_ _)); exact BK116.out⟩, ⟨by (with_reducible repeat (first | refine zC ?_ _ | refine zD ?_ | refine zA ?_ _)); exact BK117.out⟩, ⟨by (with_reducible repeat (first | refine zC ?_ _ | refine zD ?_ | refine zA ?_ _)); exact BK118.out⟩, ⟨by (with_reducible repeat (first | refine zC ?_ _ | refine zD ?_ | refine zA ?_ _)); exact BK120.out⟩, ⟨by (with_reducible repeat (first | refine zC ?_ _ | refine zD ?_ | refine zA ?_ _)); exact BK126.out⟩, ⟨by repeat (first | (with_reducible first | exact HB.out | apply zJ | apply zF | apply zH | refine zE ?_ GE115.out | refine zE ?_ GE116.out | refine zE ?_ GE117.out | refine zE ?_ GE118.out | refine zE ?_ GE120.out | refine zE ?_ GE126.out) | exact HB.out)⟩⟩
          rw [if_pos c87] at H; have c87b0 : decide (x18_1 < a3) = true := decide_eq_true c87
          clear c87; (first | rw [c87b0] | (simp only [i64_w, i32_w]; rw [c87b0]) | skip)
          have H' := zB.mk H
          clear H; have hnb88 := NB126_115.out; have hnc88 := NB115_126.out; have hnb89 := NB126_116.out; have hnc89 := NB116_126.out; have hnb90 := NB126_117.out; have hnc90 := NB117_126.out; have hnb91 := NB126_118.out; have hnc91 := NB118_126.out; have hnb92 := NB126_120.out; have hnc92 := NB120_126.out; have hcz93_0 : w85.cell? ⟨gb126, 0, none⟩ = some (.int .i64 ((rd_T65 l4 (ji64)).f0)) := (zG BK126.out 0).trans rfl
          have hcz93_1 : w85.cell? ⟨gb126, 1, none⟩ = some (.int .i64 ((rd_T65 l4 (ji64)).f1)) := (zG BK126.out 1).trans rfl
          have hfz93_0 := zI BK126.out 0; have hfz93_1 := zI BK126.out 1; go_wp2
          go_meet
          case rel => exact ⟨_, (decide (((rd_T65 l4 (ji64)).f1) < 0)), (by first | rfl | (simp; done) | (simp only [← hji64] <;> (first | rfl | simp)) | (simp [*]; done)), H', ⟨by have := HK1.out; have := HJ20.out; have := HJ40.out; first | omega | exact Nat.le_refl _⟩, ⟨by (with_reducible repeat (first | refine zC ?_ _ | refine zD ?_ | refine zA ?_ _)); exact BK115.out⟩, ⟨by (with_reducible repeat (first | refine zC ?_ _ | refine zD ?_ | refine zA ?_ _)); exact BK116.out⟩, ⟨by (with_reducible repeat (first | refine zC ?_ _ | refine zD ?_ | refine zA ?_ _)); exact BK117.out⟩, ⟨by (with_reducible repeat (first | refine zC ?_ _ | refine zD ?_ | refine zA ?_ _)); exact BK118.out⟩, ⟨by (with_reducible repeat (first | refine zC ?_ _ | refine zD ?_ | refine zA ?_ _)); exact BK120.out⟩, ⟨by (with_reducible repeat (first | refine zC ?_ _ | refine zD ?_ | refine zA ?_ _)); exact BK126.out⟩, ⟨by repeat (first | (with_reducible first | exact HB.out | apply zJ | apply zF | apply zH | refine zE ?_ GE115.out | refine zE ?_ GE116.out | refine zE ?_ GE117.out | refine zE ?_ GE118.out | refine zE ?_ GE120.out | refine zE ?_ GE126.out) | exact HB.out)⟩⟩
        clear HC67; try clear c1
        try clear p1
        try clear q1
        try clear hx1
        try clear c2
        try clear p2
        try clear c3
        try clear c4
        try clear c5
        try clear c6
        try clear p6
        try clear c7
        try clear c8
        try clear c9
        try clear c11
        try clear p11
        try clear q11
        try clear hx11
        try clear c12
        try clear p12
        try clear q12
        try clear hx12
        try clear c13
        try clear c16
        try clear c16b0
        try clear c18
        try clear c18b0
        try clear c19
        try clear c19b0
        try clear c22
        try clear c23
        try clear c24
        try clear c27
        try clear c28
        try clear c29
        try clear c30
        try clear c34
        try clear c35
        try clear c37
        try clear c38
        try clear c39
        try clear c39b0
        try clear c39b1
        try clear c42
        try clear c43
        try clear c44
        try clear c45
        try clear c48
        try clear c48b0
        try clear c48b1
        try clear c49
        try clear c49b0
        try clear c50
        try clear c51
        try clear c52
        try clear c53
        try clear c55
        try clear c56
        try clear c57
        try clear c59
        try clear c60
        try clear p64
        try clear c65
        try clear c65b0
        try clear c66
        try clear c66b0
        try clear c68
        try clear c69
        try clear c70
        try clear c71
        try clear c73
        try clear c74
        try clear c75
        try clear c79
        try clear c80
        try clear c81
        try clear c82
        try clear c83
        try clear c86
        try clear c87
        try clear c87b0
        try clear c88
        try clear c89
        try clear c90
        try clear c91
        try clear c92
        try clear hcz14_0
        try clear hcz14_1
        try clear hcz25_0
        try clear hcz25_1
        try clear hcz31_0
        try clear hcz31_1
        try clear hcz31_2
        try clear hcz31_3
        try clear hcz33_0
        try clear hcz33_1
        try clear hcz33_2
        try clear hcz33_3
        try clear hcz36_0
        try clear hcz36_1
        try clear hcz36_2
        try clear hcz36_3
        try clear hcz36_4
        try clear hcz36_5
        try clear hcz38_0
        try clear hcz38_1
        try clear hcz38_2
        try clear hcz38_3
        try clear hcz46_0
        try clear hcz46_1
        try clear hcz54_0
        try clear hcz54_1
        try clear hcz54_2
        try clear hcz54_3
        try clear hcz54_4
        try clear hcz54_5
        try clear hcz58_0
        try clear hcz58_1
        try clear hcz61_0
        try clear hcz61_1
        try clear hcz72_0
        try clear hcz72_1
        try clear hcz72_2
        try clear hcz72_3
        try clear hcz72_4
        try clear hcz72_5
        try clear hcz76_0
        try clear hcz76_1
        try clear hcz84_0
        try clear hcz84_1
        try clear hcz93_0
        try clear hcz93_1
        try clear hfz14_0
        try clear hfz14_1
        try clear hfz25_0
        try clear hfz25_1
        try clear hfz31_0
        try clear hfz31_1
        try clear hfz31_2
        try clear hfz31_3
        try clear hfz33_0
        try clear hfz33_1
        try clear hfz33_2
        try clear hfz33_3
        try clear hfz36_0
        try clear hfz36_1
        try clear hfz36_2
        try clear hfz36_3
        try clear hfz36_4
        try clear hfz36_5
        try clear hfz38_0
        try clear hfz38_1
        try clear hfz38_2
        try clear hfz38_3
        try clear hfz46_0
        try clear hfz46_1
        try clear hfz54_0
        try clear hfz54_1
        try clear hfz54_2
        try clear hfz54_3
        try clear hfz54_4
        try clear hfz54_5
        try clear hfz58_0
        try clear hfz58_1
        try clear hfz61_0
        try clear hfz61_1
        try clear hfz72_0
        try clear hfz72_1
        try clear hfz72_2
        try clear hfz72_3
        try clear hfz72_4
        try clear hfz72_5
        try clear hfz76_0
        try clear hfz76_1
        try clear hfz84_0
        try clear hfz84_1
        try clear hfz93_0
        try clear hfz93_1
        try clear hx119_0
        try clear hx119_1
        try clear hx119_2
        try clear hx119_3
        try clear hx125_0
        try clear hx125_1
        try clear p1
        try clear p11
        try clear p119
        try clear p125
        try clear p2
        try clear p6
        try clear q1
        try clear q11
        try clear q119
        try clear q125
        obtain ⟨kq, x86_66, rfl, HA, HJ66, BK115, BK116, BK117, BK118, BK120, BK126, HB⟩ := hcut; cases kq with
        | zero => exact absurd HA.out (by simp [best_next.j3])
        | succ kj66 =>
          have H := HA.out; clear HA; simp only [best_next.j3] at H; by_cases c94 : x86_66 = true
          · subst c94
            have H1 : (best_next.l0 kj66 a1 a2 a3 l4 t121 x15_40 x16_20 x17_40 (wrap64 (x18_1 + 1)) l0_0 l0_1 a5_0 a5_1 a5_2 a5_3 a5_4 a5_5 x119000_1 x119001_1) = some (r1, r2) := by rw [if_pos rfl] at H; exact H
            clear H; have H := H1; clear H1; have H' := zB.mk H
            clear H; go_wp2
            go_roundg kj66
            case measure => have := HK1.out; have := HJ20.out; have := HJ40.out; have := HJ66.out; omega
            case rel => exact ⟨(t121), (x15_40), (x16_20), (x17_40), (wrap64 (x18_1 + 1)), (x119000_1), (x119001_1), (by first | rfl | (simp; done) | (simp [*]; done)), (by first | rfl | (simp; done) | (simp [*]; done)), (by first | rfl | (simp; done) | (simp [*]; done)), (by first | rfl | (simp; done) | (simp [*]; done)), (by first | rfl | (simp; done) | (simp [*]; done)), H', ⟨by have := HK1.out; have := HJ20.out; have := HJ40.out; have := HJ66.out; omega⟩, ⟨by (with_reducible repeat (first | refine zC ?_ _ | refine zD ?_ | refine zA ?_ _)); exact BK115.out⟩, ⟨by (with_reducible repeat (first | refine zC ?_ _ | refine zD ?_ | refine zA ?_ _)); exact BK116.out⟩, ⟨by (with_reducible repeat (first | refine zC ?_ _ | refine zD ?_ | refine zA ?_ _)); exact BK117.out⟩, ⟨by (with_reducible repeat (first | refine zC ?_ _ | refine zD ?_ | refine zA ?_ _)); exact BK118.out⟩, ⟨by repeat (first | (with_reducible first | exact HB.out | apply zJ | apply zF | apply zH | refine zE ?_ GE115.out | refine zE ?_ GE116.out | refine zE ?_ GE117.out | refine zE ?_ GE118.out | refine zE ?_ GE120.out | refine zE ?_ GE126.out) | exact HB.out)⟩⟩
          replace c94 := Bool.eq_false_iff.mpr c94; subst c94; have H1 : (if t123 = 3 then ((best_price.f kj66 l0_0 l0_1 a1 t123 (wrap64 (x15_40 + 1)) x17_40 (x18_1 == a3) a5_0 a5_1 a5_2 a5_3 a5_4 a5_5).bind fun bt127 => (if bt127.2 = true then (if x119001_1 < 0 then (best_next.l0 kj66 a1 a2 a3 l4 t121 x15_40 x16_20 x17_40 (wrap64 (x18_1 + 1)) l0_0 l0_1 a5_0 a5_1 a5_2 a5_3 a5_4 a5_5 (wrap64 (bt127.1 + ((rd_T65 l4 (ji64)).f0))) x18_1) else (if (wrap64 (bt127.1 + ((rd_T65 l4 (ji64)).f0))) < x119000_1 then (best_next.l0 kj66 a1 a2 a3 l4 t121 x15_40 x16_20 x17_40 (wrap64 (x18_1 + 1)) l0_0 l0_1 a5_0 a5_1 a5_2 a5_3 a5_4 a5_5 (wrap64 (bt127.1 + ((rd_T65 l4 (ji64)).f0))) x18_1) else (best_next.l0 kj66 a1 a2 a3 l4 t121 x15_40 x16_20 x17_40 (wrap64 (x18_1 + 1)) l0_0 l0_1 a5_0 a5_1 a5_2 a5_3 a5_4 a5_5 x119000_1 x119001_1))) else (best_next.l0 kj66 a1 a2 a3 l4 t121 x15_40 x16_20 x17_40 (wrap64 (x18_1 + 1)) l0_0 l0_1 a5_0 a5_1 a5_2 a5_3 a5_4 a5_5 x119000_1 x119001_1))) else ((best_price.f kj66 l0_0 l0_1 a1 t123 x15_40 x17_40 (x18_1 == a3) a5_0 a5_1 a5_2 a5_3 a5_4 a5_5).bind fun bt129 => (if bt129.2 = true then (if x119001_1 < 0 then (best_next.l0 kj66 a1 a2 a3 l4 t121 x15_40 x16_20 x17_40 (wrap64 (x18_1 + 1)) l0_0 l0_1 a5_0 a5_1 a5_2 a5_3 a5_4 a5_5 (wrap64 (bt129.1 + ((rd_T65 l4 (ji64)).f0))) x18_1) else (if (wrap64 (bt129.1 + ((rd_T65 l4 (ji64)).f0))) < x119000_1 then (best_next.l0 kj66 a1 a2 a3 l4 t121 x15_40 x16_20 x17_40 (wrap64 (x18_1 + 1)) l0_0 l0_1 a5_0 a5_1 a5_2 a5_3 a5_4 a5_5 (wrap64 (bt129.1 + ((rd_T65 l4 (ji64)).f0))) x18_1) else (best_next.l0 kj66 a1 a2 a3 l4 t121 x15_40 x16_20 x17_40 (wrap64 (x18_1 + 1)) l0_0 l0_1 a5_0 a5_1 a5_2 a5_3 a5_4 a5_5 x119000_1 x119001_1))) else (best_next.l0 kj66 a1 a2 a3 l4 t121 x15_40 x16_20 x17_40 (wrap64 (x18_1 + 1)) l0_0 l0_1 a5_0 a5_1 a5_2 a5_3 a5_4 a5_5 x119000_1 x119001_1)))) = some (r1, r2) := by rw [if_neg (show ¬ (false = true) by decide)] at H; exact H
          clear H; have H := H1; clear H1; by_cases c95 : t123 = 3
          rotate_left
          · rw [if_neg c95] at H
            have c95b0 : (t123 == 3) = false := beq_eq_false_iff_ne.mpr c95
            have c95b1 : (t123 != 3) = true := bne_iff_ne.mpr c95
            replace H := Option.bind_eq_some_iff.mp H; obtain ⟨⟨t129, t130⟩, A1710, H⟩ := H; replace H : (if t130 = true then (if x119001_1 < 0 then (best_next.l0 kj66 a1 a2 a3 l4 t121 x15_40 x16_20 x17_40 (wrap64 (x18_1 + 1)) l0_0 l0_1 a5_0 a5_1 a5_2 a5_3 a5_4 a5_5 (wrap64 (t129 + ((rd_T65 l4 (ji64)).f0))) x18_1) else (if (wrap64 (t129 + ((rd_T65 l4 (ji64)).f0))) < x119000_1 then (best_next.l0 kj66 a1 a2 a3 l4 t121 x15_40 x16_20 x17_40 (wrap64 (x18_1 + 1)) l0_0 l0_1 a5_0 a5_1 a5_2 a5_3 a5_4 a5_5 (wrap64 (t129 + ((rd_T65 l4 (ji64)).f0))) x18_1) else (best_next.l0 kj66 a1 a2 a3 l4 t121 x15_40 x16_20 x17_40 (wrap64 (x18_1 + 1)) l0_0 l0_1 a5_0 a5_1 a5_2 a5_3 a5_4 a5_5 x119000_1 x119001_1))) else (best_next.l0 kj66 a1 a2 a3 l4 t121 x15_40 x16_20 x17_40 (wrap64 (x18_1 + 1)) l0_0 l0_1 a5_0 a5_1 a5_2 a5_3 a5_4 a5_5 x119000_1 x119001_1)) = some (r1, r2) := H; have A171 := zB.mk A1710; clear A1710; by_cases c172 : t130 = true
            rotate_left
            · replace c172 := Bool.eq_false_iff.mpr c172
              subst c172; have H1 : (best_next.l0 kj66 a1 a2 a3 l4 t121 x15_40 x16_20 x17_40 (wrap64 (x18_1 + 1)) l0_0 l0_1 a5_0 a5_1 a5_2 a5_3 a5_4 a5_5 x119000_1 x119001_1) = some (r1, r2) := by rw [if_neg (show ¬ (false = true) by decide)] at H; exact H
              clear H; have H := H1; clear H1; have H' := zB.mk H
              clear H; have hnb234 := NB115_116.out; have hnc234 := NB116_115.out; have hnb235 := NB115_117.out; have hnc235 := NB117_115.out; have hnb236 := NB115_118.out; have hnc236 := NB118_115.out; have hnb237 := NB115_120.out; have hnc237 := NB120_115.out; have hnb238 := NB115_126.out; have hnc238 := NB126_115.out; have hcz239_0 : wc.cell? ⟨gb115, 0, none⟩ = some (.slice (some ad119) l0_0.length c0_0) := (zG BK115.out 0).trans rfl
              have hcz239_1 : wc.cell? ⟨gb115, 1, none⟩ = some (.slice A0_1 l0_1.length c0_1) := (zG BK115.out 1).trans rfl
              have hfz239_0 := zI BK115.out 0; have hfz239_1 := zI BK115.out 1; have hnb240 := NB116_117.out; have hnc240 := NB117_116.out; have hnb241 := NB116_118.out; have hnc241 := NB118_116.out; have hnb242 := NB116_120.out; have hnc242 := NB120_116.out; have hnb243 := NB116_126.out; have hnc243 := NB126_116.out; have hcz244_0 : wc.cell? ⟨gb116, 0, none⟩ = some (.int .i64 a5_0) := (zG BK116.out 0).trans rfl
              have hcz244_1 : wc.cell? ⟨gb116, 1, none⟩ = some (.int .i64 a5_1) := (zG BK116.out 1).trans rfl
              have hcz244_2 : wc.cell? ⟨gb116, 2, none⟩ = some (.int .u8 a5_2) := (zG BK116.out 2).trans rfl
              have hcz244_3 : wc.cell? ⟨gb116, 3, none⟩ = some (.int .i64 a5_3) := (zG BK116.out 3).trans rfl
              have hcz244_4 : wc.cell? ⟨gb116, 4, none⟩ = some (.int .i64 a5_4) := (zG BK116.out 4).trans rfl
              have hcz244_5 : wc.cell? ⟨gb116, 5, none⟩ = some (.float .f64 a5_5) := (zG BK116.out 5).trans rfl
              have hfz244_0 := zI BK116.out 0; have hfz244_1 := zI BK116.out 1; have hfz244_2 := zI BK116.out 2; have hfz244_3 := zI BK116.out 3; have hfz244_4 := zI BK116.out 4; have hfz244_5 := zI BK116.out 5; go_wp2_with (first | ((with_reducible refine gate_callee (f := 31) rfl ?_); refine goesL_ (some 102) rfl rfl Try.func31 (by kernel_rfl) rfl #[.agg #[.slice (some ad119) l0_0.length c0_0, .slice A0_1 l0_1.length c0_1], .int .i64 a1, .int .u8 t123, .int .i64 x15_40, .int .i64 x17_40, .bool (x18_1 == a3), .agg #[.int .i64 a5_0, .int .i64 a5_1, .int .u8 a5_2, .int .i64 a5_3, .int .i64 a5_4, .float .f64 a5_5]] rfl (by (try simp only [List.map_toArray, List.map_cons, List.map_nil]); first | done | rfl | (simp only [List.length_drop, List.length_take]; rfl)) ?_; (with_reducible refine (best_price.calls kj66 _ _ l0_0 _ _ l0_1 a1 t123 x15_40 x17_40 (x18_1 == a3) a5_0 a5_1 a5_2 a5_3 a5_4 a5_5 t129 false _ ?side1 ?side2 ?side3 ?side4 A171.out).mono ?_); (case side1 => repeat (first | exact (Kd.C_below HR0_0.out HB.out) | (with_reducible refine Kd.C_alloc ?_ _) | (with_reducible refine Kd.C_drewN ?_ _) | (with_reducible refine Kd.C_drew ?_))); (case side2 => exact HC0_0.out); (case side3 => repeat (first | exact (Kd.C_below HR0_1.out HB.out) | (with_reducible refine Kd.C_alloc ?_ _) | (with_reducible refine Kd.C_drewN ?_ _) | (with_reducible refine Kd.C_drew ?_))); (case side4 => exact HC0_1.out); rintro e w245 ⟨rfl, hb⟩; refine ⟨_, rfl, ?_⟩; have n0_ := zB.mk (zK (g := gb115) (o := .cells #[.slice (some ad119) l0_0.length c0_0, .slice A0_1 l0_1.length c0_1] 31 (0, 0)) (by (with_reducible repeat (first | refine zC ?_ _ | refine zD ?_ | refine zA ?_ _)); exact BK115.out) hb); have n1_ := zB.mk (zK (g := gb116) (o := .cells #[.int .i64 a5_0, .int .i64 a5_1, .int .u8 a5_2, .int .i64 a5_3, .int .i64 a5_4, .float .f64 a5_5] 35 (0, 0)) (by (with_reducible repeat (first | refine zC ?_ _ | refine zD ?_ | refine zA ?_ _)); exact BK116.out) hb); have n2_ := zB.mk (zK (g := gb117) (o := .cells #[.int .i64 0, .int .i64 0] 65 (0, 0)) (by (with_reducible repeat (first | refine zC ?_ _ | refine zD ?_ | refine zA ?_ _)); exact BK117.out) hb); have n3_ := zB.mk (zK (g := gb118) (o := .cells #[.int .i64 x119000_1, .int .i64 x119001_1] 65 (0, 0)) (by (with_reducible repeat (first | refine zC ?_ _ | refine zD ?_ | refine zA ?_ _)); exact BK118.out) hb); have n4_ := zB.mk (zK (g := gb120) (o := .cells #[.int .i64 ((rd_T62 l0_0 (ji17)).f0), .int .i64 ((rd_T62 l0_0 (ji17)).f1), .int .i64 ((rd_T62 l0_0 (ji17)).f2), .int .u8 ((rd_T62 l0_0 (ji17)).f3)] 62 (0, 0)) (by (with_reducible repeat (first | refine zC ?_ _ | refine zD ?_ | refine zA ?_ _)); exact BK120.out) hb); have n5_ := zB.mk (zK (g := gb126) (o := .cells #[.int .i64 ((rd_T65 l4 (ji64)).f0), .int .i64 ((rd_T65 l4 (ji64)).f1)] 65 (0, 0)) (by (with_reducible repeat (first | refine zC ?_ _ | refine zD ?_ | refine zA ?_ _)); exact BK126.out) hb); have n6_ := zB.mk (zO (by repeat (first | (with_reducible first | exact HB.out | apply zJ | apply zF | apply zH | refine zE ?_ GE115.out | refine zE ?_ GE116.out | refine zE ?_ GE117.out | refine zE ?_ GE118.out | refine zE ?_ GE120.out | refine zE ?_ GE126.out) | exact HB.out)) hb); clear BK115; clear BK116; clear BK117; clear BK118; clear BK120; clear BK126; clear HB; have BK115 := n0_; have BK116 := n1_; have BK117 := n2_; have BK118 := n3_; have BK120 := n4_; have BK126 := n5_; have HB := n6_; clear n0_ n1_ n2_ n3_ n4_ n5_ n6_; (try clear hb); (try clear hb2); (try clear hk); (try clear hi)))
              go_roundg kj66
              case measure => have := HK1.out; have := HJ20.out; have := HJ40.out; have := HJ66.out; omega
              case rel => exact ⟨(t121), (x15_40), (x16_20), (x17_40), (wrap64 (x18_1 + 1)), (x119000_1), (x119001_1), (by first | rfl | (simp; done) | (simp [*]; done)), (by first | rfl | (simp; done) | (simp [*]; done)), (by first | rfl | (simp; done) | (simp [*]; done)), (by first | rfl | (simp; done) | (simp [*]; done)), (by first | rfl | (simp; done) | (simp [*]; done)), H', ⟨by have := HK1.out; have := HJ20.out; have := HJ40.out; have := HJ66.out; omega⟩, ⟨by (with_reducible repeat (first | refine zC ?_ _ | refine zD ?_ | refine zA ?_ _)); exact BK115.out⟩, ⟨by (with_reducible repeat (first | refine zC ?_ _ | refine zD ?_ | refine zA ?_ _)); exact BK116.out⟩, ⟨by (with_reducible repeat (first | refine zC ?_ _ | refine zD ?_ | refine zA ?_ _)); exact BK117.out⟩, ⟨by (with_reducible repeat (first | refine zC ?_ _ | refine zD ?_ | refine zA ?_ _)); exact BK118.out⟩, ⟨by repeat (first | (with_reducible first | exact HB.out | apply zJ | apply zF | apply zH | refine zE ?_ GE115.out | refine zE ?_ GE116.out | refine zE ?_ GE117.out | refine zE ?_ GE118.out | refine zE ?_ GE120.out | refine zE ?_ GE126.out) | exact HB.out)⟩⟩
            subst c172; have H1 : (if x119001_1 < 0 then (best_next.l0 kj66 a1 a2 a3 l4 t121 x15_40 x16_20 x17_40 (wrap64 (x18_1 + 1)) l0_0 l0_1 a5_0 a5_1 a5_2 a5_3 a5_4 a5_5 (wrap64 (t129 + ((rd_T65 l4 (ji64)).f0))) x18_1) else (if (wrap64 (t129 + ((rd_T65 l4 (ji64)).f0))) < x119000_1 then (best_next.l0 kj66 a1 a2 a3 l4 t121 x15_40 x16_20 x17_40 (wrap64 (x18_1 + 1)) l0_0 l0_1 a5_0 a5_1 a5_2 a5_3 a5_4 a5_5 (wrap64 (t129 + ((rd_T65 l4 (ji64)).f0))) x18_1) else (best_next.l0 kj66 a1 a2 a3 l4 t121 x15_40 x16_20 x17_40 (wrap64 (x18_1 + 1)) l0_0 l0_1 a5_0 a5_1 a5_2 a5_3 a5_4 a5_5 x119000_1 x119001_1))) = some (r1, r2) := by rw [if_pos rfl] at H; exact H
            clear H; have H := H1; clear H1; by_cases c173 : x119001_1 < 0
            · rw [if_pos c173] at H
              have c173b0 : decide (x119001_1 < 0) = true := decide_eq_true c173
              clear c173; have H' := zB.mk H
              clear H; have hnb174 := NB115_116.out; have hnc174 := NB116_115.out; have hnb175 := NB115_117.out; have hnc175 := NB117_115.out; have hnb176 := NB115_118.out; have hnc176 := NB118_115.out; have hnb177 := NB115_120.out; have hnc177 := NB120_115.out; have hnb178 := NB115_126.out; have hnc178 := NB126_115.out; have hcz179_0 : wc.cell? ⟨gb115, 0, none⟩ = some (.slice (some ad119) l0_0.length c0_0) := (zG BK115.out 0).trans rfl
              have hcz179_1 : wc.cell? ⟨gb115, 1, none⟩ = some (.slice A0_1 l0_1.length c0_1) := (zG BK115.out 1).trans rfl
              have hfz179_0 := zI BK115.out 0; have hfz179_1 := zI BK115.out 1; have hnb180 := NB116_117.out; have hnc180 := NB117_116.out; have hnb181 := NB116_118.out; have hnc181 := NB118_116.out; have hnb182 := NB116_120.out; have hnc182 := NB120_116.out; have hnb183 := NB116_126.out; have hnc183 := NB126_116.out; have hcz184_0 : wc.cell? ⟨gb116, 0, none⟩ = some (.int .i64 a5_0) := (zG BK116.out 0).trans rfl
              have hcz184_1 : wc.cell? ⟨gb116, 1, none⟩ = some (.int .i64 a5_1) := (zG BK116.out 1).trans rfl
              have hcz184_2 : wc.cell? ⟨gb116, 2, none⟩ = some (.int .u8 a5_2) := (zG BK116.out 2).trans rfl
              have hcz184_3 : wc.cell? ⟨gb116, 3, none⟩ = some (.int .i64 a5_3) := (zG BK116.out 3).trans rfl
              have hcz184_4 : wc.cell? ⟨gb116, 4, none⟩ = some (.int .i64 a5_4) := (zG BK116.out 4).trans rfl
              have hcz184_5 : wc.cell? ⟨gb116, 5, none⟩ = some (.float .f64 a5_5) := (zG BK116.out 5).trans rfl
              have hfz184_0 := zI BK116.out 0; have hfz184_1 := zI BK116.out 1; have hfz184_2 := zI BK116.out 2; have hfz184_3 := zI BK116.out 3; have hfz184_4 := zI BK116.out 4; have hfz184_5 := zI BK116.out 5; go_wp2_with (first | ((with_reducible refine gate_callee (f := 31) rfl ?_); refine goesL_ (some 102) rfl rfl Try.func31 (by kernel_rfl) rfl #[.agg #[.slice (some ad119) l0_0.length c0_0, .slice A0_1 l0_1.length c0_1], .int .i64 a1, .int .u8 t123, .int .i64 x15_40, .int .i64 x17_40, .bool (x18_1 == a3), .agg #[.int .i64 a5_0, .int .i64 a5_1, .int .u8 a5_2, .int .i64 a5_3, .int .i64 a5_4, .float .f64 a5_5]] rfl (by (try simp only [List.map_toArray, List.map_cons, List.map_nil]); first | done | rfl | (simp only [List.length_drop, List.length_take]; rfl)) ?_; (with_reducible refine (best_price.calls kj66 _ _ l0_0 _ _ l0_1 a1 t123 x15_40 x17_40 (x18_1 == a3) a5_0 a5_1 a5_2 a5_3 a5_4 a5_5 t129 true _ ?side1 ?side2 ?side3 ?side4 A171.out).mono ?_); (case side1 => repeat (first | exact (Kd.C_below HR0_0.out HB.out) | (with_reducible refine Kd.C_alloc ?_ _) | (with_reducible refine Kd.C_drewN ?_ _) | (with_reducible refine Kd.C_drew ?_))); (case side2 => exact HC0_0.out); (case side3 => repeat (first | exact (Kd.C_below HR0_1.out HB.out) | (with_reducible refine Kd.C_alloc ?_ _) | (with_reducible refine Kd.C_drewN ?_ _) | (with_reducible refine Kd.C_drew ?_))); (case side4 => exact HC0_1.out); rintro e w185 ⟨rfl, hb⟩; refine ⟨_, rfl, ?_⟩; have n0_ := zB.mk (zK (g := gb115) (o := .cells #[.slice (some ad119) l0_0.length c0_0, .slice A0_1 l0_1.length c0_1] 31 (0, 0)) (by (with_reducible repeat (first | refine zC ?_ _ | refine zD ?_ | refine zA ?_ _)); exact BK115.out) hb); have n1_ := zB.mk (zK (g := gb116) (o := .cells #[.int .i64 a5_0, .int .i64 a5_1, .int .u8 a5_2, .int .i64 a5_3, .int .i64 a5_4, .float .f64 a5_5] 35 (0, 0)) (by (with_reducible repeat (first | refine zC ?_ _ | refine zD ?_ | refine zA ?_ _)); exact BK116.out) hb); have n2_ := zB.mk (zK (g := gb117) (o := .cells #[.int .i64 0, .int .i64 0] 65 (0, 0)) (by (with_reducible repeat (first | refine zC ?_ _ | refine zD ?_ | refine zA ?_ _)); exact BK117.out) hb); have n3_ := zB.mk (zK (g := gb118) (o := .cells #[.int .i64 x119000_1, .int .i64 x119001_1] 65 (0, 0)) (by (with_reducible repeat (first | refine zC ?_ _ | refine zD ?_ | refine zA ?_ _)); exact BK118.out) hb); have n4_ := zB.mk (zK (g := gb120) (o := .cells #[.int .i64 ((rd_T62 l0_0 (ji17)).f0), .int .i64 ((rd_T62 l0_0 (ji17)).f1), .int .i64 ((rd_T62 l0_0 (ji17)).f2), .int .u8 ((rd_T62 l0_0 (ji17)).f3)] 62 (0, 0)) (by (with_reducible repeat (first | refine zC ?_ _ | refine zD ?_ | refine zA ?_ _)); exact BK120.out) hb); have n5_ := zB.mk (zK (g := gb126) (o := .cells #[.int .i64 ((rd_T65 l4 (ji64)).f0), .int .i64 ((rd_T65 l4 (ji64)).f1)] 65 (0, 0)) (by (with_reducible repeat (first | refine zC ?_ _ | refine zD ?_ | refine zA ?_ _)); exact BK126.out) hb); have n6_ := zB.mk (zO (by repeat (first | (with_reducible first | exact HB.out | apply zJ | apply zF | apply zH | refine zE ?_ GE115.out | refine zE ?_ GE116.out | refine zE ?_ GE117.out | refine zE ?_ GE118.out | refine zE ?_ GE120.out | refine zE ?_ GE126.out) | exact HB.out)) hb); clear BK115; clear BK116; clear BK117; clear BK118; clear BK120; clear BK126; clear HB; have BK115 := n0_; have BK116 := n1_; have BK117 := n2_; have BK118 := n3_; have BK120 := n4_; have BK126 := n5_; have HB := n6_; clear n0_ n1_ n2_ n3_ n4_ n5_ n6_; (try clear hb); (try clear hb2); (try clear hk); (try clear hi); have hnb186 := NB118_117.out; have hnc186 := NB117_118.out; have hnb187 := NB118_120.out; have hnc187 := NB120_118.out; have hnb188 := NB118_126.out; have hnc188 := NB126_118.out; have hcz189_0 : w185.cell? ⟨gb118, 0, none⟩ = some (.int .i64 x119000_1) := (zG BK118.out 0).trans rfl; have hcz189_1 : w185.cell? ⟨gb118, 1, none⟩ = some (.int .i64 x119001_1) := (zG BK118.out 1).trans rfl; have hfz189_0 := zI BK118.out 0; have hfz189_1 := zI BK118.out 1; have hnb190 := NB126_117.out; have hnc190 := NB117_126.out; have hnb191 := NB126_120.out; have hnc191 := NB120_126.out; have hcz192_0 : w185.cell? ⟨gb126, 0, none⟩ = some (.int .i64 ((rd_T65 l4 (ji64)).f0)) := (zG BK126.out 0).trans rfl; have hcz192_1 : w185.cell? ⟨gb126, 1, none⟩ = some (.int .i64 ((rd_T65 l4 (ji64)).f1)) := (zG BK126.out 1).trans rfl; have hfz192_0 := zI BK126.out 0; have hfz192_1 := zI BK126.out 1) | ((with_reducible refine gate_store (t := 65) (p := 13) rfl ?_); refine store_event (t := 65) (p := 13) (v := ?vo_w193) (w1 := ((w185.setCell ⟨gb118, 0, none⟩ (.int .i64 (wrap64 (t129 + ((rd_T65 l4 (ji64)).f0))))).setCell ⟨gb118, 1, none⟩ (.int .i64 x18_1))) ?hg ?ho ?hn ?hr ?_; (case ho => rfl); (case hg => rfl); (case hn => rfl); (case hr => first | (go_simp; done) | (go_simp; rfl)); intro w193 hw; have n0_ : zB (w193.heap[gb115]? = some (.cells #[.slice (some ad119) l0_0.length c0_0, .slice A0_1 l0_1.length c0_1] 31 (0, 0))) := ⟨(by rw [hw]; exact (by (with_reducible repeat (first | refine zC ?_ _ | refine zD ?_ | refine zA ?_ _)); refine zN ?_ NB115_118.out _; (with_reducible repeat (first | refine zC ?_ _ | refine zD ?_ | refine zA ?_ _)); refine zN ?_ NB115_118.out _; (with_reducible repeat (first | refine zC ?_ _ | refine zD ?_ | refine zA ?_ _)); exact BK115.out))⟩; have n1_ : zB (w193.heap[gb116]? = some (.cells #[.int .i64 a5_0, .int .i64 a5_1, .int .u8 a5_2, .int .i64 a5_3, .int .i64 a5_4, .float .f64 a5_5] 35 (0, 0))) := ⟨(by rw [hw]; exact (by (with_reducible repeat (first | refine zC ?_ _ | refine zD ?_ | refine zA ?_ _)); refine zN ?_ NB116_118.out _; (with_reducible repeat (first | refine zC ?_ _ | refine zD ?_ | refine zA ?_ _)); refine zN ?_ NB116_118.out _; (with_reducible repeat (first | refine zC ?_ _ | refine zD ?_ | refine zA ?_ _)); exact BK116.out))⟩; have n2_ : zB (w193.heap[gb117]? = some (.cells #[.int .i64 0, .int .i64 0] 65 (0, 0))) := ⟨(by rw [hw]; exact (by (with_reducible repeat (first | refine zC ?_ _ | refine zD ?_ | refine zA ?_ _)); refine zN ?_ NB117_118.out _; (with_reducible repeat (first | refine zC ?_ _ | refine zD ?_ | refine zA ?_ _)); refine zN ?_ NB117_118.out _; (with_reducible repeat (first | refine zC ?_ _ | refine zD ?_ | refine zA ?_ _)); exact BK117.out))⟩; have n3_ : zB (w193.heap[gb118]? = some (.cells #[.int .i64 (wrap64 (t129 + ((rd_T65 l4 (ji64)).f0))), .int .i64 x18_1] 65 (0, 0))) := ⟨(by rw [hw]; exact (by (with_reducible repeat (first | refine zC ?_ _ | refine zD ?_ | refine zA ?_ _)); refine blk_put (cs := #[.int .i64 (wrap64 (t129 + ((rd_T65 l4 (ji64)).f0))), .int .i64 x119001_1]) ?_ 1 _ rfl; (with_reducible repeat (first | refine zC ?_ _ | refine zD ?_ | refine zA ?_ _)); refine blk_put (cs := #[.int .i64 x119000_1, .int .i64 x119001_1]) ?_ 0 _ rfl; (with_reducible repeat (first | refine zC ?_ _ | refine zD ?_ | refine zA ?_ _)); exact BK118.out))⟩; have n4_ : zB (w193.heap[gb120]? = some (.cells #[.int .i64 ((rd_T62 l0_0 (ji17)).f0), .int .i64 ((rd_T62 l0_0 (ji17)).f1), .int .i64 ((rd_T62 l0_0 (ji17)).f2), .int .u8 ((rd_T62 l0_0 (ji17)).f3)] 62 (0, 0))) := ⟨(by rw [hw]; exact (by (with_reducible repeat (first | refine zC ?_ _ | refine zD ?_ | refine zA ?_ _)); refine zN ?_ NB120_118.out _; (with_reducible repeat (first | refine zC ?_ _ | refine zD ?_ | refine zA ?_ _)); refine zN ?_ NB120_118.out _; (with_reducible repeat (first | refine zC ?_ _ | refine zD ?_ | refine zA ?_ _)); exact BK120.out))⟩; have n5_ : zB (w193.heap[gb126]? = some (.cells #[.int .i64 ((rd_T65 l4 (ji64)).f0), .int .i64 ((rd_T65 l4 (ji64)).f1)] 65 (0, 0))) := ⟨(by rw [hw]; exact (by (with_reducible repeat (first | refine zC ?_ _ | refine zD ?_ | refine zA ?_ _)); refine zN ?_ NB126_118.out _; (with_reducible repeat (first | refine zC ?_ _ | refine zD ?_ | refine zA ?_ _)); refine zN ?_ NB126_118.out _; (with_reducible repeat (first | refine zC ?_ _ | refine zD ?_ | refine zA ?_ _)); exact BK126.out))⟩; have n6_ : zB (Below w.heap.size w w193) := ⟨(by rw [hw]; exact (by repeat (first | (with_reducible first | exact HB.out | apply zJ | apply zF | apply zH | refine zE ?_ GE115.out | refine zE ?_ GE116.out | refine zE ?_ GE117.out | refine zE ?_ GE118.out | refine zE ?_ GE120.out | refine zE ?_ GE126.out) | exact HB.out)))⟩; clear hw; clear BK115; clear BK116; clear BK117; clear BK118; clear BK120; clear BK126; clear HB; have BK115 := n0_; have BK116 := n1_; have BK117 := n2_; have BK118 := n3_; have BK120 := n4_; have BK126 := n5_; have HB := n6_; clear n0_ n1_ n2_ n3_ n4_ n5_ n6_))
              go_roundg kj66
              case measure => have := HK1.out; have := HJ20.out; have := HJ40.out; have := HJ66.out; omega
              case rel => exact ⟨(t121), (x15_40), (x16_20), (x17_40), (wrap64 (x18_1 + 1)), (wrap64 (t129 + ((rd_T65 l4 (ji64)).f0))), (x18_1), (by first | rfl | (simp; done) | (simp [*]; done)), (by first | rfl | (simp; done) | (simp [*]; done)), (by first | rfl | (simp; done) | (simp [*]; done)), (by first | rfl | (simp; done) | (simp [*]; done)), (by first | rfl | (simp; done) | (simp [*]; done)), H', ⟨by have := HK1.out; have := HJ20.out; have := HJ40.out; have := HJ66.out; omega⟩, ⟨by (with_reducible repeat (first | refine zC ?_ _ | refine zD ?_ | refine zA ?_ _)); exact BK115.out⟩, ⟨by (with_reducible repeat (first | refine zC ?_ _ | refine zD ?_ | refine zA ?_ _)); exact BK116.out⟩, ⟨by (with_reducible repeat (first | refine zC ?_ _ | refine zD ?_ | refine zA ?_ _)); exact BK117.out⟩, ⟨by (with_reducible repeat (first | refine zC ?_ _ | refine zD ?_ | refine zA ?_ _)); exact BK118.out⟩, ⟨by repeat (first | (with_reducible first | exact HB.out | apply zJ | apply zF | apply zH | refine zE ?_ GE115.out | refine zE ?_ GE116.out | refine zE ?_ GE117.out | refine zE ?_ GE118.out | refine zE ?_ GE120.out | refine zE ?_ GE126.out) | exact HB.out)⟩⟩
            rw [if_neg c173] at H; have c173b0 : decide (x119001_1 < 0) = false := decide_eq_false c173
            clear c173; by_cases c194 : (wrap64 (t129 + ((rd_T65 l4 (ji64)).f0))) < x119000_1
            rotate_left
            · rw [if_neg c194] at H
              have c194b0 : decide ((wrap64 (t129 + ((rd_T65 l4 (ji64)).f0))) < x119000_1) = false := decide_eq_false c194
              clear c194; have H' := zB.mk H
              clear H; have hnb215 := NB115_116.out; have hnc215 := NB116_115.out; have hnb216 := NB115_117.out; have hnc216 := NB117_115.out; have hnb217 := NB115_118.out; have hnc217 := NB118_115.out; have hnb218 := NB115_120.out; have hnc218 := NB120_115.out; have hnb219 := NB115_126.out; have hnc219 := NB126_115.out; have hcz220_0 : wc.cell? ⟨gb115, 0, none⟩ = some (.slice (some ad119) l0_0.length c0_0) := (zG BK115.out 0).trans rfl
              have hcz220_1 : wc.cell? ⟨gb115, 1, none⟩ = some (.slice A0_1 l0_1.length c0_1) := (zG BK115.out 1).trans rfl
              have hfz220_0 := zI BK115.out 0; have hfz220_1 := zI BK115.out 1; have hnb221 := NB116_117.out; have hnc221 := NB117_116.out; have hnb222 := NB116_118.out; have hnc222 := NB118_116.out; have hnb223 := NB116_120.out; have hnc223 := NB120_116.out; have hnb224 := NB116_126.out; have hnc224 := NB126_116.out; have hcz225_0 : wc.cell? ⟨gb116, 0, none⟩ = some (.int .i64 a5_0) := (zG BK116.out 0).trans rfl
              have hcz225_1 : wc.cell? ⟨gb116, 1, none⟩ = some (.int .i64 a5_1) := (zG BK116.out 1).trans rfl
              have hcz225_2 : wc.cell? ⟨gb116, 2, none⟩ = some (.int .u8 a5_2) := (zG BK116.out 2).trans rfl
              have hcz225_3 : wc.cell? ⟨gb116, 3, none⟩ = some (.int .i64 a5_3) := (zG BK116.out 3).trans rfl
              have hcz225_4 : wc.cell? ⟨gb116, 4, none⟩ = some (.int .i64 a5_4) := (zG BK116.out 4).trans rfl
              have hcz225_5 : wc.cell? ⟨gb116, 5, none⟩ = some (.float .f64 a5_5) := (zG BK116.out 5).trans rfl
              have hfz225_0 := zI BK116.out 0; have hfz225_1 := zI BK116.out 1; have hfz225_2 := zI BK116.out 2; have hfz225_3 := zI BK116.out 3; have hfz225_4 := zI BK116.out 4; have hfz225_5 := zI BK116.out 5; go_wp2_with (first | ((with_reducible refine gate_callee (f := 31) rfl ?_); refine goesL_ (some 102) rfl rfl Try.func31 (by kernel_rfl) rfl #[.agg #[.slice (some ad119) l0_0.length c0_0, .slice A0_1 l0_1.length c0_1], .int .i64 a1, .int .u8 t123, .int .i64 x15_40, .int .i64 x17_40, .bool (x18_1 == a3), .agg #[.int .i64 a5_0, .int .i64 a5_1, .int .u8 a5_2, .int .i64 a5_3, .int .i64 a5_4, .float .f64 a5_5]] rfl (by (try simp only [List.map_toArray, List.map_cons, List.map_nil]); first | done | rfl | (simp only [List.length_drop, List.length_take]; rfl)) ?_; (with_reducible refine (best_price.calls kj66 _ _ l0_0 _ _ l0_1 a1 t123 x15_40 x17_40 (x18_1 == a3) a5_0 a5_1 a5_2 a5_3 a5_4 a5_5 t129 true _ ?side1 ?side2 ?side3 ?side4 A171.out).mono ?_); (case side1 => repeat (first | exact (Kd.C_below HR0_0.out HB.out) | (with_reducible refine Kd.C_alloc ?_ _) | (with_reducible refine Kd.C_drewN ?_ _) | (with_reducible refine Kd.C_drew ?_))); (case side2 => exact HC0_0.out); (case side3 => repeat (first | exact (Kd.C_below HR0_1.out HB.out) | (with_reducible refine Kd.C_alloc ?_ _) | (with_reducible refine Kd.C_drewN ?_ _) | (with_reducible refine Kd.C_drew ?_))); (case side4 => exact HC0_1.out); rintro e w226 ⟨rfl, hb⟩; refine ⟨_, rfl, ?_⟩; have n0_ := zB.mk (zK (g := gb115) (o := .cells #[.slice (some ad119) l0_0.length c0_0, .slice A0_1 l0_1.length c0_1] 31 (0, 0)) (by (with_reducible repeat (first | refine zC ?_ _ | refine zD ?_ | refine zA ?_ _)); exact BK115.out) hb); have n1_ := zB.mk (zK (g := gb116) (o := .cells #[.int .i64 a5_0, .int .i64 a5_1, .int .u8 a5_2, .int .i64 a5_3, .int .i64 a5_4, .float .f64 a5_5] 35 (0, 0)) (by (with_reducible repeat (first | refine zC ?_ _ | refine zD ?_ | refine zA ?_ _)); exact BK116.out) hb); have n2_ := zB.mk (zK (g := gb117) (o := .cells #[.int .i64 0, .int .i64 0] 65 (0, 0)) (by (with_reducible repeat (first | refine zC ?_ _ | refine zD ?_ | refine zA ?_ _)); exact BK117.out) hb); have n3_ := zB.mk (zK (g := gb118) (o := .cells #[.int .i64 x119000_1, .int .i64 x119001_1] 65 (0, 0)) (by (with_reducible repeat (first | refine zC ?_ _ | refine zD ?_ | refine zA ?_ _)); exact BK118.out) hb); have n4_ := zB.mk (zK (g := gb120) (o := .cells #[.int .i64 ((rd_T62 l0_0 (ji17)).f0), .int .i64 ((rd_T62 l0_0 (ji17)).f1), .int .i64 ((rd_T62 l0_0 (ji17)).f2), .int .u8 ((rd_T62 l0_0 (ji17)).f3)] 62 (0, 0)) (by (with_reducible repeat (first | refine zC ?_ _ | refine zD ?_ | refine zA ?_ _)); exact BK120.out) hb); have n5_ := zB.mk (zK (g := gb126) (o := .cells #[.int .i64 ((rd_T65 l4 (ji64)).f0), .int .i64 ((rd_T65 l4 (ji64)).f1)] 65 (0, 0)) (by (with_reducible repeat (first | refine zC ?_ _ | refine zD ?_ | refine zA ?_ _)); exact BK126.out) hb); have n6_ := zB.mk (zO (by repeat (first | (with_reducible first | exact HB.out | apply zJ | apply zF | apply zH | refine zE ?_ GE115.out | refine zE ?_ GE116.out | refine zE ?_ GE117.out | refine zE ?_ GE118.out | refine zE ?_ GE120.out | refine zE ?_ GE126.out) | exact HB.out)) hb); clear BK115; clear BK116; clear BK117; clear BK118; clear BK120; clear BK126; clear HB; have BK115 := n0_; have BK116 := n1_; have BK117 := n2_; have BK118 := n3_; have BK120 := n4_; have BK126 := n5_; have HB := n6_; clear n0_ n1_ n2_ n3_ n4_ n5_ n6_; (try clear hb); (try clear hb2); (try clear hk); (try clear hi); have hnb227 := NB118_117.out; have hnc227 := NB117_118.out; have hnb228 := NB118_120.out; have hnc228 := NB120_118.out; have hnb229 := NB118_126.out; have hnc229 := NB126_118.out; have hcz230_0 : w226.cell? ⟨gb118, 0, none⟩ = some (.int .i64 x119000_1) := (zG BK118.out 0).trans rfl; have hcz230_1 : w226.cell? ⟨gb118, 1, none⟩ = some (.int .i64 x119001_1) := (zG BK118.out 1).trans rfl; have hfz230_0 := zI BK118.out 0; have hfz230_1 := zI BK118.out 1; have hnb231 := NB126_117.out; have hnc231 := NB117_126.out; have hnb232 := NB126_120.out; have hnc232 := NB120_126.out; have hcz233_0 : w226.cell? ⟨gb126, 0, none⟩ = some (.int .i64 ((rd_T65 l4 (ji64)).f0)) := (zG BK126.out 0).trans rfl; have hcz233_1 : w226.cell? ⟨gb126, 1, none⟩ = some (.int .i64 ((rd_T65 l4 (ji64)).f1)) := (zG BK126.out 1).trans rfl; have hfz233_0 := zI BK126.out 0; have hfz233_1 := zI BK126.out 1))
              go_roundg kj66
              case measure => have := HK1.out; have := HJ20.out; have := HJ40.out; have := HJ66.out; omega
              case rel => exact ⟨(t121), (x15_40), (x16_20), (x17_40), (wrap64 (x18_1 + 1)), (x119000_1), (x119001_1), (by first | rfl | (simp; done) | (simp [*]; done)), (by first | rfl | (simp; done) | (simp [*]; done)), (by first | rfl | (simp; done) | (simp [*]; done)), (by first | rfl | (simp; done) | (simp [*]; done)), (by first | rfl | (simp; done) | (simp [*]; done)), H', ⟨by have := HK1.out; have := HJ20.out; have := HJ40.out; have := HJ66.out; omega⟩, ⟨by (with_reducible repeat (first | refine zC ?_ _ | refine zD ?_ | refine zA ?_ _)); exact BK115.out⟩, ⟨by (with_reducible repeat (first | refine zC ?_ _ | refine zD ?_ | refine zA ?_ _)); exact BK116.out⟩, ⟨by (with_reducible repeat (first | refine zC ?_ _ | refine zD ?_ | refine zA ?_ _)); exact BK117.out⟩, ⟨by (with_reducible repeat (first | refine zC ?_ _ | refine zD ?_ | refine zA ?_ _)); exact BK118.out⟩, ⟨by repeat (first | (with_reducible first | exact HB.out | apply zJ | apply zF | apply zH | refine zE ?_ GE115.out | refine zE ?_ GE116.out | refine zE ?_ GE117.out | refine zE ?_ GE118.out | refine zE ?_ GE120.out | refine zE ?_ GE126.out) | exact HB.out)⟩⟩
            rw [if_pos c194] at H; have c194b0 : decide ((wrap64 (t129 + ((rd_T65 l4 (ji64)).f0))) < x119000_1) = true := decide_eq_true c194
            clear c194; have H' := zB.mk H
            clear H; have hnb195 := NB115_116.out; have hnc195 := NB116_115.out; have hnb196 := NB115_117.out; have hnc196 := NB117_115.out; have hnb197 := NB115_118.out; have hnc197 := NB118_115.out; have hnb198 := NB115_120.out; have hnc198 := NB120_115.out; have hnb199 := NB115_126.out; have hnc199 := NB126_115.out; have hcz200_0 : wc.cell? ⟨gb115, 0, none⟩ = some (.slice (some ad119) l0_0.length c0_0) := (zG BK115.out 0).trans rfl
            have hcz200_1 : wc.cell? ⟨gb115, 1, none⟩ = some (.slice A0_1 l0_1.length c0_1) := (zG BK115.out 1).trans rfl
            have hfz200_0 := zI BK115.out 0; have hfz200_1 := zI BK115.out 1; have hnb201 := NB116_117.out; have hnc201 := NB117_116.out; have hnb202 := NB116_118.out; have hnc202 := NB118_116.out; have hnb203 := NB116_120.out; have hnc203 := NB120_116.out; have hnb204 := NB116_126.out; have hnc204 := NB126_116.out; have hcz205_0 : wc.cell? ⟨gb116, 0, none⟩ = some (.int .i64 a5_0) := (zG BK116.out 0).trans rfl
            have hcz205_1 : wc.cell? ⟨gb116, 1, none⟩ = some (.int .i64 a5_1) := (zG BK116.out 1).trans rfl
            have hcz205_2 : wc.cell? ⟨gb116, 2, none⟩ = some (.int .u8 a5_2) := (zG BK116.out 2).trans rfl
            have hcz205_3 : wc.cell? ⟨gb116, 3, none⟩ = some (.int .i64 a5_3) := (zG BK116.out 3).trans rfl
            have hcz205_4 : wc.cell? ⟨gb116, 4, none⟩ = some (.int .i64 a5_4) := (zG BK116.out 4).trans rfl
            have hcz205_5 : wc.cell? ⟨gb116, 5, none⟩ = some (.float .f64 a5_5) := (zG BK116.out 5).trans rfl
            have hfz205_0 := zI BK116.out 0; have hfz205_1 := zI BK116.out 1; have hfz205_2 := zI BK116.out 2; have hfz205_3 := zI BK116.out 3; have hfz205_4 := zI BK116.out 4; have hfz205_5 := zI BK116.out 5; go_wp2_with (first | ((with_reducible refine gate_callee (f := 31) rfl ?_); refine goesL_ (some 102) rfl rfl Try.func31 (by kernel_rfl) rfl #[.agg #[.slice (some ad119) l0_0.length c0_0, .slice A0_1 l0_1.length c0_1], .int .i64 a1, .int .u8 t123, .int .i64 x15_40, .int .i64 x17_40, .bool (x18_1 == a3), .agg #[.int .i64 a5_0, .int .i64 a5_1, .int .u8 a5_2, .int .i64 a5_3, .int .i64 a5_4, .float .f64 a5_5]] rfl (by (try simp only [List.map_toArray, List.map_cons, List.map_nil]); first | done | rfl | (simp only [List.length_drop, List.length_take]; rfl)) ?_; (with_reducible refine (best_price.calls kj66 _ _ l0_0 _ _ l0_1 a1 t123 x15_40 x17_40 (x18_1 == a3) a5_0 a5_1 a5_2 a5_3 a5_4 a5_5 t129 true _ ?side1 ?side2 ?side3 ?side4 A171.out).mono ?_); (case side1 => repeat (first | exact (Kd.C_below HR0_0.out HB.out) | (with_reducible refine Kd.C_alloc ?_ _) | (with_reducible refine Kd.C_drewN ?_ _) | (with_reducible refine Kd.C_drew ?_))); (case side2 => exact HC0_0.out); (case side3 => repeat (first | exact (Kd.C_below HR0_1.out HB.out) | (with_reducible refine Kd.C_alloc ?_ _) | (with_reducible refine Kd.C_drewN ?_ _) | (with_reducible refine Kd.C_drew ?_))); (case side4 => exact HC0_1.out); rintro e w206 ⟨rfl, hb⟩; refine ⟨_, rfl, ?_⟩; have n0_ := zB.mk (zK (g := gb115) (o := .cells #[.slice (some ad119) l0_0.length c0_0, .slice A0_1 l0_1.length c0_1] 31 (0, 0)) (by (with_reducible repeat (first | refine zC ?_ _ | refine zD ?_ | refine zA ?_ _)); exact BK115.out) hb); have n1_ := zB.mk (zK (g := gb116) (o := .cells #[.int .i64 a5_0, .int .i64 a5_1, .int .u8 a5_2, .int .i64 a5_3, .int .i64 a5_4, .float .f64 a5_5] 35 (0, 0)) (by (with_reducible repeat (first | refine zC ?_ _ | refine zD ?_ | refine zA ?_ _)); exact BK116.out) hb); have n2_ := zB.mk (zK (g := gb117) (o := .cells #[.int .i64 0, .int .i64 0] 65 (0, 0)) (by (with_reducible repeat (first | refine zC ?_ _ | refine zD ?_ | refine zA ?_ _)); exact BK117.out) hb); have n3_ := zB.mk (zK (g := gb118) (o := .cells #[.int .i64 x119000_1, .int .i64 x119001_1] 65 (0, 0)) (by (with_reducible repeat (first | refine zC ?_ _ | refine zD ?_ | refine zA ?_ _)); exact BK118.out) hb); have n4_ := zB.mk (zK (g := gb120) (o := .cells #[.int .i64 ((rd_T62 l0_0 (ji17)).f0), .int .i64 ((rd_T62 l0_0 (ji17)).f1), .int .i64 ((rd_T62 l0_0 (ji17)).f2), .int .u8 ((rd_T62 l0_0 (ji17)).f3)] 62 (0, 0)) (by (with_reducible repeat (first | refine zC ?_ _ | refine zD ?_ | refine zA ?_ _)); exact BK120.out) hb); have n5_ := zB.mk (zK (g := gb126) (o := .cells #[.int .i64 ((rd_T65 l4 (ji64)).f0), .int .i64 ((rd_T65 l4 (ji64)).f1)] 65 (0, 0)) (by (with_reducible repeat (first | refine zC ?_ _ | refine zD ?_ | refine zA ?_ _)); exact BK126.out) hb); have n6_ := zB.mk (zO (by repeat (first | (with_reducible first | exact HB.out | apply zJ | apply zF | apply zH | refine zE ?_ GE115.out | refine zE ?_ GE116.out | refine zE ?_ GE117.out | refine zE ?_ GE118.out | refine zE ?_ GE120.out | refine zE ?_ GE126.out) | exact HB.out)) hb); clear BK115; clear BK116; clear BK117; clear BK118; clear BK120; clear BK126; clear HB; have BK115 := n0_; have BK116 := n1_; have BK117 := n2_; have BK118 := n3_; have BK120 := n4_; have BK126 := n5_; have HB := n6_; clear n0_ n1_ n2_ n3_ n4_ n5_ n6_; (try clear hb); (try clear hb2); (try clear hk); (try clear hi); have hnb207 := NB118_117.out; have hnc207 := NB117_118.out; have hnb208 := NB118_120.out; have hnc208 := NB120_118.out; have hnb209 := NB118_126.out; have hnc209 := NB126_118.out; have hcz210_0 : w206.cell? ⟨gb118, 0, none⟩ = some (.int .i64 x119000_1) := (zG BK118.out 0).trans rfl; have hcz210_1 : w206.cell? ⟨gb118, 1, none⟩ = some (.int .i64 x119001_1) := (zG BK118.out 1).trans rfl; have hfz210_0 := zI BK118.out 0; have hfz210_1 := zI BK118.out 1; have hnb211 := NB126_117.out; have hnc211 := NB117_126.out; have hnb212 := NB126_120.out; have hnc212 := NB120_126.out; have hcz213_0 : w206.cell? ⟨gb126, 0, none⟩ = some (.int .i64 ((rd_T65 l4 (ji64)).f0)) := (zG BK126.out 0).trans rfl; have hcz213_1 : w206.cell? ⟨gb126, 1, none⟩ = some (.int .i64 ((rd_T65 l4 (ji64)).f1)) := (zG BK126.out 1).trans rfl; have hfz213_0 := zI BK126.out 0; have hfz213_1 := zI BK126.out 1) | ((with_reducible refine gate_store (t := 65) (p := 13) rfl ?_); refine store_event (t := 65) (p := 13) (v := ?vo_w214) (w1 := ((w206.setCell ⟨gb118, 0, none⟩ (.int .i64 (wrap64 (t129 + ((rd_T65 l4 (ji64)).f0))))).setCell ⟨gb118, 1, none⟩ (.int .i64 x18_1))) ?hg ?ho ?hn ?hr ?_; (case ho => rfl); (case hg => rfl); (case hn => rfl); (case hr => first | (go_simp; done) | (go_simp; rfl)); intro w214 hw; have n0_ : zB (w214.heap[gb115]? = some (.cells #[.slice (some ad119) l0_0.length c0_0, .slice A0_1 l0_1.length c0_1] 31 (0, 0))) := ⟨(by rw [hw]; exact (by (with_reducible repeat (first | refine zC ?_ _ | refine zD ?_ | refine zA ?_ _)); refine zN ?_ NB115_118.out _; (with_reducible repeat (first | refine zC ?_ _ | refine zD ?_ | refine zA ?_ _)); refine zN ?_ NB115_118.out _; (with_reducible repeat (first | refine zC ?_ _ | refine zD ?_ | refine zA ?_ _)); exact BK115.out))⟩; have n1_ : zB (w214.heap[gb116]? = some (.cells #[.int .i64 a5_0, .int .i64 a5_1, .int .u8 a5_2, .int .i64 a5_3, .int .i64 a5_4, .float .f64 a5_5] 35 (0, 0))) := ⟨(by rw [hw]; exact (by (with_reducible repeat (first | refine zC ?_ _ | refine zD ?_ | refine zA ?_ _)); refine zN ?_ NB116_118.out _; (with_reducible repeat (first | refine zC ?_ _ | refine zD ?_ | refine zA ?_ _)); refine zN ?_ NB116_118.out _; (with_reducible repeat (first | refine zC ?_ _ | refine zD ?_ | refine zA ?_ _)); exact BK116.out))⟩; have n2_ : zB (w214.heap[gb117]? = some (.cells #[.int .i64 0, .int .i64 0] 65 (0, 0))) := ⟨(by rw [hw]; exact (by (with_reducible repeat (first | refine zC ?_ _ | refine zD ?_ | refine zA ?_ _)); refine zN ?_ NB117_118.out _; (with_reducible repeat (first | refine zC ?_ _ | refine zD ?_ | refine zA ?_ _)); refine zN ?_ NB117_118.out _; (with_reducible repeat (first | refine zC ?_ _ | refine zD ?_ | refine zA ?_ _)); exact BK117.out))⟩; have n3_ : zB (w214.heap[gb118]? = some (.cells #[.int .i64 (wrap64 (t129 + ((rd_T65 l4 (ji64)).f0))), .int .i64 x18_1] 65 (0, 0))) := ⟨(by rw [hw]; exact (by (with_reducible repeat (first | refine zC ?_ _ | refine zD ?_ | refine zA ?_ _)); refine blk_put (cs := #[.int .i64 (wrap64 (t129 + ((rd_T65 l4 (ji64)).f0))), .int .i64 x119001_1]) ?_ 1 _ rfl; (with_reducible repeat (first | refine zC ?_ _ | refine zD ?_ | refine zA ?_ _)); refine blk_put (cs := #[.int .i64 x119000_1, .int .i64 x119001_1]) ?_ 0 _ rfl; (with_reducible repeat (first | refine zC ?_ _ | refine zD ?_ | refine zA ?_ _)); exact BK118.out))⟩; have n4_ : zB (w214.heap[gb120]? = some (.cells #[.int .i64 ((rd_T62 l0_0 (ji17)).f0), .int .i64 ((rd_T62 l0_0 (ji17)).f1), .int .i64 ((rd_T62 l0_0 (ji17)).f2), .int .u8 ((rd_T62 l0_0 (ji17)).f3)] 62 (0, 0))) := ⟨(by rw [hw]; exact (by (with_reducible repeat (first | refine zC ?_ _ | refine zD ?_ | refine zA ?_ _)); refine zN ?_ NB120_118.out _; (with_reducible repeat (first | refine zC ?_ _ | refine zD ?_ | refine zA ?_ _)); refine zN ?_ NB120_118.out _; (with_reducible repeat (first | refine zC ?_ _ | refine zD ?_ | refine zA ?_ _)); exact BK120.out))⟩; have n5_ : zB (w214.heap[gb126]? = some (.cells #[.int .i64 ((rd_T65 l4 (ji64)).f0), .int .i64 ((rd_T65 l4 (ji64)).f1)] 65 (0, 0))) := ⟨(by rw [hw]; exact (by (with_reducible repeat (first | refine zC ?_ _ | refine zD ?_ | refine zA ?_ _)); refine zN ?_ NB126_118.out _; (with_reducible repeat (first | refine zC ?_ _ | refine zD ?_ | refine zA ?_ _)); refine zN ?_ NB126_118.out _; (with_reducible repeat (first | refine zC ?_ _ | refine zD ?_ | refine zA ?_ _)); exact BK126.out))⟩; have n6_ : zB (Below w.heap.size w w214) := ⟨(by rw [hw]; exact (by repeat (first | (with_reducible first | exact HB.out | apply zJ | apply zF | apply zH | refine zE ?_ GE115.out | refine zE ?_ GE116.out | refine zE ?_ GE117.out | refine zE ?_ GE118.out | refine zE ?_ GE120.out | refine zE ?_ GE126.out) | exact HB.out)))⟩; clear hw; clear BK115; clear BK116; clear BK117; clear BK118; clear BK120; clear BK126; clear HB; have BK115 := n0_; have BK116 := n1_; have BK117 := n2_; have BK118 := n3_; have BK120 := n4_; have BK126 := n5_; have HB := n6_; clear n0_ n1_ n2_ n3_ n4_ n5_ n6_))
            go_roundg kj66
            case measure => have := HK1.out; have := HJ20.out; have := HJ40.out; have := HJ66.out; omega
            case rel => exact ⟨(t121), (x15_40), (x16_20), (x17_40), (wrap64 (x18_1 + 1)), (wrap64 (t129 + ((rd_T65 l4 (ji64)).f0))), (x18_1), (by first | rfl | (simp; done) | (simp [*]; done)), (by first | rfl | (simp; done) | (simp [*]; done)), (by first | rfl | (simp; done) | (simp [*]; done)), (by first | rfl | (simp; done) | (simp [*]; done)), (by first | rfl | (simp; done) | (simp [*]; done)), H', ⟨by have := HK1.out; have := HJ20.out; have := HJ40.out; have := HJ66.out; omega⟩, ⟨by (with_reducible repeat (first | refine zC ?_ _ | refine zD ?_ | refine zA ?_ _)); exact BK115.out⟩, ⟨by (with_reducible repeat (first | refine zC ?_ _ | refine zD ?_ | refine zA ?_ _)); exact BK116.out⟩, ⟨by (with_reducible repeat (first | refine zC ?_ _ | refine zD ?_ | refine zA ?_ _)); exact BK117.out⟩, ⟨by (with_reducible repeat (first | refine zC ?_ _ | refine zD ?_ | refine zA ?_ _)); exact BK118.out⟩, ⟨by repeat (first | (with_reducible first | exact HB.out | apply zJ | apply zF | apply zH | refine zE ?_ GE115.out | refine zE ?_ GE116.out | refine zE ?_ GE117.out | refine zE ?_ GE118.out | refine zE ?_ GE120.out | refine zE ?_ GE126.out) | exact HB.out)⟩⟩
          rw [if_pos c95] at H; have c95b0 : (t123 == 3) = true := beq_iff_eq.mpr c95
          have c95b1 : (t123 != 3) = false := bne_eq_false_iff_eq.mpr c95
          clear c95; replace H := Option.bind_eq_some_iff.mp H; obtain ⟨⟨t127, t128⟩, A960, H⟩ := H; replace H : (if t128 = true then (if x119001_1 < 0 then (best_next.l0 kj66 a1 a2 a3 l4 t121 x15_40 x16_20 x17_40 (wrap64 (x18_1 + 1)) l0_0 l0_1 a5_0 a5_1 a5_2 a5_3 a5_4 a5_5 (wrap64 (t127 + ((rd_T65 l4 (ji64)).f0))) x18_1) else (if (wrap64 (t127 + ((rd_T65 l4 (ji64)).f0))) < x119000_1 then (best_next.l0 kj66 a1 a2 a3 l4 t121 x15_40 x16_20 x17_40 (wrap64 (x18_1 + 1)) l0_0 l0_1 a5_0 a5_1 a5_2 a5_3 a5_4 a5_5 (wrap64 (t127 + ((rd_T65 l4 (ji64)).f0))) x18_1) else (best_next.l0 kj66 a1 a2 a3 l4 t121 x15_40 x16_20 x17_40 (wrap64 (x18_1 + 1)) l0_0 l0_1 a5_0 a5_1 a5_2 a5_3 a5_4 a5_5 x119000_1 x119001_1))) else (best_next.l0 kj66 a1 a2 a3 l4 t121 x15_40 x16_20 x17_40 (wrap64 (x18_1 + 1)) l0_0 l0_1 a5_0 a5_1 a5_2 a5_3 a5_4 a5_5 x119000_1 x119001_1)) = some (r1, r2) := H; have A96 := zB.mk A960; clear A960; by_cases c97 : t128 = true
          rotate_left
          · replace c97 := Bool.eq_false_iff.mpr c97
            subst c97; have H1 : (best_next.l0 kj66 a1 a2 a3 l4 t121 x15_40 x16_20 x17_40 (wrap64 (x18_1 + 1)) l0_0 l0_1 a5_0 a5_1 a5_2 a5_3 a5_4 a5_5 x119000_1 x119001_1) = some (r1, r2) := by rw [if_neg (show ¬ (false = true) by decide)] at H; exact H
            clear H; have H := H1; clear H1; have H' := zB.mk H
            clear H; have hnb159 := NB115_116.out; have hnc159 := NB116_115.out; have hnb160 := NB115_117.out; have hnc160 := NB117_115.out; have hnb161 := NB115_118.out; have hnc161 := NB118_115.out; have hnb162 := NB115_120.out; have hnc162 := NB120_115.out; have hnb163 := NB115_126.out; have hnc163 := NB126_115.out; have hcz164_0 : wc.cell? ⟨gb115, 0, none⟩ = some (.slice (some ad119) l0_0.length c0_0) := (zG BK115.out 0).trans rfl
            have hcz164_1 : wc.cell? ⟨gb115, 1, none⟩ = some (.slice A0_1 l0_1.length c0_1) := (zG BK115.out 1).trans rfl
            have hfz164_0 := zI BK115.out 0; have hfz164_1 := zI BK115.out 1; have hnb165 := NB116_117.out; have hnc165 := NB117_116.out; have hnb166 := NB116_118.out; have hnc166 := NB118_116.out; have hnb167 := NB116_120.out; have hnc167 := NB120_116.out; have hnb168 := NB116_126.out; have hnc168 := NB126_116.out; have hcz169_0 : wc.cell? ⟨gb116, 0, none⟩ = some (.int .i64 a5_0) := (zG BK116.out 0).trans rfl
            have hcz169_1 : wc.cell? ⟨gb116, 1, none⟩ = some (.int .i64 a5_1) := (zG BK116.out 1).trans rfl
            have hcz169_2 : wc.cell? ⟨gb116, 2, none⟩ = some (.int .u8 a5_2) := (zG BK116.out 2).trans rfl
            have hcz169_3 : wc.cell? ⟨gb116, 3, none⟩ = some (.int .i64 a5_3) := (zG BK116.out 3).trans rfl
            have hcz169_4 : wc.cell? ⟨gb116, 4, none⟩ = some (.int .i64 a5_4) := (zG BK116.out 4).trans rfl
            have hcz169_5 : wc.cell? ⟨gb116, 5, none⟩ = some (.float .f64 a5_5) := (zG BK116.out 5).trans rfl
            have hfz169_0 := zI BK116.out 0; have hfz169_1 := zI BK116.out 1; have hfz169_2 := zI BK116.out 2; have hfz169_3 := zI BK116.out 3; have hfz169_4 := zI BK116.out 4; have hfz169_5 := zI BK116.out 5; go_wp2_with (first | ((with_reducible refine gate_callee (f := 31) rfl ?_); refine goesL_ (some 102) rfl rfl Try.func31 (by kernel_rfl) rfl #[.agg #[.slice (some ad119) l0_0.length c0_0, .slice A0_1 l0_1.length c0_1], .int .i64 a1, .int .u8 t123, .int .i64 (wrap64 (x15_40 + 1)), .int .i64 x17_40, .bool (x18_1 == a3), .agg #[.int .i64 a5_0, .int .i64 a5_1, .int .u8 a5_2, .int .i64 a5_3, .int .i64 a5_4, .float .f64 a5_5]] rfl (by (try simp only [List.map_toArray, List.map_cons, List.map_nil]); first | done | rfl | (simp only [List.length_drop, List.length_take]; rfl)) ?_; (with_reducible refine (best_price.calls kj66 _ _ l0_0 _ _ l0_1 a1 t123 (wrap64 (x15_40 + 1)) x17_40 (x18_1 == a3) a5_0 a5_1 a5_2 a5_3 a5_4 a5_5 t127 false _ ?side1 ?side2 ?side3 ?side4 A96.out).mono ?_); (case side1 => repeat (first | exact (Kd.C_below HR0_0.out HB.out) | (with_reducible refine Kd.C_alloc ?_ _) | (with_reducible refine Kd.C_drewN ?_ _) | (with_reducible refine Kd.C_drew ?_))); (case side2 => exact HC0_0.out); (case side3 => repeat (first | exact (Kd.C_below HR0_1.out HB.out) | (with_reducible refine Kd.C_alloc ?_ _) | (with_reducible refine Kd.C_drewN ?_ _) | (with_reducible refine Kd.C_drew ?_))); (case side4 => exact HC0_1.out); rintro e w170 ⟨rfl, hb⟩; refine ⟨_, rfl, ?_⟩; have n0_ := zB.mk (zK (g := gb115) (o := .cells #[.slice (some ad119) l0_0.length c0_0, .slice A0_1 l0_1.length c0_1] 31 (0, 0)) (by (with_reducible repeat (first | refine zC ?_ _ | refine zD ?_ | refine zA ?_ _)); exact BK115.out) hb); have n1_ := zB.mk (zK (g := gb116) (o := .cells #[.int .i64 a5_0, .int .i64 a5_1, .int .u8 a5_2, .int .i64 a5_3, .int .i64 a5_4, .float .f64 a5_5] 35 (0, 0)) (by (with_reducible repeat (first | refine zC ?_ _ | refine zD ?_ | refine zA ?_ _)); exact BK116.out) hb); have n2_ := zB.mk (zK (g := gb117) (o := .cells #[.int .i64 0, .int .i64 0] 65 (0, 0)) (by (with_reducible repeat (first | refine zC ?_ _ | refine zD ?_ | refine zA ?_ _)); exact BK117.out) hb); have n3_ := zB.mk (zK (g := gb118) (o := .cells #[.int .i64 x119000_1, .int .i64 x119001_1] 65 (0, 0)) (by (with_reducible repeat (first | refine zC ?_ _ | refine zD ?_ | refine zA ?_ _)); exact BK118.out) hb); have n4_ := zB.mk (zK (g := gb120) (o := .cells #[.int .i64 ((rd_T62 l0_0 (ji17)).f0), .int .i64 ((rd_T62 l0_0 (ji17)).f1), .int .i64 ((rd_T62 l0_0 (ji17)).f2), .int .u8 ((rd_T62 l0_0 (ji17)).f3)] 62 (0, 0)) (by (with_reducible repeat (first | refine zC ?_ _ | refine zD ?_ | refine zA ?_ _)); exact BK120.out) hb); have n5_ := zB.mk (zK (g := gb126) (o := .cells #[.int .i64 ((rd_T65 l4 (ji64)).f0), .int .i64 ((rd_T65 l4 (ji64)).f1)] 65 (0, 0)) (by (with_reducible repeat (first | refine zC ?_ _ | refine zD ?_ | refine zA ?_ _)); exact BK126.out) hb); have n6_ := zB.mk (zO (by repeat (first | (with_reducible first | exact HB.out | apply zJ | apply zF | apply zH | refine zE ?_ GE115.out | refine zE ?_ GE116.out | refine zE ?_ GE117.out | refine zE ?_ GE118.out | refine zE ?_ GE120.out | refine zE ?_ GE126.out) | exact HB.out)) hb); clear BK115; clear BK116; clear BK117; clear BK118; clear BK120; clear BK126; clear HB; have BK115 := n0_; have BK116 := n1_; have BK117 := n2_; have BK118 := n3_; have BK120 := n4_; have BK126 := n5_; have HB := n6_; clear n0_ n1_ n2_ n3_ n4_ n5_ n6_; (try clear hb); (try clear hb2); (try clear hk); (try clear hi)))
            go_roundg kj66
            case measure => have := HK1.out; have := HJ20.out; have := HJ40.out; have := HJ66.out; omega
            case rel => exact ⟨(t121), (x15_40), (x16_20), (x17_40), (wrap64 (x18_1 + 1)), (x119000_1), (x119001_1), (by first | rfl | (simp; done) | (simp [*]; done)), (by first | rfl | (simp; done) | (simp [*]; done)), (by first | rfl | (simp; done) | (simp [*]; done)), (by first | rfl | (simp; done) | (simp [*]; done)), (by first | rfl | (simp; done) | (simp [*]; done)), H', ⟨by have := HK1.out; have := HJ20.out; have := HJ40.out; have := HJ66.out; omega⟩, ⟨by (with_reducible repeat (first | refine zC ?_ _ | refine zD ?_ | refine zA ?_ _)); exact BK115.out⟩, ⟨by (with_reducible repeat (first | refine zC ?_ _ | refine zD ?_ | refine zA ?_ _)); exact BK116.out⟩, ⟨by (with_reducible repeat (first | refine zC ?_ _ | refine zD ?_ | refine zA ?_ _)); exact BK117.out⟩, ⟨by (with_reducible repeat (first | refine zC ?_ _ | refine zD ?_ | refine zA ?_ _)); exact BK118.out⟩, ⟨by repeat (first | (with_reducible first | exact HB.out | apply zJ | apply zF | apply zH | refine zE ?_ GE115.out | refine zE ?_ GE116.out | refine zE ?_ GE117.out | refine zE ?_ GE118.out | refine zE ?_ GE120.out | refine zE ?_ GE126.out) | exact HB.out)⟩⟩
          subst c97; have H1 : (if x119001_1 < 0 then (best_next.l0 kj66 a1 a2 a3 l4 t121 x15_40 x16_20 x17_40 (wrap64 (x18_1 + 1)) l0_0 l0_1 a5_0 a5_1 a5_2 a5_3 a5_4 a5_5 (wrap64 (t127 + ((rd_T65 l4 (ji64)).f0))) x18_1) else (if (wrap64 (t127 + ((rd_T65 l4 (ji64)).f0))) < x119000_1 then (best_next.l0 kj66 a1 a2 a3 l4 t121 x15_40 x16_20 x17_40 (wrap64 (x18_1 + 1)) l0_0 l0_1 a5_0 a5_1 a5_2 a5_3 a5_4 a5_5 (wrap64 (t127 + ((rd_T65 l4 (ji64)).f0))) x18_1) else (best_next.l0 kj66 a1 a2 a3 l4 t121 x15_40 x16_20 x17_40 (wrap64 (x18_1 + 1)) l0_0 l0_1 a5_0 a5_1 a5_2 a5_3 a5_4 a5_5 x119000_1 x119001_1))) = some (r1, r2) := by rw [if_pos rfl] at H; exact H
          clear H; have H := H1; clear H1; by_cases c98 : x119001_1 < 0
          · rw [if_pos c98] at H
            have c98b0 : decide (x119001_1 < 0) = true := decide_eq_true c98
            clear c98; have H' := zB.mk H
            clear H; have hnb99 := NB115_116.out; have hnc99 := NB116_115.out; have hnb100 := NB115_117.out; have hnc100 := NB117_115.out; have hnb101 := NB115_118.out; have hnc101 := NB118_115.out; have hnb102 := NB115_120.out; have hnc102 := NB120_115.out; have hnb103 := NB115_126.out; have hnc103 := NB126_115.out; have hcz104_0 : wc.cell? ⟨gb115, 0, none⟩ = some (.slice (some ad119) l0_0.length c0_0) := (zG BK115.out 0).trans rfl
            have hcz104_1 : wc.cell? ⟨gb115, 1, none⟩ = some (.slice A0_1 l0_1.length c0_1) := (zG BK115.out 1).trans rfl
            have hfz104_0 := zI BK115.out 0; have hfz104_1 := zI BK115.out 1; have hnb105 := NB116_117.out; have hnc105 := NB117_116.out; have hnb106 := NB116_118.out; have hnc106 := NB118_116.out; have hnb107 := NB116_120.out; have hnc107 := NB120_116.out; have hnb108 := NB116_126.out; have hnc108 := NB126_116.out; have hcz109_0 : wc.cell? ⟨gb116, 0, none⟩ = some (.int .i64 a5_0) := (zG BK116.out 0).trans rfl
            have hcz109_1 : wc.cell? ⟨gb116, 1, none⟩ = some (.int .i64 a5_1) := (zG BK116.out 1).trans rfl
            have hcz109_2 : wc.cell? ⟨gb116, 2, none⟩ = some (.int .u8 a5_2) := (zG BK116.out 2).trans rfl
            have hcz109_3 : wc.cell? ⟨gb116, 3, none⟩ = some (.int .i64 a5_3) := (zG BK116.out 3).trans rfl
            have hcz109_4 : wc.cell? ⟨gb116, 4, none⟩ = some (.int .i64 a5_4) := (zG BK116.out 4).trans rfl
            have hcz109_5 : wc.cell? ⟨gb116, 5, none⟩ = some (.float .f64 a5_5) := (zG BK116.out 5).trans rfl
            have hfz109_0 := zI BK116.out 0; have hfz109_1 := zI BK116.out 1; have hfz109_2 := zI BK116.out 2; have hfz109_3 := zI BK116.out 3; have hfz109_4 := zI BK116.out 4; have hfz109_5 := zI BK116.out 5; go_wp2_with (first | ((with_reducible refine gate_callee (f := 31) rfl ?_); refine goesL_ (some 102) rfl rfl Try.func31 (by kernel_rfl) rfl #[.agg #[.slice (some ad119) l0_0.length c0_0, .slice A0_1 l0_1.length c0_1], .int .i64 a1, .int .u8 t123, .int .i64 (wrap64 (x15_40 + 1)), .int .i64 x17_40, .bool (x18_1 == a3), .agg #[.int .i64 a5_0, .int .i64 a5_1, .int .u8 a5_2, .int .i64 a5_3, .int .i64 a5_4, .float .f64 a5_5]] rfl (by (try simp only [List.map_toArray, List.map_cons, List.map_nil]); first | done | rfl | (simp only [List.length_drop, List.length_take]; rfl)) ?_; (with_reducible refine (best_price.calls kj66 _ _ l0_0 _ _ l0_1 a1 t123 (wrap64 (x15_40 + 1)) x17_40 (x18_1 == a3) a5_0 a5_1 a5_2 a5_3 a5_4 a5_5 t127 true _ ?side1 ?side2 ?side3 ?side4 A96.out).mono ?_); (case side1 => repeat (first | exact (Kd.C_below HR0_0.out HB.out) | (with_reducible refine Kd.C_alloc ?_ _) | (with_reducible refine Kd.C_drewN ?_ _) | (with_reducible refine Kd.C_drew ?_))); (case side2 => exact HC0_0.out); (case side3 => repeat (first | exact (Kd.C_below HR0_1.out HB.out) | (with_reducible refine Kd.C_alloc ?_ _) | (with_reducible refine Kd.C_drewN ?_ _) | (with_reducible refine Kd.C_drew ?_))); (case side4 => exact HC0_1.out); rintro e w110 ⟨rfl, hb⟩; refine ⟨_, rfl, ?_⟩; have n0_ := zB.mk (zK (g := gb115) (o := .cells #[.slice (some ad119) l0_0.length c0_0, .slice A0_1 l0_1.length c0_1] 31 (0, 0)) (by (with_reducible repeat (first | refine zC ?_ _ | refine zD ?_ | refine zA ?_ _)); exact BK115.out) hb); have n1_ := zB.mk (zK (g := gb116) (o := .cells #[.int .i64 a5_0, .int .i64 a5_1, .int .u8 a5_2, .int .i64 a5_3, .int .i64 a5_4, .float .f64 a5_5] 35 (0, 0)) (by (with_reducible repeat (first | refine zC ?_ _ | refine zD ?_ | refine zA ?_ _)); exact BK116.out) hb); have n2_ := zB.mk (zK (g := gb117) (o := .cells #[.int .i64 0, .int .i64 0] 65 (0, 0)) (by (with_reducible repeat (first | refine zC ?_ _ | refine zD ?_ | refine zA ?_ _)); exact BK117.out) hb); have n3_ := zB.mk (zK (g := gb118) (o := .cells #[.int .i64 x119000_1, .int .i64 x119001_1] 65 (0, 0)) (by (with_reducible repeat (first | refine zC ?_ _ | refine zD ?_ | refine zA ?_ _)); exact BK118.out) hb); have n4_ := zB.mk (zK (g := gb120) (o := .cells #[.int .i64 ((rd_T62 l0_0 (ji17)).f0), .int .i64 ((rd_T62 l0_0 (ji17)).f1), .int .i64 ((rd_T62 l0_0 (ji17)).f2), .int .u8 ((rd_T62 l0_0 (ji17)).f3)] 62 (0, 0)) (by (with_reducible repeat (first | refine zC ?_ _ | refine zD ?_ | refine zA ?_ _)); exact BK120.out) hb); have n5_ := zB.mk (zK (g := gb126) (o := .cells #[.int .i64 ((rd_T65 l4 (ji64)).f0), .int .i64 ((rd_T65 l4 (ji64)).f1)] 65 (0, 0)) (by (with_reducible repeat (first | refine zC ?_ _ | refine zD ?_ | refine zA ?_ _)); exact BK126.out) hb); have n6_ := zB.mk (zO (by repeat (first | (with_reducible first | exact HB.out | apply zJ | apply zF | apply zH | refine zE ?_ GE115.out | refine zE ?_ GE116.out | refine zE ?_ GE117.out | refine zE ?_ GE118.out | refine zE ?_ GE120.out | refine zE ?_ GE126.out) | exact HB.out)) hb); clear BK115; clear BK116; clear BK117; clear BK118; clear BK120; clear BK126; clear HB; have BK115 := n0_; have BK116 := n1_; have BK117 := n2_; have BK118 := n3_; have BK120 := n4_; have BK126 := n5_; have HB := n6_; clear n0_ n1_ n2_ n3_ n4_ n5_ n6_; (try clear hb); (try clear hb2); (try clear hk); (try clear hi); have hnb111 := NB118_117.out; have hnc111 := NB117_118.out; have hnb112 := NB118_120.out; have hnc112 := NB120_118.out; have hnb113 := NB118_126.out; have hnc113 := NB126_118.out; have hcz114_0 : w110.cell? ⟨gb118, 0, none⟩ = some (.int .i64 x119000_1) := (zG BK118.out 0).trans rfl; have hcz114_1 : w110.cell? ⟨gb118, 1, none⟩ = some (.int .i64 x119001_1) := (zG BK118.out 1).trans rfl; have hfz114_0 := zI BK118.out 0; have hfz114_1 := zI BK118.out 1; have hnb115 := NB126_117.out; have hnc115 := NB117_126.out; have hnb116 := NB126_120.out; have hnc116 := NB120_126.out; have hcz117_0 : w110.cell? ⟨gb126, 0, none⟩ = some (.int .i64 ((rd_T65 l4 (ji64)).f0)) := (zG BK126.out 0).trans rfl; have hcz117_1 : w110.cell? ⟨gb126, 1, none⟩ = some (.int .i64 ((rd_T65 l4 (ji64)).f1)) := (zG BK126.out 1).trans rfl; have hfz117_0 := zI BK126.out 0; have hfz117_1 := zI BK126.out 1) | ((with_reducible refine gate_store (t := 65) (p := 13) rfl ?_); refine store_event (t := 65) (p := 13) (v := ?vo_w118) (w1 := ((w110.setCell ⟨gb118, 0, none⟩ (.int .i64 (wrap64 (t127 + ((rd_T65 l4 (ji64)).f0))))).setCell ⟨gb118, 1, none⟩ (.int .i64 x18_1))) ?hg ?ho ?hn ?hr ?_; (case ho => rfl); (case hg => rfl); (case hn => rfl); (case hr => first | (go_simp; done) | (go_simp; rfl)); intro w118 hw; have n0_ : zB (w118.heap[gb115]? = some (.cells #[.slice (some ad119) l0_0.length c0_0, .slice A0_1 l0_1.length c0_1] 31 (0, 0))) := ⟨(by rw [hw]; exact (by (with_reducible repeat (first | refine zC ?_ _ | refine zD ?_ | refine zA ?_ _)); refine zN ?_ NB115_118.out _; (with_reducible repeat (first | refine zC ?_ _ | refine zD ?_ | refine zA ?_ _)); refine zN ?_ NB115_118.out _; (with_reducible repeat (first | refine zC ?_ _ | refine zD ?_ | refine zA ?_ _)); exact BK115.out))⟩; have n1_ : zB (w118.heap[gb116]? = some (.cells #[.int .i64 a5_0, .int .i64 a5_1, .int .u8 a5_2, .int .i64 a5_3, .int .i64 a5_4, .float .f64 a5_5] 35 (0, 0))) := ⟨(by rw [hw]; exact (by (with_reducible repeat (first | refine zC ?_ _ | refine zD ?_ | refine zA ?_ _)); refine zN ?_ NB116_118.out _; (with_reducible repeat (first | refine zC ?_ _ | refine zD ?_ | refine zA ?_ _)); refine zN ?_ NB116_118.out _; (with_reducible repeat (first | refine zC ?_ _ | refine zD ?_ | refine zA ?_ _)); exact BK116.out))⟩; have n2_ : zB (w118.heap[gb117]? = some (.cells #[.int .i64 0, .int .i64 0] 65 (0, 0))) := ⟨(by rw [hw]; exact (by (with_reducible repeat (first | refine zC ?_ _ | refine zD ?_ | refine zA ?_ _)); refine zN ?_ NB117_118.out _; (with_reducible repeat (first | refine zC ?_ _ | refine zD ?_ | refine zA ?_ _)); refine zN ?_ NB117_118.out _; (with_reducible repeat (first | refine zC ?_ _ | refine zD ?_ | refine zA ?_ _)); exact BK117.out))⟩; have n3_ : zB (w118.heap[gb118]? = some (.cells #[.int .i64 (wrap64 (t127 + ((rd_T65 l4 (ji64)).f0))), .int .i64 x18_1] 65 (0, 0))) := ⟨(by rw [hw]; exact (by (with_reducible repeat (first | refine zC ?_ _ | refine zD ?_ | refine zA ?_ _)); refine blk_put (cs := #[.int .i64 (wrap64 (t127 + ((rd_T65 l4 (ji64)).f0))), .int .i64 x119001_1]) ?_ 1 _ rfl; (with_reducible repeat (first | refine zC ?_ _ | refine zD ?_ | refine zA ?_ _)); refine blk_put (cs := #[.int .i64 x119000_1, .int .i64 x119001_1]) ?_ 0 _ rfl; (with_reducible repeat (first | refine zC ?_ _ | refine zD ?_ | refine zA ?_ _)); exact BK118.out))⟩; have n4_ : zB (w118.heap[gb120]? = some (.cells #[.int .i64 ((rd_T62 l0_0 (ji17)).f0), .int .i64 ((rd_T62 l0_0 (ji17)).f1), .int .i64 ((rd_T62 l0_0 (ji17)).f2), .int .u8 ((rd_T62 l0_0 (ji17)).f3)] 62 (0, 0))) := ⟨(by rw [hw]; exact (by (with_reducible repeat (first | refine zC ?_ _ | refine zD ?_ | refine zA ?_ _)); refine zN ?_ NB120_118.out _; (with_reducible repeat (first | refine zC ?_ _ | refine zD ?_ | refine zA ?_ _)); refine zN ?_ NB120_118.out _; (with_reducible repeat (first | refine zC ?_ _ | refine zD ?_ | refine zA ?_ _)); exact BK120.out))⟩; have n5_ : zB (w118.heap[gb126]? = some (.cells #[.int .i64 ((rd_T65 l4 (ji64)).f0), .int .i64 ((rd_T65 l4 (ji64)).f1)] 65 (0, 0))) := ⟨(by rw [hw]; exact (by (with_reducible repeat (first | refine zC ?_ _ | refine zD ?_ | refine zA ?_ _)); refine zN ?_ NB126_118.out _; (with_reducible repeat (first | refine zC ?_ _ | refine zD ?_ | refine zA ?_ _)); refine zN ?_ NB126_118.out _; (with_reducible repeat (first | refine zC ?_ _ | refine zD ?_ | refine zA ?_ _)); exact BK126.out))⟩; have n6_ : zB (Below w.heap.size w w118) := ⟨(by rw [hw]; exact (by repeat (first | (with_reducible first | exact HB.out | apply zJ | apply zF | apply zH | refine zE ?_ GE115.out | refine zE ?_ GE116.out | refine zE ?_ GE117.out | refine zE ?_ GE118.out | refine zE ?_ GE120.out | refine zE ?_ GE126.out) | exact HB.out)))⟩; clear hw; clear BK115; clear BK116; clear BK117; clear BK118; clear BK120; clear BK126; clear HB; have BK115 := n0_; have BK116 := n1_; have BK117 := n2_; have BK118 := n3_; have BK120 := n4_; have BK126 := n5_; have HB := n6_; clear n0_ n1_ n2_ n3_ n4_ n5_ n6_))
            go_roundg kj66
            case measure => have := HK1.out; have := HJ20.out; have := HJ40.out; have := HJ66.out; omega
            case rel => exact ⟨(t121), (x15_40), (x16_20), (x17_40), (wrap64 (x18_1 + 1)), (wrap64 (t127 + ((rd_T65 l4 (ji64)).f0))), (x18_1), (by first | rfl | (simp; done) | (simp [*]; done)), (by first | rfl | (simp; done) | (simp [*]; done)), (by first | rfl | (simp; done) | (simp [*]; done)), (by first | rfl | (simp; done) | (simp [*]; done)), (by first | rfl | (simp; done) | (simp [*]; done)), H', ⟨by have := HK1.out; have := HJ20.out; have := HJ40.out; have := HJ66.out; omega⟩, ⟨by (with_reducible repeat (first | refine zC ?_ _ | refine zD ?_ | refine zA ?_ _)); exact BK115.out⟩, ⟨by (with_reducible repeat (first | refine zC ?_ _ | refine zD ?_ | refine zA ?_ _)); exact BK116.out⟩, ⟨by (with_reducible repeat (first | refine zC ?_ _ | refine zD ?_ | refine zA ?_ _)); exact BK117.out⟩, ⟨by (with_reducible repeat (first | refine zC ?_ _ | refine zD ?_ | refine zA ?_ _)); exact BK118.out⟩, ⟨by repeat (first | (with_reducible first | exact HB.out | apply zJ | apply zF | apply zH | refine zE ?_ GE115.out | refine zE ?_ GE116.out | refine zE ?_ GE117.out | refine zE ?_ GE118.out | refine zE ?_ GE120.out | refine zE ?_ GE126.out) | exact HB.out)⟩⟩
          rw [if_neg c98] at H; have c98b0 : decide (x119001_1 < 0) = false := decide_eq_false c98
          clear c98; by_cases c119 : (wrap64 (t127 + ((rd_T65 l4 (ji64)).f0))) < x119000_1
          rotate_left
          · rw [if_neg c119] at H
            have c119b0 : decide ((wrap64 (t127 + ((rd_T65 l4 (ji64)).f0))) < x119000_1) = false := decide_eq_false c119
            clear c119; have H' := zB.mk H
            clear H; have hnb140 := NB115_116.out; have hnc140 := NB116_115.out; have hnb141 := NB115_117.out; have hnc141 := NB117_115.out; have hnb142 := NB115_118.out; have hnc142 := NB118_115.out; have hnb143 := NB115_120.out; have hnc143 := NB120_115.out; have hnb144 := NB115_126.out; have hnc144 := NB126_115.out; have hcz145_0 : wc.cell? ⟨gb115, 0, none⟩ = some (.slice (some ad119) l0_0.length c0_0) := (zG BK115.out 0).trans rfl
            have hcz145_1 : wc.cell? ⟨gb115, 1, none⟩ = some (.slice A0_1 l0_1.length c0_1) := (zG BK115.out 1).trans rfl
            have hfz145_0 := zI BK115.out 0; have hfz145_1 := zI BK115.out 1; have hnb146 := NB116_117.out; have hnc146 := NB117_116.out; have hnb147 := NB116_118.out; have hnc147 := NB118_116.out; have hnb148 := NB116_120.out; have hnc148 := NB120_116.out; have hnb149 := NB116_126.out; have hnc149 := NB126_116.out; have hcz150_0 : wc.cell? ⟨gb116, 0, none⟩ = some (.int .i64 a5_0) := (zG BK116.out 0).trans rfl
            have hcz150_1 : wc.cell? ⟨gb116, 1, none⟩ = some (.int .i64 a5_1) := (zG BK116.out 1).trans rfl
            have hcz150_2 : wc.cell? ⟨gb116, 2, none⟩ = some (.int .u8 a5_2) := (zG BK116.out 2).trans rfl
            have hcz150_3 : wc.cell? ⟨gb116, 3, none⟩ = some (.int .i64 a5_3) := (zG BK116.out 3).trans rfl
            have hcz150_4 : wc.cell? ⟨gb116, 4, none⟩ = some (.int .i64 a5_4) := (zG BK116.out 4).trans rfl
            have hcz150_5 : wc.cell? ⟨gb116, 5, none⟩ = some (.float .f64 a5_5) := (zG BK116.out 5).trans rfl
            have hfz150_0 := zI BK116.out 0; have hfz150_1 := zI BK116.out 1; have hfz150_2 := zI BK116.out 2; have hfz150_3 := zI BK116.out 3; have hfz150_4 := zI BK116.out 4; have hfz150_5 := zI BK116.out 5; go_wp2_with (first | ((with_reducible refine gate_callee (f := 31) rfl ?_); refine goesL_ (some 102) rfl rfl Try.func31 (by kernel_rfl) rfl #[.agg #[.slice (some ad119) l0_0.length c0_0, .slice A0_1 l0_1.length c0_1], .int .i64 a1, .int .u8 t123, .int .i64 (wrap64 (x15_40 + 1)), .int .i64 x17_40, .bool (x18_1 == a3), .agg #[.int .i64 a5_0, .int .i64 a5_1, .int .u8 a5_2, .int .i64 a5_3, .int .i64 a5_4, .float .f64 a5_5]] rfl (by (try simp only [List.map_toArray, List.map_cons, List.map_nil]); first | done | rfl | (simp only [List.length_drop, List.length_take]; rfl)) ?_; (with_reducible refine (best_price.calls kj66 _ _ l0_0 _ _ l0_1 a1 t123 (wrap64 (x15_40 + 1)) x17_40 (x18_1 == a3) a5_0 a5_1 a5_2 a5_3 a5_4 a5_5 t127 true _ ?side1 ?side2 ?side3 ?side4 A96.out).mono ?_); (case side1 => repeat (first | exact (Kd.C_below HR0_0.out HB.out) | (with_reducible refine Kd.C_alloc ?_ _) | (with_reducible refine Kd.C_drewN ?_ _) | (with_reducible refine Kd.C_drew ?_))); (case side2 => exact HC0_0.out); (case side3 => repeat (first | exact (Kd.C_below HR0_1.out HB.out) | (with_reducible refine Kd.C_alloc ?_ _) | (with_reducible refine Kd.C_drewN ?_ _) | (with_reducible refine Kd.C_drew ?_))); (case side4 => exact HC0_1.out); rintro e w151 ⟨rfl, hb⟩; refine ⟨_, rfl, ?_⟩; have n0_ := zB.mk (zK (g := gb115) (o := .cells #[.slice (some ad119) l0_0.length c0_0, .slice A0_1 l0_1.length c0_1] 31 (0, 0)) (by (with_reducible repeat (first | refine zC ?_ _ | refine zD ?_ | refine zA ?_ _)); exact BK115.out) hb); have n1_ := zB.mk (zK (g := gb116) (o := .cells #[.int .i64 a5_0, .int .i64 a5_1, .int .u8 a5_2, .int .i64 a5_3, .int .i64 a5_4, .float .f64 a5_5] 35 (0, 0)) (by (with_reducible repeat (first | refine zC ?_ _ | refine zD ?_ | refine zA ?_ _)); exact BK116.out) hb); have n2_ := zB.mk (zK (g := gb117) (o := .cells #[.int .i64 0, .int .i64 0] 65 (0, 0)) (by (with_reducible repeat (first | refine zC ?_ _ | refine zD ?_ | refine zA ?_ _)); exact BK117.out) hb); have n3_ := zB.mk (zK (g := gb118) (o := .cells #[.int .i64 x119000_1, .int .i64 x119001_1] 65 (0, 0)) (by (with_reducible repeat (first | refine zC ?_ _ | refine zD ?_ | refine zA ?_ _)); exact BK118.out) hb); have n4_ := zB.mk (zK (g := gb120) (o := .cells #[.int .i64 ((rd_T62 l0_0 (ji17)).f0), .int .i64 ((rd_T62 l0_0 (ji17)).f1), .int .i64 ((rd_T62 l0_0 (ji17)).f2), .int .u8 ((rd_T62 l0_0 (ji17)).f3)] 62 (0, 0)) (by (with_reducible repeat (first | refine zC ?_ _ | refine zD ?_ | refine zA ?_ _)); exact BK120.out) hb); have n5_ := zB.mk (zK (g := gb126) (o := .cells #[.int .i64 ((rd_T65 l4 (ji64)).f0), .int .i64 ((rd_T65 l4 (ji64)).f1)] 65 (0, 0)) (by (with_reducible repeat (first | refine zC ?_ _ | refine zD ?_ | refine zA ?_ _)); exact BK126.out) hb); have n6_ := zB.mk (zO (by repeat (first | (with_reducible first | exact HB.out | apply zJ | apply zF | apply zH | refine zE ?_ GE115.out | refine zE ?_ GE116.out | refine zE ?_ GE117.out | refine zE ?_ GE118.out | refine zE ?_ GE120.out | refine zE ?_ GE126.out) | exact HB.out)) hb); clear BK115; clear BK116; clear BK117; clear BK118; clear BK120; clear BK126; clear HB; have BK115 := n0_; have BK116 := n1_; have BK117 := n2_; have BK118 := n3_; have BK120 := n4_; have BK126 := n5_; have HB := n6_; clear n0_ n1_ n2_ n3_ n4_ n5_ n6_; (try clear hb); (try clear hb2); (try clear hk); (try clear hi); have hnb152 := NB118_117.out; have hnc152 := NB117_118.out; have hnb153 := NB118_120.out; have hnc153 := NB120_118.out; have hnb154 := NB118_126.out; have hnc154 := NB126_118.out; have hcz155_0 : w151.cell? ⟨gb118, 0, none⟩ = some (.int .i64 x119000_1) := (zG BK118.out 0).trans rfl; have hcz155_1 : w151.cell? ⟨gb118, 1, none⟩ = some (.int .i64 x119001_1) := (zG BK118.out 1).trans rfl; have hfz155_0 := zI BK118.out 0; have hfz155_1 := zI BK118.out 1; have hnb156 := NB126_117.out; have hnc156 := NB117_126.out; have hnb157 := NB126_120.out; have hnc157 := NB120_126.out; have hcz158_0 : w151.cell? ⟨gb126, 0, none⟩ = some (.int .i64 ((rd_T65 l4 (ji64)).f0)) := (zG BK126.out 0).trans rfl; have hcz158_1 : w151.cell? ⟨gb126, 1, none⟩ = some (.int .i64 ((rd_T65 l4 (ji64)).f1)) := (zG BK126.out 1).trans rfl; have hfz158_0 := zI BK126.out 0; have hfz158_1 := zI BK126.out 1))
            go_roundg kj66
            case measure => have := HK1.out; have := HJ20.out; have := HJ40.out; have := HJ66.out; omega
            case rel => exact ⟨(t121), (x15_40), (x16_20), (x17_40), (wrap64 (x18_1 + 1)), (x119000_1), (x119001_1), (by first | rfl | (simp; done) | (simp [*]; done)), (by first | rfl | (simp; done) | (simp [*]; done)), (by first | rfl | (simp; done) | (simp [*]; done)), (by first | rfl | (simp; done) | (simp [*]; done)), (by first | rfl | (simp; done) | (simp [*]; done)), H', ⟨by have := HK1.out; have := HJ20.out; have := HJ40.out; have := HJ66.out; omega⟩, ⟨by (with_reducible repeat (first | refine zC ?_ _ | refine zD ?_ | refine zA ?_ _)); exact BK115.out⟩, ⟨by (with_reducible repeat (first | refine zC ?_ _ | refine zD ?_ | refine zA ?_ _)); exact BK116.out⟩, ⟨by (with_reducible repeat (first | refine zC ?_ _ | refine zD ?_ | refine zA ?_ _)); exact BK117.out⟩, ⟨by (with_reducible repeat (first | refine zC ?_ _ | refine zD ?_ | refine zA ?_ _)); exact BK118.out⟩, ⟨by repeat (first | (with_reducible first | exact HB.out | apply zJ | apply zF | apply zH | refine zE ?_ GE115.out | refine zE ?_ GE116.out | refine zE ?_ GE117.out | refine zE ?_ GE118.out | refine zE ?_ GE120.out | refine zE ?_ GE126.out) | exact HB.out)⟩⟩
          rw [if_pos c119] at H; have c119b0 : decide ((wrap64 (t127 + ((rd_T65 l4 (ji64)).f0))) < x119000_1) = true := decide_eq_true c119
          clear c119; have H' := zB.mk H
          clear H; have hnb120 := NB115_116.out; have hnc120 := NB116_115.out; have hnb121 := NB115_117.out; have hnc121 := NB117_115.out; have hnb122 := NB115_118.out; have hnc122 := NB118_115.out; have hnb123 := NB115_120.out; have hnc123 := NB120_115.out; have hnb124 := NB115_126.out; have hnc124 := NB126_115.out; have hcz125_0 : wc.cell? ⟨gb115, 0, none⟩ = some (.slice (some ad119) l0_0.length c0_0) := (zG BK115.out 0).trans rfl
          have hcz125_1 : wc.cell? ⟨gb115, 1, none⟩ = some (.slice A0_1 l0_1.length c0_1) := (zG BK115.out 1).trans rfl
          have hfz125_0 := zI BK115.out 0; have hfz125_1 := zI BK115.out 1; have hnb126 := NB116_117.out; have hnc126 := NB117_116.out; have hnb127 := NB116_118.out; have hnc127 := NB118_116.out; have hnb128 := NB116_120.out; have hnc128 := NB120_116.out; have hnb129 := NB116_126.out; have hnc129 := NB126_116.out; have hcz130_0 : wc.cell? ⟨gb116, 0, none⟩ = some (.int .i64 a5_0) := (zG BK116.out 0).trans rfl
          have hcz130_1 : wc.cell? ⟨gb116, 1, none⟩ = some (.int .i64 a5_1) := (zG BK116.out 1).trans rfl
          have hcz130_2 : wc.cell? ⟨gb116, 2, none⟩ = some (.int .u8 a5_2) := (zG BK116.out 2).trans rfl
          have hcz130_3 : wc.cell? ⟨gb116, 3, none⟩ = some (.int .i64 a5_3) := (zG BK116.out 3).trans rfl
          have hcz130_4 : wc.cell? ⟨gb116, 4, none⟩ = some (.int .i64 a5_4) := (zG BK116.out 4).trans rfl
          have hcz130_5 : wc.cell? ⟨gb116, 5, none⟩ = some (.float .f64 a5_5) := (zG BK116.out 5).trans rfl
          have hfz130_0 := zI BK116.out 0; have hfz130_1 := zI BK116.out 1; have hfz130_2 := zI BK116.out 2; have hfz130_3 := zI BK116.out 3; have hfz130_4 := zI BK116.out 4; have hfz130_5 := zI BK116.out 5; go_wp2_with (first | ((with_reducible refine gate_callee (f := 31) rfl ?_); refine goesL_ (some 102) rfl rfl Try.func31 (by kernel_rfl) rfl #[.agg #[.slice (some ad119) l0_0.length c0_0, .slice A0_1 l0_1.length c0_1], .int .i64 a1, .int .u8 t123, .int .i64 (wrap64 (x15_40 + 1)), .int .i64 x17_40, .bool (x18_1 == a3), .agg #[.int .i64 a5_0, .int .i64 a5_1, .int .u8 a5_2, .int .i64 a5_3, .int .i64 a5_4, .float .f64 a5_5]] rfl (by (try simp only [List.map_toArray, List.map_cons, List.map_nil]); first | done | rfl | (simp only [List.length_drop, List.length_take]; rfl)) ?_; (with_reducible refine (best_price.calls kj66 _ _ l0_0 _ _ l0_1 a1 t123 (wrap64 (x15_40 + 1)) x17_40 (x18_1 == a3) a5_0 a5_1 a5_2 a5_3 a5_4 a5_5 t127 true _ ?side1 ?side2 ?side3 ?side4 A96.out).mono ?_); (case side1 => repeat (first | exact (Kd.C_below HR0_0.out HB.out) | (with_reducible refine Kd.C_alloc ?_ _) | (with_reducible refine Kd.C_drewN ?_ _) | (with_reducible refine Kd.C_drew ?_))); (case side2 => exact HC0_0.out); (case side3 => repeat (first | exact (Kd.C_below HR0_1.out HB.out) | (with_reducible refine Kd.C_alloc ?_ _) | (with_reducible refine Kd.C_drewN ?_ _) | (with_reducible refine Kd.C_drew ?_))); (case side4 => exact HC0_1.out); rintro e w131 ⟨rfl, hb⟩; refine ⟨_, rfl, ?_⟩; have n0_ := zB.mk (zK (g := gb115) (o := .cells #[.slice (some ad119) l0_0.length c0_0, .slice A0_1 l0_1.length c0_1] 31 (0, 0)) (by (with_reducible repeat (first | refine zC ?_ _ | refine zD ?_ | refine zA ?_ _)); exact BK115.out) hb); have n1_ := zB.mk (zK (g := gb116) (o := .cells #[.int .i64 a5_0, .int .i64 a5_1, .int .u8 a5_2, .int .i64 a5_3, .int .i64 a5_4, .float .f64 a5_5] 35 (0, 0)) (by (with_reducible repeat (first | refine zC ?_ _ | refine zD ?_ | refine zA ?_ _)); exact BK116.out) hb); have n2_ := zB.mk (zK (g := gb117) (o := .cells #[.int .i64 0, .int .i64 0] 65 (0, 0)) (by (with_reducible repeat (first | refine zC ?_ _ | refine zD ?_ | refine zA ?_ _)); exact BK117.out) hb); have n3_ := zB.mk (zK (g := gb118) (o := .cells #[.int .i64 x119000_1, .int .i64 x119001_1] 65 (0, 0)) (by (with_reducible repeat (first | refine zC ?_ _ | refine zD ?_ | refine zA ?_ _)); exact BK118.out) hb); have n4_ := zB.mk (zK (g := gb120) (o := .cells #[.int .i64 ((rd_T62 l0_0 (ji17)).f0), .int .i64 ((rd_T62 l0_0 (ji17)).f1), .int .i64 ((rd_T62 l0_0 (ji17)).f2), .int .u8 ((rd_T62 l0_0 (ji17)).f3)] 62 (0, 0)) (by (with_reducible repeat (first | refine zC ?_ _ | refine zD ?_ | refine zA ?_ _)); exact BK120.out) hb); have n5_ := zB.mk (zK (g := gb126) (o := .cells #[.int .i64 ((rd_T65 l4 (ji64)).f0), .int .i64 ((rd_T65 l4 (ji64)).f1)] 65 (0, 0)) (by (with_reducible repeat (first | refine zC ?_ _ | refine zD ?_ | refine zA ?_ _)); exact BK126.out) hb); have n6_ := zB.mk (zO (by repeat (first | (with_reducible first | exact HB.out | apply zJ | apply zF | apply zH | refine zE ?_ GE115.out | refine zE ?_ GE116.out | refine zE ?_ GE117.out | refine zE ?_ GE118.out | refine zE ?_ GE120.out | refine zE ?_ GE126.out) | exact HB.out)) hb); clear BK115; clear BK116; clear BK117; clear BK118; clear BK120; clear BK126; clear HB; have BK115 := n0_; have BK116 := n1_; have BK117 := n2_; have BK118 := n3_; have BK120 := n4_; have BK126 := n5_; have HB := n6_; clear n0_ n1_ n2_ n3_ n4_ n5_ n6_; (try clear hb); (try clear hb2); (try clear hk); (try clear hi); have hnb132 := NB118_117.out; have hnc132 := NB117_118.out; have hnb133 := NB118_120.out; have hnc133 := NB120_118.out; have hnb134 := NB118_126.out; have hnc134 := NB126_118.out; have hcz135_0 : w131.cell? ⟨gb118, 0, none⟩ = some (.int .i64 x119000_1) := (zG BK118.out 0).trans rfl; have hcz135_1 : w131.cell? ⟨gb118, 1, none⟩ = some (.int .i64 x119001_1) := (zG BK118.out 1).trans rfl; have hfz135_0 := zI BK118.out 0; have hfz135_1 := zI BK118.out 1; have hnb136 := NB126_117.out; have hnc136 := NB117_126.out; have hnb137 := NB126_120.out; have hnc137 := NB120_126.out; have hcz138_0 : w131.cell? ⟨gb126, 0, none⟩ = some (.int .i64 ((rd_T65 l4 (ji64)).f0)) := (zG BK126.out 0).trans rfl; have hcz138_1 : w131.cell? ⟨gb126, 1, none⟩ = some (.int .i64 ((rd_T65 l4 (ji64)).f1)) := (zG BK126.out 1).trans rfl; have hfz138_0 := zI BK126.out 0; have hfz138_1 := zI BK126.out 1) | ((with_reducible refine gate_store (t := 65) (p := 13) rfl ?_); refine store_event (t := 65) (p := 13) (v := ?vo_w139) (w1 := ((w131.setCell ⟨gb118, 0, none⟩ (.int .i64 (wrap64 (t127 + ((rd_T65 l4 (ji64)).f0))))).setCell ⟨gb118, 1, none⟩ (.int .i64 x18_1))) ?hg ?ho ?hn ?hr ?_; (case ho => rfl); (case hg => rfl); (case hn => rfl); (case hr => first | (go_simp; done) | (go_simp; rfl)); intro w139 hw; have n0_ : zB (w139.heap[gb115]? = some (.cells #[.slice (some ad119) l0_0.length c0_0, .slice A0_1 l0_1.length c0_1] 31 (0, 0))) := ⟨(by rw [hw]; exact (by (with_reducible repeat (first | refine zC ?_ _ | refine zD ?_ | refine zA ?_ _)); refine zN ?_ NB115_118.out _; (with_reducible repeat (first | refine zC ?_ _ | refine zD ?_ | refine zA ?_ _)); refine zN ?_ NB115_118.out _; (with_reducible repeat (first | refine zC ?_ _ | refine zD ?_ | refine zA ?_ _)); exact BK115.out))⟩; have n1_ : zB (w139.heap[gb116]? = some (.cells #[.int .i64 a5_0, .int .i64 a5_1, .int .u8 a5_2, .int .i64 a5_3, .int .i64 a5_4, .float .f64 a5_5] 35 (0, 0))) := ⟨(by rw [hw]; exact (by (with_reducible repeat (first | refine zC ?_ _ | refine zD ?_ | refine zA ?_ _)); refine zN ?_ NB116_118.out _; (with_reducible repeat (first | refine zC ?_ _ | refine zD ?_ | refine zA ?_ _)); refine zN ?_ NB116_118.out _; (with_reducible repeat (first | refine zC ?_ _ | refine zD ?_ | refine zA ?_ _)); exact BK116.out))⟩; have n2_ : zB (w139.heap[gb117]? = some (.cells #[.int .i64 0, .int .i64 0] 65 (0, 0))) := ⟨(by rw [hw]; exact (by (with_reducible repeat (first | refine zC ?_ _ | refine zD ?_ | refine zA ?_ _)); refine zN ?_ NB117_118.out _; (with_reducible repeat (first | refine zC ?_ _ | refine zD ?_ | refine zA ?_ _)); refine zN ?_ NB117_118.out _; (with_reducible repeat (first | refine zC ?_ _ | refine zD ?_ | refine zA ?_ _)); exact BK117.out))⟩; have n3_ : zB (w139.heap[gb118]? = some (.cells #[.int .i64 (wrap64 (t127 + ((rd_T65 l4 (ji64)).f0))), .int .i64 x18_1] 65 (0, 0))) := ⟨(by rw [hw]; exact (by (with_reducible repeat (first | refine zC ?_ _ | refine zD ?_ | refine zA ?_ _)); refine blk_put (cs := #[.int .i64 (wrap64 (t127 + ((rd_T65 l4 (ji64)).f0))), .int .i64 x119001_1]) ?_ 1 _ rfl; (with_reducible repeat (first | refine zC ?_ _ | refine zD ?_ | refine zA ?_ _)); refine blk_put (cs := #[.int .i64 x119000_1, .int .i64 x119001_1]) ?_ 0 _ rfl; (with_reducible repeat (first | refine zC ?_ _ | refine zD ?_ | refine zA ?_ _)); exact BK118.out))⟩; have n4_ : zB (w139.heap[gb120]? = some (.cells #[.int .i64 ((rd_T62 l0_0 (ji17)).f0), .int .i64 ((rd_T62 l0_0 (ji17)).f1), .int .i64 ((rd_T62 l0_0 (ji17)).f2), .int .u8 ((rd_T62 l0_0 (ji17)).f3)] 62 (0, 0))) := ⟨(by rw [hw]; exact (by (with_reducible repeat (first | refine zC ?_ _ | refine zD ?_ | refine zA ?_ _)); refine zN ?_ NB120_118.out _; (with_reducible repeat (first | refine zC ?_ _ | refine zD ?_ | refine zA ?_ _)); refine zN ?_ NB120_118.out _; (with_reducible repeat (first | refine zC ?_ _ | refine zD ?_ | refine zA ?_ _)); exact BK120.out))⟩; have n5_ : zB (w139.heap[gb126]? = some (.cells #[.int .i64 ((rd_T65 l4 (ji64)).f0), .int .i64 ((rd_T65 l4 (ji64)).f1)] 65 (0, 0))) := ⟨(by rw [hw]; exact (by (with_reducible repeat (first | refine zC ?_ _ | refine zD ?_ | refine zA ?_ _)); refine zN ?_ NB126_118.out _; (with_reducible repeat (first | refine zC ?_ _ | refine zD ?_ | refine zA ?_ _)); refine zN ?_ NB126_118.out _; (with_reducible repeat (first | refine zC ?_ _ | refine zD ?_ | refine zA ?_ _)); exact BK126.out))⟩; have n6_ : zB (Below w.heap.size w w139) := ⟨(by rw [hw]; exact (by repeat (first | (with_reducible first | exact HB.out | apply zJ | apply zF | apply zH | refine zE ?_ GE115.out | refine zE ?_ GE116.out | refine zE ?_ GE117.out | refine zE ?_ GE118.out | refine zE ?_ GE120.out | refine zE ?_ GE126.out) | exact HB.out)))⟩; clear hw; clear BK115; clear BK116; clear BK117; clear BK118; clear BK120; clear BK126; clear HB; have BK115 := n0_; have BK116 := n1_; have BK117 := n2_; have BK118 := n3_; have BK120 := n4_; have BK126 := n5_; have HB := n6_; clear n0_ n1_ n2_ n3_ n4_ n5_ n6_))
          go_roundg kj66
          case measure => have := HK1.out; have := HJ20.out; have := HJ40.out; have := HJ66.out; omega
          case rel => exact ⟨(t121), (x15_40), (x16_20), (x17_40), (wrap64 (x18_1 + 1)), (wrap64 (t127 + ((rd_T65 l4 (ji64)).f0))), (x18_1), (by first | rfl | (simp; done) | (simp [*]; done)), (by first | rfl | (simp; done) | (simp [*]; done)), (by first | rfl | (simp; done) | (simp [*]; done)), (by first | rfl | (simp; done) | (simp [*]; done)), (by first | rfl | (simp; done) | (simp [*]; done)), H', ⟨by have := HK1.out; have := HJ20.out; have := HJ40.out; have := HJ66.out; omega⟩, ⟨by (with_reducible repeat (first | refine zC ?_ _ | refine zD ?_ | refine zA ?_ _)); exact BK115.out⟩, ⟨by (with_reducible repeat (first | refine zC ?_ _ | refine zD ?_ | refine zA ?_ _)); exact BK116.out⟩, ⟨by (with_reducible repeat (first | refine zC ?_ _ | refine zD ?_ | refine zA ?_ _)); exact BK117.out⟩, ⟨by (with_reducible repeat (first | refine zC ?_ _ | refine zD ?_ | refine zA ?_ _)); exact BK118.out⟩, ⟨by repeat (first | (with_reducible first | exact HB.out | apply zJ | apply zF | apply zH | refine zE ?_ GE115.out | refine zE ?_ GE116.out | refine zE ?_ GE117.out | refine zE ?_ GE118.out | refine zE ?_ GE120.out | refine zE ?_ GE126.out) | exact HB.out)⟩⟩
end Go.Proofs.Ytlgclhhkgohanaa.F
end
