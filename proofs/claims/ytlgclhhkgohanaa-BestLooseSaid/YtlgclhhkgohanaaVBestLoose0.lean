/- Printed by a program: Lean functions that answer as the Go functions do, and the proofs of it. -/
import Derived.Test.YtlgclhhkgohanaaProg
import Derived.Below
import Derived.Deep.Draws
import Derived.Deep.AppendLies
import Derived.Maps.AppendAt
import Derived.OwnWalk
import Derived.Laws.BytesArg
import Derived.Laws.MakeOwn
import Derived.Laws.OwnMore
import Derived.Deep.OwnRows
import Derived.Tactics
import Derived.Lib.ConvBytes
import Derived.Laws.Slices
import Derived.WalkKit
import Derived.KernelRfl
import Derived.RowKit3
import Derived.Deep.LoopGhost
import Derived.Deep.QuietTactic
import Derived.BigQuiet
import Derived.WideLaws
import Derived.Deep.DeepCutAuto
import Derived.Deep.CutBlock
import Derived.Deep.RegionHeld3
import Derived.Laws.Rows
import Derived.Lib.AppendStr
import Derived.ArgAppend
import Derived.Laws.IdiomCopy
import Derived.OrdersHeld
import Derived.Laws.BitsLemmas
import Derived.RowKit
import Derived.Laws.FloatArith
import Derived.Test.YtlgclhhkgohanaaXBestLoose0
section
namespace Go.Proofs.Ytlgclhhkgohanaa.F
open Go.RowKit Go.Proofs.YtlgclhhkgohanaaW.PrintWords Go.Proofs.YtlgclhhkgohanaaW.PrintLast Go.Proofs.YtlgclhhkgohanaaW.PrintMore
attribute [local go_sem] max2_int min2_int max_two min_two max_three min_three max_four min_four   -- for this text's walks alone
set_option linter.unusedVariables false
set_option linter.unusedSimpArgs false
def errW : Option Int → Value
  | none => .nilIface
  | some c => .iface 0 (.int .i64 c)
theorem errW_none : errW none = .nilIface := rfl
theorem errW_some (c : Int) : errW (some c) = .iface 0 (.int .i64 c) := rfl
theorem info3 : (Try.prog.info? 3).map (fun i => (i.zero, i.size, i.bytes)) = some (some (.int .i64 0), 1, 8) := by kernel_rfl
theorem info45 : (Try.prog.info? 45).map (fun i => (i.zero, i.size, i.bytes)) = some (some (.agg #[(.int .u8 0), (.int .u8 0), (.int .u8 0), (.int .u8 0)]), 4, 4) := by kernel_rfl
theorem info46 : (Try.prog.info? 46).map (fun i => (i.zero, i.size, i.bytes)) = some (some (.int .u8 0), 1, 1) := by kernel_rfl
theorem info48 : (Try.prog.info? 48).map (fun i => (i.zero, i.size, i.bytes)) = some (some (.agg #[(.int .i64 0), (.int .i64 0), (.int .i64 0), (.int .u8 0)]), 4, 32) := by kernel_rfl
theorem info62 : (Try.prog.info? 62).map (fun i => (i.zero, i.size, i.bytes)) = some (some (.agg #[(.int .i64 0), (.int .i64 0), (.int .i64 0), (.int .u8 0)]), 4, 32) := by kernel_rfl
theorem info65 : (Try.prog.info? 65).map (fun i => (i.zero, i.size, i.bytes)) = some (some (.agg #[(.int .i64 0), (.int .i64 0)]), 2, 16) := by kernel_rfl
structure S62 where
  f0 : Int
  f1 : Int
  f2 : Int
  f3 : Int
def z62 : S62 := ⟨(0 : Int), (0 : Int), (0 : Int), (0 : Int)⟩
def k62 : Kd S62 := Kd.iso (Kd.pair (Kd.int .i64) (Kd.pair (Kd.int .i64) (Kd.pair (Kd.int .i64) (Kd.int .u8)))) (fun x : S62 => (x.f0, x.f1, x.f2, x.f3))
theorem k62_open {w : World} {x : S62} {cs : List Value} (h : k62.K w x cs) : cs = [.int .i64 x.f0, .int .i64 x.f1, .int .i64 x.f2, .int .u8 x.f3] := by
  obtain ⟨_, _, rfl, rfl, ⟨_, _, rfl, rfl, ⟨_, _, rfl, rfl, rfl⟩⟩⟩ := h; exact rfl
theorem k62_openM {w : World} {base : Nat} {ok : Nat → Prop} {x : S62} {cs : List Value} (h : k62.M w base ok x cs) : cs = [.int .i64 x.f0, .int .i64 x.f1, .int .i64 x.f2, .int .u8 x.f3] := by
  obtain ⟨_, _, rfl, rfl, ⟨_, _, rfl, rfl, ⟨_, _, rfl, rfl, rfl⟩⟩⟩ := h; exact rfl
theorem k62_mk (w : World) (x : S62)  : k62.K w x [.int .i64 x.f0, .int .i64 x.f1, .int .i64 x.f2, .int .u8 x.f3] := ⟨[.int .i64 x.f0], [.int .i64 x.f1, .int .i64 x.f2, .int .u8 x.f3], rfl, rfl, ⟨[.int .i64 x.f1], [.int .i64 x.f2, .int .u8 x.f3], rfl, rfl, ⟨[.int .i64 x.f2], [.int .u8 x.f3], rfl, rfl, rfl⟩⟩⟩
theorem k62_mkM (w : World) (base : Nat) (ok : Nat → Prop) (x : S62)  : k62.M w base ok x [.int .i64 x.f0, .int .i64 x.f1, .int .i64 x.f2, .int .u8 x.f3] := ⟨[.int .i64 x.f0], [.int .i64 x.f1, .int .i64 x.f2, .int .u8 x.f3], rfl, rfl, ⟨[.int .i64 x.f1], [.int .i64 x.f2, .int .u8 x.f3], rfl, rfl, ⟨[.int .i64 x.f2], [.int .u8 x.f3], rfl, rfl, rfl⟩⟩⟩
def rd_T62 (xs : List S62) (i : Int) : S62 := xs.getD i.toNat z62
theorem at_T62 {w : World} {A : Option Addr} {n : Nat} {xs : List S62} (h : Kd.C k62 w A n xs) (i : Int) (h0 : 0 ≤ i) (h1 : i < n) : ∃ ad , A = some ad ∧ w.cell? (ad.add (i.toNat * 4)) = some (.int .i64 (rd_T62 xs i).f0) ∧ w.cell? ⟨(ad.add (i.toNat * 4)).block, (ad.add (i.toNat * 4)).off + 1, none⟩ = some (.int .i64 (rd_T62 xs i).f1) ∧ w.cell? ⟨(ad.add (i.toNat * 4)).block, (ad.add (i.toNat * 4)).off + 2, none⟩ = some (.int .i64 (rd_T62 xs i).f2) ∧ w.cell? ⟨(ad.add (i.toNat * 4)).block, (ad.add (i.toNat * 4)).off + 3, none⟩ = some (.int .u8 (rd_T62 xs i).f3) := by
  obtain ⟨ad, c, e, _, hK, hc0⟩ := Kd.C_get h z62 i h0 h1; have hc : ∀ j u, c[j]? = some u → w.cell? (ad.add (i.toNat * 4 + j)) = some u := hc0
  obtain rfl := k62_open hK
  exact ⟨ad, e, hc 0 _ rfl, by rw [← add_field _ _ 1 (by omega)]; exact hc 1 _ rfl, by rw [← add_field _ _ 2 (by omega)]; exact hc 2 _ rfl, by rw [← add_field _ _ 3 (by omega)]; exact hc 3 _ rfl⟩
structure S65 where
  f0 : Int
  f1 : Int
def z65 : S65 := ⟨(0 : Int), (0 : Int)⟩
def k65 : Kd S65 := Kd.iso (Kd.pair (Kd.int .i64) (Kd.int .i64)) (fun x : S65 => (x.f0, x.f1))
theorem k65_open {w : World} {x : S65} {cs : List Value} (h : k65.K w x cs) : cs = [.int .i64 x.f0, .int .i64 x.f1] := by
  obtain ⟨_, _, rfl, rfl, rfl⟩ := h; exact rfl
theorem k65_openM {w : World} {base : Nat} {ok : Nat → Prop} {x : S65} {cs : List Value} (h : k65.M w base ok x cs) : cs = [.int .i64 x.f0, .int .i64 x.f1] := by
  obtain ⟨_, _, rfl, rfl, rfl⟩ := h; exact rfl
theorem k65_mk (w : World) (x : S65)  : k65.K w x [.int .i64 x.f0, .int .i64 x.f1] := ⟨[.int .i64 x.f0], [.int .i64 x.f1], rfl, rfl, rfl⟩
theorem k65_mkM (w : World) (base : Nat) (ok : Nat → Prop) (x : S65)  : k65.M w base ok x [.int .i64 x.f0, .int .i64 x.f1] := ⟨[.int .i64 x.f0], [.int .i64 x.f1], rfl, rfl, rfl⟩
def rd_T65 (xs : List S65) (i : Int) : S65 := xs.getD i.toNat z65
theorem at_T65 {w : World} {A : Option Addr} {n : Nat} {xs : List S65} (h : Kd.C k65 w A n xs) (i : Int) (h0 : 0 ≤ i) (h1 : i < n) : ∃ ad , A = some ad ∧ w.cell? (ad.add (i.toNat * 2)) = some (.int .i64 (rd_T65 xs i).f0) ∧ w.cell? ⟨(ad.add (i.toNat * 2)).block, (ad.add (i.toNat * 2)).off + 1, none⟩ = some (.int .i64 (rd_T65 xs i).f1) := by
  obtain ⟨ad, c, e, _, hK, hc0⟩ := Kd.C_get h z65 i h0 h1; have hc : ∀ j u, c[j]? = some u → w.cell? (ad.add (i.toNat * 2 + j)) = some u := hc0
  obtain rfl := k65_open hK
  exact ⟨ad, e, hc 0 _ rfl, by rw [← add_field _ _ 1 (by omega)]; exact hc 1 _ rfl⟩
structure S48 where
  f0 : Int
  f1 : Int
  f2 : Int
  f3 : Int
def z48 : S48 := ⟨(0 : Int), (0 : Int), (0 : Int), (0 : Int)⟩
def k48 : Kd S48 := Kd.iso (Kd.pair (Kd.int .i64) (Kd.pair (Kd.int .i64) (Kd.pair (Kd.int .i64) (Kd.int .u8)))) (fun x : S48 => (x.f0, x.f1, x.f2, x.f3))
theorem k48_open {w : World} {x : S48} {cs : List Value} (h : k48.K w x cs) : cs = [.int .i64 x.f0, .int .i64 x.f1, .int .i64 x.f2, .int .u8 x.f3] := by
  obtain ⟨_, _, rfl, rfl, ⟨_, _, rfl, rfl, ⟨_, _, rfl, rfl, rfl⟩⟩⟩ := h; exact rfl
theorem k48_openM {w : World} {base : Nat} {ok : Nat → Prop} {x : S48} {cs : List Value} (h : k48.M w base ok x cs) : cs = [.int .i64 x.f0, .int .i64 x.f1, .int .i64 x.f2, .int .u8 x.f3] := by
  obtain ⟨_, _, rfl, rfl, ⟨_, _, rfl, rfl, ⟨_, _, rfl, rfl, rfl⟩⟩⟩ := h; exact rfl
theorem k48_mk (w : World) (x : S48)  : k48.K w x [.int .i64 x.f0, .int .i64 x.f1, .int .i64 x.f2, .int .u8 x.f3] := ⟨[.int .i64 x.f0], [.int .i64 x.f1, .int .i64 x.f2, .int .u8 x.f3], rfl, rfl, ⟨[.int .i64 x.f1], [.int .i64 x.f2, .int .u8 x.f3], rfl, rfl, ⟨[.int .i64 x.f2], [.int .u8 x.f3], rfl, rfl, rfl⟩⟩⟩
theorem k48_mkM (w : World) (base : Nat) (ok : Nat → Prop) (x : S48)  : k48.M w base ok x [.int .i64 x.f0, .int .i64 x.f1, .int .i64 x.f2, .int .u8 x.f3] := ⟨[.int .i64 x.f0], [.int .i64 x.f1, .int .i64 x.f2, .int .u8 x.f3], rfl, rfl, ⟨[.int .i64 x.f1], [.int .i64 x.f2, .int .u8 x.f3], rfl, rfl, ⟨[.int .i64 x.f2], [.int .u8 x.f3], rfl, rfl, rfl⟩⟩⟩
def rd_T48 (xs : List S48) (i : Int) : S48 := xs.getD i.toNat z48
theorem at_T48 {w : World} {A : Option Addr} {n : Nat} {xs : List S48} (h : Kd.C k48 w A n xs) (i : Int) (h0 : 0 ≤ i) (h1 : i < n) : ∃ ad , A = some ad ∧ w.cell? (ad.add (i.toNat * 4)) = some (.int .i64 (rd_T48 xs i).f0) ∧ w.cell? ⟨(ad.add (i.toNat * 4)).block, (ad.add (i.toNat * 4)).off + 1, none⟩ = some (.int .i64 (rd_T48 xs i).f1) ∧ w.cell? ⟨(ad.add (i.toNat * 4)).block, (ad.add (i.toNat * 4)).off + 2, none⟩ = some (.int .i64 (rd_T48 xs i).f2) ∧ w.cell? ⟨(ad.add (i.toNat * 4)).block, (ad.add (i.toNat * 4)).off + 3, none⟩ = some (.int .u8 (rd_T48 xs i).f3) := by
  obtain ⟨ad, c, e, _, hK, hc0⟩ := Kd.C_get h z48 i h0 h1; have hc : ∀ j u, c[j]? = some u → w.cell? (ad.add (i.toNat * 4 + j)) = some u := hc0
  obtain rfl := k48_open hK
  exact ⟨ad, e, hc 0 _ rfl, by rw [← add_field _ _ 1 (by omega)]; exact hc 1 _ rfl, by rw [← add_field _ _ 2 (by omega)]; exact hc 2 _ rfl, by rw [← add_field _ _ 3 (by omega)]; exact hc 3 _ rfl⟩
structure S45 where
  f0 : Int
  f1 : Int
  f2 : Int
  f3 : Int
def z45 : S45 := ⟨(0 : Int), (0 : Int), (0 : Int), (0 : Int)⟩
def k45 : Kd S45 := Kd.iso (Kd.pair (Kd.int .u8) (Kd.pair (Kd.int .u8) (Kd.pair (Kd.int .u8) (Kd.int .u8)))) (fun x : S45 => (x.f0, x.f1, x.f2, x.f3))
theorem k45_open {w : World} {x : S45} {cs : List Value} (h : k45.K w x cs) : cs = [.int .u8 x.f0, .int .u8 x.f1, .int .u8 x.f2, .int .u8 x.f3] := by
  obtain ⟨_, _, rfl, rfl, ⟨_, _, rfl, rfl, ⟨_, _, rfl, rfl, rfl⟩⟩⟩ := h; exact rfl
theorem k45_openM {w : World} {base : Nat} {ok : Nat → Prop} {x : S45} {cs : List Value} (h : k45.M w base ok x cs) : cs = [.int .u8 x.f0, .int .u8 x.f1, .int .u8 x.f2, .int .u8 x.f3] := by
  obtain ⟨_, _, rfl, rfl, ⟨_, _, rfl, rfl, ⟨_, _, rfl, rfl, rfl⟩⟩⟩ := h; exact rfl
theorem k45_mk (w : World) (x : S45)  : k45.K w x [.int .u8 x.f0, .int .u8 x.f1, .int .u8 x.f2, .int .u8 x.f3] := ⟨[.int .u8 x.f0], [.int .u8 x.f1, .int .u8 x.f2, .int .u8 x.f3], rfl, rfl, ⟨[.int .u8 x.f1], [.int .u8 x.f2, .int .u8 x.f3], rfl, rfl, ⟨[.int .u8 x.f2], [.int .u8 x.f3], rfl, rfl, rfl⟩⟩⟩
theorem k45_mkM (w : World) (base : Nat) (ok : Nat → Prop) (x : S45)  : k45.M w base ok x [.int .u8 x.f0, .int .u8 x.f1, .int .u8 x.f2, .int .u8 x.f3] := ⟨[.int .u8 x.f0], [.int .u8 x.f1, .int .u8 x.f2, .int .u8 x.f3], rfl, rfl, ⟨[.int .u8 x.f1], [.int .u8 x.f2, .int .u8 x.f3], rfl, rfl, ⟨[.int .u8 x.f2], [.int .u8 x.f3], rfl, rfl, rfl⟩⟩⟩
def rd_T45 (xs : List S45) (i : Int) : S45 := xs.getD i.toNat z45
theorem at_T45 {w : World} {A : Option Addr} {n : Nat} {xs : List S45} (h : Kd.C k45 w A n xs) (i : Int) (h0 : 0 ≤ i) (h1 : i < n) : ∃ ad , A = some ad ∧ w.cell? (ad.add (i.toNat * 4)) = some (.int .u8 (rd_T45 xs i).f0) ∧ w.cell? ⟨(ad.add (i.toNat * 4)).block, (ad.add (i.toNat * 4)).off + 1, none⟩ = some (.int .u8 (rd_T45 xs i).f1) ∧ w.cell? ⟨(ad.add (i.toNat * 4)).block, (ad.add (i.toNat * 4)).off + 2, none⟩ = some (.int .u8 (rd_T45 xs i).f2) ∧ w.cell? ⟨(ad.add (i.toNat * 4)).block, (ad.add (i.toNat * 4)).off + 3, none⟩ = some (.int .u8 (rd_T45 xs i).f3) := by
  obtain ⟨ad, c, e, _, hK, hc0⟩ := Kd.C_get h z45 i h0 h1; have hc : ∀ j u, c[j]? = some u → w.cell? (ad.add (i.toNat * 4 + j)) = some u := hc0
  obtain rfl := k45_open hK
  exact ⟨ad, e, hc 0 _ rfl, by rw [← add_field _ _ 1 (by omega)]; exact hc 1 _ rfl, by rw [← add_field _ _ 2 (by omega)]; exact hc 2 _ rfl, by rw [← add_field _ _ 3 (by omega)]; exact hc 3 _ rfl⟩
def rd_L6 (xs : List (List S45)) (i : Int) : (List S45) := xs.getD i.toNat ([] : List S45)
theorem at_L6 {w : World} {A : Option Addr} {n : Nat} {xs : List (List S45)} (h : Kd.C (Kd.slice 45 k45) w A n xs) (i : Int) (h0 : 0 ≤ i) (h1 : i < n) : ∃ ad A0 c0, A = some ad ∧ w.cell? (ad.add i.toNat) = some (.slice A0 (rd_L6 xs i).length c0) ∧ (rd_L6 xs i).length ≤ c0 ∧ k45.C w A0 (rd_L6 xs i).length (rd_L6 xs i) := by
  obtain ⟨ad, c, e, _, hK, hc0⟩ := Kd.C_get h ([] : List S45) i h0 h1; have hc : ∀ j u, c[j]? = some u → w.cell? (ad.add (i.toNat * 1 + j)) = some u := hc0
  obtain ⟨A0, c0, rfl, l0, g0⟩ := hK; exact ⟨ad, A0, c0, e, by have hq := hc 0 _ rfl; rwa [Nat.mul_one, Nat.add_zero] at hq, l0, g0⟩
structure S26 where
  f0 : Int
  f1 : Int
  f2 : Int
  f3 : Int
  f4 : Int
  f5 : Nat
def z26 : S26 := ⟨(0 : Int), (0 : Int), (0 : Int), (0 : Int), (0 : Int), (0 : Nat)⟩
def k26 : Kd S26 := Kd.iso (Kd.pair (Kd.int .u8) (Kd.pair (Kd.int .u8) (Kd.pair (Kd.int .u8) (Kd.pair (Kd.int .u16) (Kd.pair (Kd.int .u16) Kd.f64))))) (fun x : S26 => (x.f0, x.f1, x.f2, x.f3, x.f4, x.f5))
theorem k26_open {w : World} {x : S26} {cs : List Value} (h : k26.K w x cs) : cs = [.int .u8 x.f0, .int .u8 x.f1, .int .u8 x.f2, .int .u16 x.f3, .int .u16 x.f4, .float .f64 x.f5] := by
  obtain ⟨_, _, rfl, rfl, ⟨_, _, rfl, rfl, ⟨_, _, rfl, rfl, ⟨_, _, rfl, rfl, ⟨_, _, rfl, rfl, rfl⟩⟩⟩⟩⟩ := h; exact rfl
theorem k26_openM {w : World} {base : Nat} {ok : Nat → Prop} {x : S26} {cs : List Value} (h : k26.M w base ok x cs) : cs = [.int .u8 x.f0, .int .u8 x.f1, .int .u8 x.f2, .int .u16 x.f3, .int .u16 x.f4, .float .f64 x.f5] := by
  obtain ⟨_, _, rfl, rfl, ⟨_, _, rfl, rfl, ⟨_, _, rfl, rfl, ⟨_, _, rfl, rfl, ⟨_, _, rfl, rfl, rfl⟩⟩⟩⟩⟩ := h; exact rfl
theorem k26_mk (w : World) (x : S26)  : k26.K w x [.int .u8 x.f0, .int .u8 x.f1, .int .u8 x.f2, .int .u16 x.f3, .int .u16 x.f4, .float .f64 x.f5] := ⟨[.int .u8 x.f0], [.int .u8 x.f1, .int .u8 x.f2, .int .u16 x.f3, .int .u16 x.f4, .float .f64 x.f5], rfl, rfl, ⟨[.int .u8 x.f1], [.int .u8 x.f2, .int .u16 x.f3, .int .u16 x.f4, .float .f64 x.f5], rfl, rfl, ⟨[.int .u8 x.f2], [.int .u16 x.f3, .int .u16 x.f4, .float .f64 x.f5], rfl, rfl, ⟨[.int .u16 x.f3], [.int .u16 x.f4, .float .f64 x.f5], rfl, rfl, ⟨[.int .u16 x.f4], [.float .f64 x.f5], rfl, rfl, rfl⟩⟩⟩⟩⟩
theorem k26_mkM (w : World) (base : Nat) (ok : Nat → Prop) (x : S26)  : k26.M w base ok x [.int .u8 x.f0, .int .u8 x.f1, .int .u8 x.f2, .int .u16 x.f3, .int .u16 x.f4, .float .f64 x.f5] := ⟨[.int .u8 x.f0], [.int .u8 x.f1, .int .u8 x.f2, .int .u16 x.f3, .int .u16 x.f4, .float .f64 x.f5], rfl, rfl, ⟨[.int .u8 x.f1], [.int .u8 x.f2, .int .u16 x.f3, .int .u16 x.f4, .float .f64 x.f5], rfl, rfl, ⟨[.int .u8 x.f2], [.int .u16 x.f3, .int .u16 x.f4, .float .f64 x.f5], rfl, rfl, ⟨[.int .u16 x.f3], [.int .u16 x.f4, .float .f64 x.f5], rfl, rfl, ⟨[.int .u16 x.f4], [.float .f64 x.f5], rfl, rfl, rfl⟩⟩⟩⟩⟩
def rd_T26 (xs : List S26) (i : Int) : S26 := xs.getD i.toNat z26
theorem at_T26 {w : World} {A : Option Addr} {n : Nat} {xs : List S26} (h : Kd.C k26 w A n xs) (i : Int) (h0 : 0 ≤ i) (h1 : i < n) : ∃ ad , A = some ad ∧ w.cell? (ad.add (i.toNat * 6)) = some (.int .u8 (rd_T26 xs i).f0) ∧ w.cell? ⟨(ad.add (i.toNat * 6)).block, (ad.add (i.toNat * 6)).off + 1, none⟩ = some (.int .u8 (rd_T26 xs i).f1) ∧ w.cell? ⟨(ad.add (i.toNat * 6)).block, (ad.add (i.toNat * 6)).off + 2, none⟩ = some (.int .u8 (rd_T26 xs i).f2) ∧ w.cell? ⟨(ad.add (i.toNat * 6)).block, (ad.add (i.toNat * 6)).off + 3, none⟩ = some (.int .u16 (rd_T26 xs i).f3) ∧ w.cell? ⟨(ad.add (i.toNat * 6)).block, (ad.add (i.toNat * 6)).off + 4, none⟩ = some (.int .u16 (rd_T26 xs i).f4) ∧ w.cell? ⟨(ad.add (i.toNat * 6)).block, (ad.add (i.toNat * 6)).off + 5, none⟩ = some (.float .f64 (rd_T26 xs i).f5) := by
  obtain ⟨ad, c, e, _, hK, hc0⟩ := Kd.C_get h z26 i h0 h1; have hc : ∀ j u, c[j]? = some u → w.cell? (ad.add (i.toNat * 6 + j)) = some u := hc0
  obtain rfl := k26_open hK
  exact ⟨ad, e, hc 0 _ rfl, by rw [← add_field _ _ 1 (by omega)]; exact hc 1 _ rfl, by rw [← add_field _ _ 2 (by omega)]; exact hc 2 _ rfl, by rw [← add_field _ _ 3 (by omega)]; exact hc 3 _ rfl, by rw [← add_field _ _ 4 (by omega)]; exact hc 4 _ rfl, by rw [← add_field _ _ 5 (by omega)]; exact hc 5 _ rfl⟩
end Go.Proofs.Ytlgclhhkgohanaa.F
end
section
namespace Go.Proofs.Ytlgclhhkgohanaa.F
open Go.RowKit Go.Proofs.YtlgclhhkgohanaaW.PrintWords Go.Proofs.YtlgclhhkgohanaaW.PrintLast Go.Proofs.YtlgclhhkgohanaaW.PrintMore
attribute [local go_sem] max2_int min2_int max_two min_two max_three min_three max_four min_four   -- for this text's walks alone
set_option linter.unusedVariables false
set_option linter.unusedSimpArgs false
mutual
def stanzahand03_Para.j1 : Nat → List (S45) → List (S62) → Option ((List (S62)) × List Int)
  | 0, _, _ => none
  | k + 1, x0, x175000 => stanzahand03_Para.l1 k x0 0 x175000 ([] : List Int)
def stanzahand03_Para.l1 : Nat → List (S45) → Int → List (S62) → List Int → Option ((List (S62)) × List Int)
  | 0, _, _, _, _ => none
  | k + 1, x0, x8, x175000, x175001 => if x8 < (x175000.length : Int) then (if x8 > 0 then (if 0 ≤ (wrap64 (x8 - 1)) then (if (wrap64 (x8 - 1)) < (x0.length : Int) then (if x175001.length < 140737488355328 then (stanzahand03_Para.l1 k x0 (wrap64 (x8 + 1)) x175000 (x175001 ++ [Int.tmod ((rd_T45 x0 (wrap64 (x8 - 1))).f3) 4])) else (none)) else (none)) else (none)) else (if x175001.length < 140737488355328 then (stanzahand03_Para.l1 k x0 (wrap64 (x8 + 1)) x175000 (x175001 ++ [0])) else (none))) else (if x175001.length < 140737488355328 then (some (x175000, (x175001 ++ [2]))) else (none))
def stanzahand03_Para.l0 : Nat → List (S45) → Int → Int → List (S62) → Option ((List (S62)) × List Int)
  | 0, _, _, _, _ => none
  | k + 1, x0, x4, x5, x175000 => if x5 < (x0.length : Int) then (if x4 < 4000 then (if 0 ≤ x5 then (if x175000.length < 4398046511104 then (stanzahand03_Para.l0 k x0 (wrap64 (x4 + (wrap64 (1 + (wrap64 (Int.tmod ((rd_T45 x0 x5).f2) 4)))))) (wrap64 (x5 + 1)) (x175000 ++ [(⟨x4, wrap64 (1 + (wrap64 (Int.tmod ((rd_T45 x0 x5).f2) 4))), wrap64 (Int.tmod ((rd_T45 x0 x5).f0) 3), Int.tmod ((rd_T45 x0 x5).f1) 3⟩ : S62)])) else (none)) else (none)) else (stanzahand03_Para.j1 k x0 x175000)) else (stanzahand03_Para.j1 k x0 x175000)
end
def stanzahand03_Para.f (k : Nat) (l0 : List (S45)) : Option ((List (S62)) × List Int) := stanzahand03_Para.l0 k l0 0 0 ([] : List (S62))
theorem stanzahand03_Para.mono_l : ∀ k, (∀ y0 y1, LeO (stanzahand03_Para.j1 k y0 y1) (stanzahand03_Para.j1 (k + 1) y0 y1)) ∧ (∀ y0 y1 y2 y3, LeO (stanzahand03_Para.l1 k y0 y1 y2 y3) (stanzahand03_Para.l1 (k + 1) y0 y1 y2 y3)) ∧ (∀ y0 y1 y2 y3, LeO (stanzahand03_Para.l0 k y0 y1 y2 y3) (stanzahand03_Para.l0 (k + 1) y0 y1 y2 y3))
  | 0 => ⟨fun _ _ r h => by simp [stanzahand03_Para.j1] at h, fun _ _ _ _ r h => by simp [stanzahand03_Para.l1] at h, fun _ _ _ _ r h => by simp [stanzahand03_Para.l0] at h⟩
  | k + 1 => by
    obtain ⟨ih0, ih1, ih2⟩ := stanzahand03_Para.mono_l k; refine ⟨?_, ?_, ?_⟩
    · intro y0 y1
      unfold stanzahand03_Para.j1
      repeat' first
      | (with_reducible exact ih0 _ _)
      | (with_reducible exact ih1 _ _ _ _)
      | (with_reducible exact ih2 _ _ _ _)
      | (with_reducible exact LeO.refl _)
      | (with_reducible exact LeO.none _)
      | (with_reducible refine LeO.ite ?_ ?_)
      | (with_reducible refine LeO.bind ?_ (fun _ => ?_))
      | exact ih0 _ _
      | exact ih1 _ _ _ _
      | exact ih2 _ _ _ _
      | exact LeO.none _
      | refine LeO.ite ?_ ?_
      | refine LeO.bind ?_ (fun _ => ?_)
    · intro y0 y1 y2 y3
      unfold stanzahand03_Para.l1
      repeat' first
      | (with_reducible exact ih0 _ _)
      | (with_reducible exact ih1 _ _ _ _)
      | (with_reducible exact ih2 _ _ _ _)
      | (with_reducible exact LeO.refl _)
      | (with_reducible exact LeO.none _)
      | (with_reducible refine LeO.ite ?_ ?_)
      | (with_reducible refine LeO.bind ?_ (fun _ => ?_))
      | exact ih0 _ _
      | exact ih1 _ _ _ _
      | exact ih2 _ _ _ _
      | exact LeO.none _
      | refine LeO.ite ?_ ?_
      | refine LeO.bind ?_ (fun _ => ?_)
    · intro y0 y1 y2 y3
      unfold stanzahand03_Para.l0
      repeat' first
      | (with_reducible exact ih0 _ _)
      | (with_reducible exact ih1 _ _ _ _)
      | (with_reducible exact ih2 _ _ _ _)
      | (with_reducible exact LeO.refl _)
      | (with_reducible exact LeO.none _)
      | (with_reducible refine LeO.ite ?_ ?_)
      | (with_reducible refine LeO.bind ?_ (fun _ => ?_))
      | exact ih0 _ _
      | exact ih1 _ _ _ _
      | exact ih2 _ _ _ _
      | exact LeO.none _
      | refine LeO.ite ?_ ?_
      | refine LeO.bind ?_ (fun _ => ?_)
theorem stanzahand03_Para.mono : ∀ a0 k, LeO (stanzahand03_Para.f k a0) (stanzahand03_Para.f (k + 1) a0) := by
  intro a0 k
  obtain ⟨ih0, ih1, ih2⟩ := stanzahand03_Para.mono_l k; unfold stanzahand03_Para.f
  repeat' first
      | (with_reducible exact ih0 _ _)
      | (with_reducible exact ih1 _ _ _ _)
      | (with_reducible exact ih2 _ _ _ _)
      | (with_reducible exact LeO.refl _)
      | (with_reducible exact LeO.none _)
      | (with_reducible refine LeO.ite ?_ ?_)
      | (with_reducible refine LeO.bind ?_ (fun _ => ?_))
      | exact ih0 _ _
      | exact ih1 _ _ _ _
      | exact ih2 _ _ _ _
      | exact LeO.none _
      | refine LeO.ite ?_ ?_
      | refine LeO.bind ?_ (fun _ => ?_)
set_option maxHeartbeats 8000000 in
set_option maxRecDepth 100000 in
theorem stanzahand03_Para.calls (k : Nat) (A0 : Option Addr) (c0 : Nat) (l0 : List (S45)) (r1 : List (S62)) (r2 : List Int) (w : World) (hr0 : Kd.C k45 w A0 l0.length l0) (hc0 : l0.length ≤ c0) (h : stanzahand03_Para.f k l0 = some (r1, r2)) :
    Calls Try.prog 11 #[.slice A0 l0.length c0] w fun e w' => ∃ v0_ v1_ : Value, e = .returned (.agg #[v0_, v1_]) ∧ Kd.R k62 62 w' w.heap.size (fun _ => True) v0_ r1 ∧ Kd.R (Kd.int .u8) 46 w' w.heap.size (fun _ => True) v1_ r2 ∧ Below w.heap.size w w' := by
  have hu31 := Try.underlying31; have hu45 := Try.underlying45; have hu62 := Try.underlying62; have HR0 := zD.mk hr0; have HC0 := zD.mk hc0; clear hr0 hc0; have HB := zD.mk (Below.refl w.heap.size w); have H : (stanzahand03_Para.l0 k l0 0 0 ([] : List (S62))) = some (r1, r2) := h
  clear h; have HC2 := zD.mk H; clear H; go_enter Try.func11, Try.ntmps11
  go_upto_block 0 with (first | ((with_reducible refine gate_dst (N := 2) rfl ?_); refine box_event ?hg (N := 2) ?hd (cs := #[.slice none 0 0, .slice none 0 0]) (t := 31) ?hr ?_; (case hd => rfl); (case hg => rfl); (case hr => first | (go_simp; done) | (go_simp; rfl)); intro gb173 hg w3 hbox hb; have n0_ := zD.mk (below_step (by repeat (first | (with_reducible first | exact HB.out | apply zJ | apply zF | apply zI) | exact HB.out)) hb); have n1_ := zD.mk (hbox); have n2_ := zD.mk ((by rw [hg]; exact (zM (by repeat (first | (with_reducible first | exact HB.out | apply zJ | apply zF | apply zI) | exact HB.out))) : w.heap.size ≤ gb173)); have n3_ := zD.mk ((by rw [hg]; exact (zM (by repeat (first | (with_reducible first | exact HB.out | apply zJ | apply zF | apply zI) | exact HB.out))) : w.heap.size ≤ gb173)); clear HB; have HB := n0_; have BK173 := n1_; have GW173 := n2_; have GE173 := n3_; clear n0_ n1_ n2_ n3_; clear hb hbox hg) | ((with_reducible refine gate_dst (N := 3) rfl ?_); refine box_event ?hg (N := 3) ?hd (cs := #[.slice none 0 0, .slice none 0 0]) (t := 31) ?hr ?_; (case hd => rfl); (case hg => rfl); (case hr => first | (go_simp; done) | (go_simp; rfl)); intro gb174 hg w4 hbox hb; have n0_ := zD.mk (zK (g := gb173) (o := .cells #[.slice none 0 0, .slice none 0 0] 31 (0, 0)) (by (with_reducible repeat (first | refine zB ?_ _ | refine zC ?_ | refine zA ?_ _)); exact BK173.out) hb); have n1_ := zD.mk (below_step (by repeat (first | (with_reducible first | exact HB.out | apply zJ | apply zF | apply zI | refine zE ?_ GE173.out) | exact HB.out)) hb); have n2_ := zD.mk (hbox); have n3_ := zD.mk ((by rw [hg]; exact (zM (by repeat (first | (with_reducible first | exact HB.out | apply zJ | apply zF | apply zI | refine zE ?_ GE173.out) | exact HB.out))) : w.heap.size ≤ gb174)); have n4_ := zD.mk ((by rw [hg]; exact (zM (by repeat (first | (with_reducible first | exact HB.out | apply zJ | apply zF | apply zI | refine zE ?_ GE173.out) | exact HB.out))) : w.heap.size ≤ gb174)); have n5_ := zD.mk ((by rw [hg]; exact Nat.ne_of_lt (blk_lt (g := gb173) (o := .cells #[.slice none 0 0, .slice none 0 0] 31 (0, 0)) (by (with_reducible repeat (first | refine zB ?_ _ | refine zC ?_ | refine zA ?_ _)); exact BK173.out)) : gb173 ≠ gb174)); have n6_ := zD.mk ((by rw [hg]; exact Nat.ne_of_gt (blk_lt (g := gb173) (o := .cells #[.slice none 0 0, .slice none 0 0] 31 (0, 0)) (by (with_reducible repeat (first | refine zB ?_ _ | refine zC ?_ | refine zA ?_ _)); exact BK173.out)) : gb174 ≠ gb173)); clear BK173; clear HB; have BK173 := n0_; have HB := n1_; have BK174 := n2_; have GW174 := n3_; have GE174 := n4_; have NB173_174 := n5_; have NB174_173 := n6_; clear n0_ n1_ n2_ n3_ n4_ n5_ n6_; clear hb hbox hg; have hnb5 := NB174_173.out; have hnc5 := NB173_174.out; have hcz6_0 : w4.cell? ⟨gb174, 0, none⟩ = some (.slice none 0 0) := (zH BK174.out 0).trans rfl; have hcz6_1 : w4.cell? ⟨gb174, 1, none⟩ = some (.slice none 0 0) := (zH BK174.out 1).trans rfl; have hfz6_0 := zG BK174.out 0; have hfz6_1 := zG BK174.out 1) | ((with_reducible refine gate_store (t := 31) (p := 3) rfl ?_); refine store_event (t := 31) (p := 3) (v := ?vo_w7) (w1 := ((w4.setCell ⟨gb174, 0, none⟩ (.slice none 0 0)).setCell ⟨gb174, 1, none⟩ (.slice none 0 0))) ?hg ?ho ?hn ?hr ?_; (case ho => rfl); (case hg => rfl); (case hn => rfl); (case hr => first | (go_simp; done) | (go_simp; rfl)); intro w7 hw; have n0_ : zD (w7.heap[gb173]? = some (.cells #[.slice none 0 0, .slice none 0 0] 31 (0, 0))) := ⟨(by rw [hw]; exact (by (with_reducible repeat (first | refine zB ?_ _ | refine zC ?_ | refine zA ?_ _)); refine zL ?_ NB173_174.out _; (with_reducible repeat (first | refine zB ?_ _ | refine zC ?_ | refine zA ?_ _)); refine zL ?_ NB173_174.out _; (with_reducible repeat (first | refine zB ?_ _ | refine zC ?_ | refine zA ?_ _)); exact BK173.out))⟩; have n1_ : zD (w7.heap[gb174]? = some (.cells #[.slice none 0 0, .slice none 0 0] 31 (0, 0))) := ⟨(by rw [hw]; exact (by (with_reducible repeat (first | refine zB ?_ _ | refine zC ?_ | refine zA ?_ _)); refine blk_put (cs := #[.slice none 0 0, .slice none 0 0]) ?_ 1 _ rfl; (with_reducible repeat (first | refine zB ?_ _ | refine zC ?_ | refine zA ?_ _)); refine blk_put (cs := #[.slice none 0 0, .slice none 0 0]) ?_ 0 _ rfl; (with_reducible repeat (first | refine zB ?_ _ | refine zC ?_ | refine zA ?_ _)); exact BK174.out))⟩; have n2_ : zD (Below w.heap.size w w7) := ⟨(by rw [hw]; exact (by repeat (first | (with_reducible first | exact HB.out | apply zJ | apply zF | apply zI | refine zE ?_ GE173.out | refine zE ?_ GE174.out) | exact HB.out)))⟩; clear hw; clear BK173; clear BK174; clear HB; have BK173 := n0_; have BK174 := n1_; have HB := n2_; clear n0_ n1_ n2_))
  (try simp only [Act.put, sA_, sB_, sC_])
  go_cut [] (fun wc => ∃ (kq : Nat) (x175000_1 : List (S62)) (u175000 : Value), zD (stanzahand03_Para.j1 kq l0 x175000_1 = some (r1, r2)) ∧ zD (kq ≤ k) ∧ zD (Kd.R k62 62 wc w.heap.size (fun _ => True) u175000 x175000_1) ∧ zD (wc.heap[gb173]? = some (.cells #[(.slice none 0 0), (.slice none 0 0)] 31 (0, 0))) ∧ zD (wc.heap[gb174]? = some (.cells #[u175000, (.slice none 0 0)] 31 (0, 0))) ∧ zD (Below w.heap.size w wc))
  case first =>
    have H := HC2.out; clear HC2; have H' := zD.mk H
    clear H; go_wp2
    go_loopg [4, 5] k (fun kq v4 v5 w' => ∃ (x4_1 : Int) (x5_1 : Int) (x175000_1 : List (S62)) (u175000 : Value), v4 = .int .i64 x4_1 ∧ v5 = .int .i64 x5_1 ∧ zD (stanzahand03_Para.l0 kq l0 x4_1 x5_1 x175000_1 = some (r1, r2)) ∧ zD (kq ≤ k) ∧ zD (Kd.R k62 62 w' w.heap.size (fun _ => True) u175000 x175000_1) ∧ zD (w'.heap[gb173]? = some (.cells #[(.slice none 0 0), (.slice none 0 0)] 31 (0, 0))) ∧ zD (w'.heap[gb174]? = some (.cells #[u175000, (.slice none 0 0)] 31 (0, 0))) ∧ zD (Below w.heap.size w w'))
    case atStart => exact ⟨(0), (0), (([] : List (S62))), (.slice none 0 0), (by first | rfl | (simp; done) | (simp [*]; done)), (by first | rfl | (simp; done) | (simp [*]; done)), H', ⟨Nat.le_refl _⟩, ⟨by first | exact Kd.R_nil _ _ _ _ _ | exact Kd.N_nil _ _ _ _ _ | exact Kd.V_nil _ _ _ _ _ | exact Kd.Q_nil _ _ _ _ _ | exact Kd.S_nil _ _ _ _ _⟩, ⟨by (with_reducible repeat (first | refine zB ?_ _ | refine zC ?_ | refine zA ?_ _)); exact BK173.out⟩, ⟨by (with_reducible repeat (first | refine zB ?_ _ | refine zC ?_ | refine zA ?_ _)); exact BK174.out⟩, ⟨by repeat (first | (with_reducible first | exact HB.out | apply zJ | apply zF | apply zI | refine zE ?_ GE173.out | refine zE ?_ GE174.out) | exact HB.out)⟩⟩
    clear H'; try clear c1
    try clear p2
    try clear c5
    try clear hcz6_0
    try clear hcz6_1
    try clear hfz6_0
    try clear hfz6_1
    obtain ⟨x4_1, x5_1, x175000_1, u175000, rfl, rfl, HA, HK1, HO_175000, BK173, BK174, HB⟩ := hrel; cases gk with
    | zero => exact absurd HA.out (by simp [stanzahand03_Para.l0])
    | succ k1 =>
      have H := HA.out; clear HA; simp only [stanzahand03_Para.l0] at H; by_cases c8 : x5_1 < (l0.length : Int)
      rotate_left
      · rw [if_neg c8] at H
        have c8b0 : decide (x5_1 < (l0.length : Int)) = false := decide_eq_false c8
        clear c8; (first | rw [c8b0] | (simp only [i64_w, i32_w]; rw [c8b0]) | skip)
        have H' := zD.mk H
        clear H; go_wp2
        go_meet
        case rel => exact ⟨_, (x175000_1), (u175000), H', ⟨by have := HK1.out; first | omega | exact Nat.le_refl _⟩, ⟨by (with_reducible repeat (first | apply Kd.R_alloc | apply Kd.R_drewN | apply Kd.R_drew)); exact HO_175000.out⟩, ⟨by (with_reducible repeat (first | refine zB ?_ _ | refine zC ?_ | refine zA ?_ _)); exact BK173.out⟩, ⟨by (with_reducible repeat (first | refine zB ?_ _ | refine zC ?_ | refine zA ?_ _)); exact BK174.out⟩, ⟨by repeat (first | (with_reducible first | exact HB.out | apply zJ | apply zF | apply zI | refine zE ?_ GE173.out | refine zE ?_ GE174.out) | exact HB.out)⟩⟩
      rw [if_pos c8] at H; have c8b0 : decide (x5_1 < (l0.length : Int)) = true := decide_eq_true c8
      clear c8; (first | rw [c8b0] | (simp only [i64_w, i32_w]; rw [c8b0]) | skip)
      by_cases c9 : x4_1 < 4000
      rotate_left
      · rw [if_neg c9] at H
        have c9b0 : decide (x4_1 < 4000) = false := decide_eq_false c9
        clear c9; have H' := zD.mk H
        clear H; go_wp2
        go_meet
        case rel => exact ⟨_, (x175000_1), (u175000), H', ⟨by have := HK1.out; first | omega | exact Nat.le_refl _⟩, ⟨by (with_reducible repeat (first | apply Kd.R_alloc | apply Kd.R_drewN | apply Kd.R_drew)); exact HO_175000.out⟩, ⟨by (with_reducible repeat (first | refine zB ?_ _ | refine zC ?_ | refine zA ?_ _)); exact BK173.out⟩, ⟨by (with_reducible repeat (first | refine zB ?_ _ | refine zC ?_ | refine zA ?_ _)); exact BK174.out⟩, ⟨by repeat (first | (with_reducible first | exact HB.out | apply zJ | apply zF | apply zI | refine zE ?_ GE173.out | refine zE ?_ GE174.out) | exact HB.out)⟩⟩
      rw [if_pos c9] at H; have c9b0 : decide (x4_1 < 4000) = true := decide_eq_true c9
      clear c9; by_cases c10 : 0 ≤ x5_1
      rotate_left
      · rw [if_neg c10] at H
        exact absurd H (by simp)
      rw [if_pos c10] at H; have c10b0 : decide (0 ≤ x5_1) = true := decide_eq_true c10
      clear c10; by_cases c11 : x175000_1.length < 4398046511104
      rotate_left
      · rw [if_neg c11] at H
        exact absurd H (by simp)
      rw [if_pos c11] at H; have LMc11 := zD.mk c11; clear c11; obtain ⟨y178, hy178⟩ : ∃ y_ : List (S62), y_ = (x175000_1 ++ [(⟨x4_1, wrap64 (1 + (wrap64 (Int.tmod ((rd_T45 l0 x5_1).f2) 4))), wrap64 (Int.tmod ((rd_T45 l0 x5_1).f0) 3), Int.tmod ((rd_T45 l0 x5_1).f1) 3⟩ : S62)]) := ⟨_, rfl⟩; replace H : (stanzahand03_Para.l0 k1 l0 (wrap64 (x4_1 + (wrap64 (1 + (wrap64 (Int.tmod ((rd_T45 l0 x5_1).f2) 4)))))) (wrap64 (x5_1 + 1)) y178) = some (r1, r2) := by first | (rw [hy178]; with_reducible exact H) | (have H2_ := (Option.bind_some _ _).symm.trans H; rw [hy178]; with_reducible exact H2_) | (have H2_ := (Option.bind_some _ _).symm.trans H; with_reducible exact H2_) | with_reducible exact H | (rw [hy178]; exact H) | exact H
      have Ny178 := zD.mk hy178; clear hy178; have H' := zD.mk H
      clear H; have p175 : 0 ≤ (x5_1 : Int) := of_decide_eq_true (by first | (with_reducible assumption) | assumption)
      have q175 : x5_1 < (l0.length : Int) := of_decide_eq_true (by first | (with_reducible assumption) | assumption)
      obtain ⟨ad175, e175, hx175_0, hx175_1, hx175_2, hx175_3⟩ := at_T45 HR0.out x5_1 p175 q175; cases e175
      replace hx175_0 := (HB.out.cell (World.block_lt_of_cell? w _ hx175_0)).trans hx175_0; replace hx175_1 := (HB.out.cell (World.block_lt_of_cell? w _ hx175_1)).trans hx175_1; replace hx175_2 := (HB.out.cell (World.block_lt_of_cell? w _ hx175_2)).trans hx175_2; replace hx175_3 := (HB.out.cell (World.block_lt_of_cell? w _ hx175_3)).trans hx175_3; replace p175 := eq_true p175; replace q175 := eq_true q175; go_wp2_with (first | ((with_reducible refine gate_dst (N := 6) rfl ?_); refine box_event ?hg (N := 6) ?hd (cs := #[.int .u8 0, .int .u8 0, .int .u8 0, .int .u8 0]) (t := 45) ?hr ?_; (case hd => rfl); (case hg => rfl); (case hr => first | (go_simp; done) | (go_simp; rfl)); intro gb176 hg w12 hbox hb; have n0_ := zD.mk (Kd.R_below (by (with_reducible repeat (first | apply Kd.R_alloc | apply Kd.R_drewN | apply Kd.R_drew)); exact HO_175000.out) hb); have n1_ := zD.mk (zK (g := gb173) (o := .cells #[.slice none 0 0, .slice none 0 0] 31 (0, 0)) (by (with_reducible repeat (first | refine zB ?_ _ | refine zC ?_ | refine zA ?_ _)); exact BK173.out) hb); have n2_ := zD.mk (zK (g := gb174) (o := .cells #[u175000, .slice none 0 0] 31 (0, 0)) (by (with_reducible repeat (first | refine zB ?_ _ | refine zC ?_ | refine zA ?_ _)); exact BK174.out) hb); have n3_ := zD.mk (below_step (by repeat (first | (with_reducible first | exact HB.out | apply zJ | apply zF | apply zI | refine zE ?_ GE173.out | refine zE ?_ GE174.out) | exact HB.out)) hb); have n4_ := zD.mk (hbox); have n5_ := zD.mk ((by rw [hg]; exact (zM (by repeat (first | (with_reducible first | exact HB.out | apply zJ | apply zF | apply zI | refine zE ?_ GE173.out | refine zE ?_ GE174.out) | exact HB.out))) : w.heap.size ≤ gb176)); have n6_ := zD.mk ((by rw [hg]; exact (zM (by repeat (first | (with_reducible first | exact HB.out | apply zJ | apply zF | apply zI | refine zE ?_ GE173.out | refine zE ?_ GE174.out) | exact HB.out))) : w.heap.size ≤ gb176)); have n7_ := zD.mk ((by rw [hg]; exact Nat.ne_of_lt (blk_lt (g := gb173) (o := .cells #[.slice none 0 0, .slice none 0 0] 31 (0, 0)) (by (with_reducible repeat (first | refine zB ?_ _ | refine zC ?_ | refine zA ?_ _)); exact BK173.out)) : gb173 ≠ gb176)); have n8_ := zD.mk ((by rw [hg]; exact Nat.ne_of_gt (blk_lt (g := gb173) (o := .cells #[.slice none 0 0, .slice none 0 0] 31 (0, 0)) (by (with_reducible repeat (first | refine zB ?_ _ | refine zC ?_ | refine zA ?_ _)); exact BK173.out)) : gb176 ≠ gb173)); have n9_ := zD.mk ((by rw [hg]; exact Nat.ne_of_lt (blk_lt (g := gb174) (o := .cells #[u175000, .slice none 0 0] 31 (0, 0)) (by (with_reducible repeat (first | refine zB ?_ _ | refine zC ?_ | refine zA ?_ _)); exact BK174.out)) : gb174 ≠ gb176)); have n10_ := zD.mk ((by rw [hg]; exact Nat.ne_of_gt (blk_lt (g := gb174) (o := .cells #[u175000, .slice none 0 0] 31 (0, 0)) (by (with_reducible repeat (first | refine zB ?_ _ | refine zC ?_ | refine zA ?_ _)); exact BK174.out)) : gb176 ≠ gb174)); clear HO_175000; clear BK173; clear BK174; clear HB; have HO_175000 := n0_; have BK173 := n1_; have BK174 := n2_; have HB := n3_; have BK176 := n4_; have GW176 := n5_; have GE176 := n6_; have NB173_176 := n7_; have NB176_173 := n8_; have NB174_176 := n9_; have NB176_174 := n10_; clear n0_ n1_ n2_ n3_ n4_ n5_ n6_ n7_ n8_ n9_ n10_; clear hb hbox hg; have hnb13 := NB176_173.out; have hnc13 := NB173_176.out; have hnb14 := NB176_174.out; have hnc14 := NB174_176.out; have hcz15_0 : w12.cell? ⟨gb176, 0, none⟩ = some (.int .u8 0) := (zH BK176.out 0).trans rfl; have hcz15_1 : w12.cell? ⟨gb176, 1, none⟩ = some (.int .u8 0) := (zH BK176.out 1).trans rfl; have hcz15_2 : w12.cell? ⟨gb176, 2, none⟩ = some (.int .u8 0) := (zH BK176.out 2).trans rfl; have hcz15_3 : w12.cell? ⟨gb176, 3, none⟩ = some (.int .u8 0) := (zH BK176.out 3).trans rfl; have hfz15_0 := zG BK176.out 0; have hfz15_1 := zG BK176.out 1; have hfz15_2 := zG BK176.out 2; have hfz15_3 := zG BK176.out 3) | ((with_reducible refine gate_store (t := 45) (p := 6) rfl ?_); refine store_event (t := 45) (p := 6) (v := ?vo_w16) (w1 := ((((w12.setCell ⟨gb176, 0, none⟩ (.int .u8 ((rd_T45 l0 x5_1).f0))).setCell ⟨gb176, 1, none⟩ (.int .u8 ((rd_T45 l0 x5_1).f1))).setCell ⟨gb176, 2, none⟩ (.int .u8 ((rd_T45 l0 x5_1).f2))).setCell ⟨gb176, 3, none⟩ (.int .u8 ((rd_T45 l0 x5_1).f3)))) ?hg ?ho ?hn ?hr ?_; (case ho => rfl); (case hg => rfl); (case hn => rfl); (case hr => first | (go_simp; done) | (go_simp; rfl)); intro w16 hw; have n0_ : zD (Kd.R k62 62 w16 w.heap.size (fun _ => True) u175000 x175000_1) := ⟨(by rw [hw]; exact (by (with_reducible repeat (first | apply Kd.R_alloc | apply Kd.R_drewN | apply Kd.R_drew)); exact Kd.R_mono (Kd.R_far (p := ⟨gb176, 3, none⟩) (Kd.R_far (p := ⟨gb176, 2, none⟩) (Kd.R_far (p := ⟨gb176, 1, none⟩) (Kd.R_far (p := ⟨gb176, 0, none⟩) (Kd.R_types HO_175000.out BK176.out (by decide)) (fun _ hk => hk.2) (.int .u8 ((rd_T45 l0 x5_1).f0))) (fun _ hk => hk.2) (.int .u8 ((rd_T45 l0 x5_1).f1))) (fun _ hk => hk.2) (.int .u8 ((rd_T45 l0 x5_1).f2))) (fun _ hk => hk.2) (.int .u8 ((rd_T45 l0 x5_1).f3))) (fun _ hk => trivial)))⟩; have n1_ : zD (w16.heap[gb173]? = some (.cells #[.slice none 0 0, .slice none 0 0] 31 (0, 0))) := ⟨(by rw [hw]; exact (by (with_reducible repeat (first | refine zB ?_ _ | refine zC ?_ | refine zA ?_ _)); refine zL ?_ NB173_176.out _; (with_reducible repeat (first | refine zB ?_ _ | refine zC ?_ | refine zA ?_ _)); refine zL ?_ NB173_176.out _; (with_reducible repeat (first | refine zB ?_ _ | refine zC ?_ | refine zA ?_ _)); refine zL ?_ NB173_176.out _; (with_reducible repeat (first | refine zB ?_ _ | refine zC ?_ | refine zA ?_ _)); refine zL ?_ NB173_176.out _; (with_reducible repeat (first | refine zB ?_ _ | refine zC ?_ | refine zA ?_ _)); exact BK173.out))⟩; have n2_ : zD (w16.heap[gb174]? = some (.cells #[u175000, .slice none 0 0] 31 (0, 0))) := ⟨(by rw [hw]; exact (by (with_reducible repeat (first | refine zB ?_ _ | refine zC ?_ | refine zA ?_ _)); refine zL ?_ NB174_176.out _; (with_reducible repeat (first | refine zB ?_ _ | refine zC ?_ | refine zA ?_ _)); refine zL ?_ NB174_176.out _; (with_reducible repeat (first | refine zB ?_ _ | refine zC ?_ | refine zA ?_ _)); refine zL ?_ NB174_176.out _; (with_reducible repeat (first | refine zB ?_ _ | refine zC ?_ | refine zA ?_ _)); refine zL ?_ NB174_176.out _; (with_reducible repeat (first | refine zB ?_ _ | refine zC ?_ | refine zA ?_ _)); exact BK174.out))⟩; have n3_ : zD (w16.heap[gb176]? = some (.cells #[.int .u8 ((rd_T45 l0 x5_1).f0), .int .u8 ((rd_T45 l0 x5_1).f1), .int .u8 ((rd_T45 l0 x5_1).f2), .int .u8 ((rd_T45 l0 x5_1).f3)] 45 (0, 0))) := ⟨(by rw [hw]; exact (by (with_reducible repeat (first | refine zB ?_ _ | refine zC ?_ | refine zA ?_ _)); refine blk_put (cs := #[.int .u8 ((rd_T45 l0 x5_1).f0), .int .u8 ((rd_T45 l0 x5_1).f1), .int .u8 ((rd_T45 l0 x5_1).f2), .int .u8 0]) ?_ 3 _ rfl; (with_reducible repeat (first | refine zB ?_ _ | refine zC ?_ | refine zA ?_ _)); refine blk_put (cs := #[.int .u8 ((rd_T45 l0 x5_1).f0), .int .u8 ((rd_T45 l0 x5_1).f1), .int .u8 0, .int .u8 0]) ?_ 2 _ rfl; (with_reducible repeat (first | refine zB ?_ _ | refine zC ?_ | refine zA ?_ _)); refine blk_put (cs := #[.int .u8 ((rd_T45 l0 x5_1).f0), .int .u8 0, .int .u8 0, .int .u8 0]) ?_ 1 _ rfl; (with_reducible repeat (first | refine zB ?_ _ | refine zC ?_ | refine zA ?_ _)); refine blk_put (cs := #[.int .u8 0, .int .u8 0, .int .u8 0, .int .u8 0]) ?_ 0 _ rfl; (with_reducible repeat (first | refine zB ?_ _ | refine zC ?_ | refine zA ?_ _)); exact BK176.out))⟩; have n4_ : zD (Below w.heap.size w w16) := ⟨(by rw [hw]; exact (by repeat (first | (with_reducible first | exact HB.out | apply zJ | apply zF | apply zI | refine zE ?_ GE173.out | refine zE ?_ GE174.out | refine zE ?_ GE176.out) | exact HB.out)))⟩; clear hw; clear HO_175000; clear BK173; clear BK174; clear BK176; clear HB; have HO_175000 := n0_; have BK173 := n1_; have BK174 := n2_; have BK176 := n3_; have HB := n4_; clear n0_ n1_ n2_ n3_ n4_; have hcz17_0 : w16.cell? ⟨gb176, 0, none⟩ = some (.int .u8 ((rd_T45 l0 x5_1).f0)) := (zH BK176.out 0).trans rfl; have hcz17_1 : w16.cell? ⟨gb176, 1, none⟩ = some (.int .u8 ((rd_T45 l0 x5_1).f1)) := (zH BK176.out 1).trans rfl; have hcz17_2 : w16.cell? ⟨gb176, 2, none⟩ = some (.int .u8 ((rd_T45 l0 x5_1).f2)) := (zH BK176.out 2).trans rfl; have hcz17_3 : w16.cell? ⟨gb176, 3, none⟩ = some (.int .u8 ((rd_T45 l0 x5_1).f3)) := (zH BK176.out 3).trans rfl; have hfz17_0 := zG BK176.out 0; have hfz17_1 := zG BK176.out 1; have hfz17_2 := zG BK176.out 2; have hfz17_3 := zG BK176.out 3) | ((with_reducible refine gate_dst (N := 7) rfl ?_); refine box_event ?hg (N := 7) ?hd (cs := #[.int .i64 0, .int .i64 0, .int .i64 0, .int .u8 0]) (t := 62) ?hr ?_; (case hd => rfl); (case hg => rfl); (case hr => first | (go_simp; done) | (go_simp; rfl)); intro gb177 hg w18 hbox hb; have n0_ := zD.mk (Kd.R_below (Kd.R_elderB (by (with_reducible repeat (first | apply Kd.R_alloc | apply Kd.R_drewN | apply Kd.R_drew)); exact HO_175000.out) gb177 (Nat.le_of_eq hg.symm)) hb); have n1_ := zD.mk (zK (g := gb173) (o := .cells #[.slice none 0 0, .slice none 0 0] 31 (0, 0)) (by (with_reducible repeat (first | refine zB ?_ _ | refine zC ?_ | refine zA ?_ _)); exact BK173.out) hb); have n2_ := zD.mk (zK (g := gb174) (o := .cells #[u175000, .slice none 0 0] 31 (0, 0)) (by (with_reducible repeat (first | refine zB ?_ _ | refine zC ?_ | refine zA ?_ _)); exact BK174.out) hb); have n3_ := zD.mk (zK (g := gb176) (o := .cells #[.int .u8 ((rd_T45 l0 x5_1).f0), .int .u8 ((rd_T45 l0 x5_1).f1), .int .u8 ((rd_T45 l0 x5_1).f2), .int .u8 ((rd_T45 l0 x5_1).f3)] 45 (0, 0)) (by (with_reducible repeat (first | refine zB ?_ _ | refine zC ?_ | refine zA ?_ _)); exact BK176.out) hb); have n4_ := zD.mk (below_step (by repeat (first | (with_reducible first | exact HB.out | apply zJ | apply zF | apply zI | refine zE ?_ GE173.out | refine zE ?_ GE174.out | refine zE ?_ GE176.out) | exact HB.out)) hb); have n5_ := zD.mk (hbox); have n6_ := zD.mk ((by rw [hg]; exact (zM (by repeat (first | (with_reducible first | exact HB.out | apply zJ | apply zF | apply zI | refine zE ?_ GE173.out | refine zE ?_ GE174.out | refine zE ?_ GE176.out) | exact HB.out))) : w.heap.size ≤ gb177)); have n7_ := zD.mk ((by rw [hg]; exact (zM (by repeat (first | (with_reducible first | exact HB.out | apply zJ | apply zF | apply zI | refine zE ?_ GE173.out | refine zE ?_ GE174.out | refine zE ?_ GE176.out) | exact HB.out))) : w.heap.size ≤ gb177)); have n8_ := zD.mk ((by rw [hg]; exact Nat.ne_of_lt (blk_lt (g := gb173) (o := .cells #[.slice none 0 0, .slice none 0 0] 31 (0, 0)) (by (with_reducible repeat (first | refine zB ?_ _ | refine zC ?_ | refine zA ?_ _)); exact BK173.out)) : gb173 ≠ gb177)); have n9_ := zD.mk ((by rw [hg]; exact Nat.ne_of_gt (blk_lt (g := gb173) (o := .cells #[.slice none 0 0, .slice none 0 0] 31 (0, 0)) (by (with_reducible repeat (first | refine zB ?_ _ | refine zC ?_ | refine zA ?_ _)); exact BK173.out)) : gb177 ≠ gb173)); have n10_ := zD.mk ((by rw [hg]; exact Nat.ne_of_lt (blk_lt (g := gb174) (o := .cells #[u175000, .slice none 0 0] 31 (0, 0)) (by (with_reducible repeat (first | refine zB ?_ _ | refine zC ?_ | refine zA ?_ _)); exact BK174.out)) : gb174 ≠ gb177)); have n11_ := zD.mk ((by rw [hg]; exact Nat.ne_of_gt (blk_lt (g := gb174) (o := .cells #[u175000, .slice none 0 0] 31 (0, 0)) (by (with_reducible repeat (first | refine zB ?_ _ | refine zC ?_ | refine zA ?_ _)); exact BK174.out)) : gb177 ≠ gb174)); have n12_ := zD.mk ((by rw [hg]; exact Nat.ne_of_lt (blk_lt (g := gb176) (o := .cells #[.int .u8 ((rd_T45 l0 x5_1).f0), .int .u8 ((rd_T45 l0 x5_1).f1), .int .u8 ((rd_T45 l0 x5_1).f2), .int .u8 ((rd_T45 l0 x5_1).f3)] 45 (0, 0)) (by (with_reducible repeat (first | refine zB ?_ _ | refine zC ?_ | refine zA ?_ _)); exact BK176.out)) : gb176 ≠ gb177)); have n13_ := zD.mk ((by rw [hg]; exact Nat.ne_of_gt (blk_lt (g := gb176) (o := .cells #[.int .u8 ((rd_T45 l0 x5_1).f0), .int .u8 ((rd_T45 l0 x5_1).f1), .int .u8 ((rd_T45 l0 x5_1).f2), .int .u8 ((rd_T45 l0 x5_1).f3)] 45 (0, 0)) (by (with_reducible repeat (first | refine zB ?_ _ | refine zC ?_ | refine zA ?_ _)); exact BK176.out)) : gb177 ≠ gb176)); clear HO_175000; clear BK173; clear BK174; clear BK176; clear HB; have HO_175000 := n0_; have BK173 := n1_; have BK174 := n2_; have BK176 := n3_; have HB := n4_; have BK177 := n5_; have GW177 := n6_; have GE177 := n7_; have NB173_177 := n8_; have NB177_173 := n9_; have NB174_177 := n10_; have NB177_174 := n11_; have NB176_177 := n12_; have NB177_176 := n13_; clear n0_ n1_ n2_ n3_ n4_ n5_ n6_ n7_ n8_ n9_ n10_ n11_ n12_ n13_; clear hb hbox hg; have hnb19 := NB177_173.out; have hnc19 := NB173_177.out; have hnb20 := NB177_174.out; have hnc20 := NB174_177.out; have hnb21 := NB177_176.out; have hnc21 := NB176_177.out; have hcz22_0 : w18.cell? ⟨gb177, 0, none⟩ = some (.int .i64 0) := (zH BK177.out 0).trans rfl; have hcz22_1 : w18.cell? ⟨gb177, 1, none⟩ = some (.int .i64 0) := (zH BK177.out 1).trans rfl; have hcz22_2 : w18.cell? ⟨gb177, 2, none⟩ = some (.int .i64 0) := (zH BK177.out 2).trans rfl; have hcz22_3 : w18.cell? ⟨gb177, 3, none⟩ = some (.int .u8 0) := (zH BK177.out 3).trans rfl; have hfz22_0 := zG BK177.out 0; have hfz22_1 := zG BK177.out 1; have hfz22_2 := zG BK177.out 2; have hfz22_3 := zG BK177.out 3) | ((with_reducible refine gate_store (t := 62) (p := 7) rfl ?_); refine store_event (t := 62) (p := 7) (v := ?vo_w23) (w1 := ((((w18.setCell ⟨gb177, 0, none⟩ (.int .i64 x4_1)).setCell ⟨gb177, 1, none⟩ (.int .i64 (wrap64 (1 + (wrap64 (Int.tmod ((rd_T45 l0 x5_1).f2) 4)))))).setCell ⟨gb177, 2, none⟩ (.int .i64 (wrap64 (Int.tmod ((rd_T45 l0 x5_1).f0) 3)))).setCell ⟨gb177, 3, none⟩ (.int .u8 (Int.tmod ((rd_T45 l0 x5_1).f1) 3)))) ?hg ?ho ?hn ?hr ?_; (case ho => rfl); (case hg => rfl); (case hn => rfl); (case hr => first | (go_simp; done) | (go_simp; rfl)); intro w23 hw; have n0_ : zD (Kd.R k62 62 w23 w.heap.size (fun k_ => k_ ≠ gb177) u175000 x175000_1) := ⟨(by rw [hw]; exact (by (with_reducible repeat (first | apply Kd.R_alloc | apply Kd.R_drewN | apply Kd.R_drew)); exact Kd.R_mono (Kd.R_far (p := ⟨gb177, 3, none⟩) (Kd.R_far (p := ⟨gb177, 2, none⟩) (Kd.R_far (p := ⟨gb177, 1, none⟩) (Kd.R_far (p := ⟨gb177, 0, none⟩) (Kd.R_mono HO_175000.out (fun k_ hk => (⟨hk, hk.2⟩ : _ ∧ k_ ≠ gb177))) (fun _ hk => hk.2) (.int .i64 x4_1)) (fun _ hk => hk.2) (.int .i64 (wrap64 (1 + (wrap64 (Int.tmod ((rd_T45 l0 x5_1).f2) 4)))))) (fun _ hk => hk.2) (.int .i64 (wrap64 (Int.tmod ((rd_T45 l0 x5_1).f0) 3)))) (fun _ hk => hk.2) (.int .u8 (Int.tmod ((rd_T45 l0 x5_1).f1) 3))) (fun _ hk => hk.1.2)))⟩; have n1_ : zD (w23.heap[gb173]? = some (.cells #[.slice none 0 0, .slice none 0 0] 31 (0, 0))) := ⟨(by rw [hw]; exact (by (with_reducible repeat (first | refine zB ?_ _ | refine zC ?_ | refine zA ?_ _)); refine zL ?_ NB173_177.out _; (with_reducible repeat (first | refine zB ?_ _ | refine zC ?_ | refine zA ?_ _)); refine zL ?_ NB173_177.out _; (with_reducible repeat (first | refine zB ?_ _ | refine zC ?_ | refine zA ?_ _)); refine zL ?_ NB173_177.out _; (with_reducible repeat (first | refine zB ?_ _ | refine zC ?_ | refine zA ?_ _)); refine zL ?_ NB173_177.out _; (with_reducible repeat (first | refine zB ?_ _ | refine zC ?_ | refine zA ?_ _)); exact BK173.out))⟩; have n2_ : zD (w23.heap[gb174]? = some (.cells #[u175000, .slice none 0 0] 31 (0, 0))) := ⟨(by rw [hw]; exact (by (with_reducible repeat (first | refine zB ?_ _ | refine zC ?_ | refine zA ?_ _)); refine zL ?_ NB174_177.out _; (with_reducible repeat (first | refine zB ?_ _ | refine zC ?_ | refine zA ?_ _)); refine zL ?_ NB174_177.out _; (with_reducible repeat (first | refine zB ?_ _ | refine zC ?_ | refine zA ?_ _)); refine zL ?_ NB174_177.out _; (with_reducible repeat (first | refine zB ?_ _ | refine zC ?_ | refine zA ?_ _)); refine zL ?_ NB174_177.out _; (with_reducible repeat (first | refine zB ?_ _ | refine zC ?_ | refine zA ?_ _)); exact BK174.out))⟩; have n3_ : zD (w23.heap[gb176]? = some (.cells #[.int .u8 ((rd_T45 l0 x5_1).f0), .int .u8 ((rd_T45 l0 x5_1).f1), .int .u8 ((rd_T45 l0 x5_1).f2), .int .u8 ((rd_T45 l0 x5_1).f3)] 45 (0, 0))) := ⟨(by rw [hw]; exact (by (with_reducible repeat (first | refine zB ?_ _ | refine zC ?_ | refine zA ?_ _)); refine zL ?_ NB176_177.out _; (with_reducible repeat (first | refine zB ?_ _ | refine zC ?_ | refine zA ?_ _)); refine zL ?_ NB176_177.out _; (with_reducible repeat (first | refine zB ?_ _ | refine zC ?_ | refine zA ?_ _)); refine zL ?_ NB176_177.out _; (with_reducible repeat (first | refine zB ?_ _ | refine zC ?_ | refine zA ?_ _)); refine zL ?_ NB176_177.out _; (with_reducible repeat (first | refine zB ?_ _ | refine zC ?_ | refine zA ?_ _)); exact BK176.out))⟩; have n4_ : zD (w23.heap[gb177]? = some (.cells #[.int .i64 x4_1, .int .i64 (wrap64 (1 + (wrap64 (Int.tmod ((rd_T45 l0 x5_1).f2) 4)))), .int .i64 (wrap64 (Int.tmod ((rd_T45 l0 x5_1).f0) 3)), .int .u8 (Int.tmod ((rd_T45 l0 x5_1).f1) 3)] 62 (0, 0))) := ⟨(by rw [hw]; exact (by (with_reducible repeat (first | refine zB ?_ _ | refine zC ?_ | refine zA ?_ _)); refine blk_put (cs := #[.int .i64 x4_1, .int .i64 (wrap64 (1 + (wrap64 (Int.tmod ((rd_T45 l0 x5_1).f2) 4)))), .int .i64 (wrap64 (Int.tmod ((rd_T45 l0 x5_1).f0) 3)), .int .u8 0]) ?_ 3 _ rfl; (with_reducible repeat (first | refine zB ?_ _ | refine zC ?_ | refine zA ?_ _)); refine blk_put (cs := #[.int .i64 x4_1, .int .i64 (wrap64 (1 + (wrap64 (Int.tmod ((rd_T45 l0 x5_1).f2) 4)))), .int .i64 0, .int .u8 0]) ?_ 2 _ rfl; (with_reducible repeat (first | refine zB ?_ _ | refine zC ?_ | refine zA ?_ _)); refine blk_put (cs := #[.int .i64 x4_1, .int .i64 0, .int .i64 0, .int .u8 0]) ?_ 1 _ rfl; (with_reducible repeat (first | refine zB ?_ _ | refine zC ?_ | refine zA ?_ _)); refine blk_put (cs := #[.int .i64 0, .int .i64 0, .int .i64 0, .int .u8 0]) ?_ 0 _ rfl; (with_reducible repeat (first | refine zB ?_ _ | refine zC ?_ | refine zA ?_ _)); exact BK177.out))⟩; have n5_ : zD (Below w.heap.size w w23) := ⟨(by rw [hw]; exact (by repeat (first | (with_reducible first | exact HB.out | apply zJ | apply zF | apply zI | refine zE ?_ GE173.out | refine zE ?_ GE174.out | refine zE ?_ GE176.out | refine zE ?_ GE177.out) | exact HB.out)))⟩; clear hw; clear HO_175000; clear BK173; clear BK174; clear BK176; clear BK177; clear HB; have HO_175000 := n0_; have BK173 := n1_; have BK174 := n2_; have BK176 := n3_; have BK177 := n4_; have HB := n5_; clear n0_ n1_ n2_ n3_ n4_ n5_; have hcz24_0 : w23.cell? ⟨gb177, 0, none⟩ = some (.int .i64 x4_1) := (zH BK177.out 0).trans rfl; have hcz24_1 : w23.cell? ⟨gb177, 1, none⟩ = some (.int .i64 (wrap64 (1 + (wrap64 (Int.tmod ((rd_T45 l0 x5_1).f2) 4))))) := (zH BK177.out 1).trans rfl; have hcz24_2 : w23.cell? ⟨gb177, 2, none⟩ = some (.int .i64 (wrap64 (Int.tmod ((rd_T45 l0 x5_1).f0) 3))) := (zH BK177.out 2).trans rfl; have hcz24_3 : w23.cell? ⟨gb177, 3, none⟩ = some (.int .u8 (Int.tmod ((rd_T45 l0 x5_1).f1) 3)) := (zH BK177.out 3).trans rfl; have hfz24_0 := zG BK177.out 0; have hfz24_1 := zG BK177.out 1; have hfz24_2 := zG BK177.out 2; have hfz24_3 := zG BK177.out 3; have hnb25 := NB174_173.out; have hnc25 := NB173_174.out; have hcz26_0 : w23.cell? ⟨gb174, 0, none⟩ = some (u175000) := (zH BK174.out 0).trans rfl; have hcz26_1 : w23.cell? ⟨gb174, 1, none⟩ = some (.slice none 0 0) := (zH BK174.out 1).trans rfl; have hfz26_0 := zG BK174.out 0; have hfz26_1 := zG BK174.out 1) | ((with_reducible refine gate_builtin (b := .append) (xs := #[.tmp 44, .tmp 46]) rfl ?_); at_builtin; refine Kd.R_append k62 (w0 := w) w.heap.size rfl (.tmp 44) (.tmp 46) 28 62 (.agg #[(.int .i64 0), (.int .i64 0), (.int .i64 0), (.int .u8 0)]) 32 rfl Try.underlying28 info62 rfl (by decide) (by omega) u175000 x175000_1 (⟨x4_1, wrap64 (1 + (wrap64 (Int.tmod ((rd_T45 l0 x5_1).f2) 4))), wrap64 (Int.tmod ((rd_T45 l0 x5_1).f0) 3), Int.tmod ((rd_T45 l0 x5_1).f1) 3⟩ : S62) [.int .i64 x4_1, .int .i64 (wrap64 (1 + (wrap64 (Int.tmod ((rd_T45 l0 x5_1).f2) 4)))), .int .i64 (wrap64 (Int.tmod ((rd_T45 l0 x5_1).f0) 3)), .int .u8 (Int.tmod ((rd_T45 l0 x5_1).f1) 3)] (fun k_ => k_ ≠ gb177) (fun _ => False) rfl rfl ?aP (fun _ hk => hk.elim) ?aF ?aO ?aB ?aS ?aL ?_; (case aP => exact k62_mkM _ _ _ (⟨x4_1, wrap64 (1 + (wrap64 (Int.tmod ((rd_T45 l0 x5_1).f2) 4))), wrap64 (Int.tmod ((rd_T45 l0 x5_1).f0) 3), Int.tmod ((rd_T45 l0 x5_1).f1) 3⟩ : S62)); (case aB => exact (by repeat (first | (with_reducible first | exact HB.out | apply zJ | apply zF | apply zI | refine zE ?_ GE173.out | refine zE ?_ GE174.out | refine zE ?_ GE176.out | refine zE ?_ GE177.out) | exact HB.out))); (case aF => exact (fun k_ hk => Kd.freshB (g := gb177) (o := .cells #[.int .i64 x4_1, .int .i64 (wrap64 (1 + (wrap64 (Int.tmod ((rd_T45 l0 x5_1).f2) 4)))), .int .i64 (wrap64 (Int.tmod ((rd_T45 l0 x5_1).f0) 3)), .int .u8 (Int.tmod ((rd_T45 l0 x5_1).f1) 3)] 62 (0, 0)) (by (with_reducible repeat (first | refine zB ?_ _ | refine zC ?_ | refine zA ?_ _)); exact BK177.out) k_ hk)); (case aO => exact (by (with_reducible repeat (first | apply Kd.R_alloc | apply Kd.R_drewN | apply Kd.R_drew)); exact HO_175000.out)); (case aS => exact (zM (by repeat (first | (with_reducible first | exact HB.out | apply zJ | apply zF | apply zI | refine zE ?_ GE173.out | refine zE ?_ GE174.out | refine zE ?_ GE176.out | refine zE ?_ GE177.out) | exact HB.out)))); (case aL => have := LMc11.out; omega); intro v179 w27 ho hb hg hat; rw [← Ny178.out] at ho; have n0_ := zD.mk (blk_grown (g := gb173) (o := .cells #[.slice none 0 0, .slice none 0 0] 31 (0, 0)) (by (with_reducible repeat (first | refine zB ?_ _ | refine zC ?_ | refine zA ?_ _)); exact BK173.out) hg (Kd.R_ne HO_175000.out BK173.out (by decide))); have n1_ := zD.mk (blk_grown (g := gb174) (o := .cells #[u175000, .slice none 0 0] 31 (0, 0)) (by (with_reducible repeat (first | refine zB ?_ _ | refine zC ?_ | refine zA ?_ _)); exact BK174.out) hg (Kd.R_ne HO_175000.out BK174.out (by decide))); have n2_ := zD.mk (blk_grown (g := gb176) (o := .cells #[.int .u8 ((rd_T45 l0 x5_1).f0), .int .u8 ((rd_T45 l0 x5_1).f1), .int .u8 ((rd_T45 l0 x5_1).f2), .int .u8 ((rd_T45 l0 x5_1).f3)] 45 (0, 0)) (by (with_reducible repeat (first | refine zB ?_ _ | refine zC ?_ | refine zA ?_ _)); exact BK176.out) hg (Kd.R_ne HO_175000.out BK176.out (by decide))); have n3_ := zD.mk (blk_grown (g := gb177) (o := .cells #[.int .i64 x4_1, .int .i64 (wrap64 (1 + (wrap64 (Int.tmod ((rd_T45 l0 x5_1).f2) 4)))), .int .i64 (wrap64 (Int.tmod ((rd_T45 l0 x5_1).f0) 3)), .int .u8 (Int.tmod ((rd_T45 l0 x5_1).f1) 3)] 62 (0, 0)) (by (with_reducible repeat (first | refine zB ?_ _ | refine zC ?_ | refine zA ?_ _)); exact BK177.out) hg (Kd.R_away HO_175000.out (fun _ hk => hk))); have n4_ := zD.mk (hb); have n5_ := zD.mk (ho); clear BK173; clear BK174; clear BK176; clear BK177; clear HB; clear HO_175000; have BK173 := n0_; have BK174 := n1_; have BK176 := n2_; have BK177 := n3_; have HB := n4_; have HO180 := n5_; clear n0_ n1_ n2_ n3_ n4_ n5_; clear ho hb hg hat; obtain ⟨Ao28, co28, eo28⟩ := Kd.R_slice HO180.out; subst eo28; have hcz29_0 : w27.cell? ⟨gb174, 0, none⟩ = some (u175000) := (zH BK174.out 0).trans rfl; have hcz29_1 : w27.cell? ⟨gb174, 1, none⟩ = some (.slice none 0 0) := (zH BK174.out 1).trans rfl; have hfz29_0 := zG BK174.out 0; have hfz29_1 := zG BK174.out 1))
      go_roundg k1
      case measure => have := HK1.out; omega
      case rel => exact ⟨(wrap64 (x4_1 + (wrap64 (1 + (wrap64 (Int.tmod ((rd_T45 l0 x5_1).f2) 4)))))), (wrap64 (x5_1 + 1)), (y178), (.slice Ao28 y178.length co28), (by first | rfl | (simp; done) | (simp [*]; done)), (by first | rfl | (simp; done) | (simp [*]; done)), H', ⟨by have := HK1.out; omega⟩, ⟨by (with_reducible repeat (first | apply Kd.R_alloc | apply Kd.R_drewN | apply Kd.R_drew)); exact Kd.R_mono (Kd.R_far (p := ⟨gb174, 0, none⟩) (Kd.R_types HO180.out BK174.out (by decide)) (fun _ hk => hk.2) (.slice Ao28 y178.length co28)) (fun _ hk => trivial)⟩, ⟨by (with_reducible repeat (first | refine zB ?_ _ | refine zC ?_ | refine zA ?_ _)); refine zL ?_ NB173_174.out _; (with_reducible repeat (first | refine zB ?_ _ | refine zC ?_ | refine zA ?_ _)); exact BK173.out⟩, ⟨by (with_reducible repeat (first | refine zB ?_ _ | refine zC ?_ | refine zA ?_ _)); refine blk_put (cs := #[u175000, .slice none 0 0]) ?_ 0 _ rfl; (with_reducible repeat (first | refine zB ?_ _ | refine zC ?_ | refine zA ?_ _)); exact BK174.out⟩, ⟨by repeat (first | (with_reducible first | exact HB.out | apply zJ | apply zF | apply zI | refine zE ?_ GE173.out | refine zE ?_ GE174.out | refine zE ?_ GE176.out | refine zE ?_ GE177.out) | exact HB.out)⟩⟩
  clear HC2; try clear c1
  try clear p1
  try clear q1
  try clear hx1
  try clear c2
  try clear p2
  try clear c5
  try clear p6
  try clear c8
  try clear c8b0
  try clear c9
  try clear c9b0
  try clear c10
  try clear c10b0
  try clear c11
  try clear c13
  try clear c14
  try clear p17
  try clear q17
  try clear hx17
  try clear c19
  try clear c20
  try clear c21
  try clear c25
  try clear hcz15_0
  try clear hcz15_1
  try clear hcz15_2
  try clear hcz15_3
  try clear hcz17_0
  try clear hcz17_1
  try clear hcz17_2
  try clear hcz17_3
  try clear hcz22_0
  try clear hcz22_1
  try clear hcz22_2
  try clear hcz22_3
  try clear hcz24_0
  try clear hcz24_1
  try clear hcz24_2
  try clear hcz24_3
  try clear hcz26_0
  try clear hcz26_1
  try clear hcz29_0
  try clear hcz29_1
  try clear hcz6_0
  try clear hcz6_1
  try clear hfz15_0
  try clear hfz15_1
  try clear hfz15_2
  try clear hfz15_3
  try clear hfz17_0
  try clear hfz17_1
  try clear hfz17_2
  try clear hfz17_3
  try clear hfz22_0
  try clear hfz22_1
  try clear hfz22_2
  try clear hfz22_3
  try clear hfz24_0
  try clear hfz24_1
  try clear hfz24_2
  try clear hfz24_3
  try clear hfz26_0
  try clear hfz26_1
  try clear hfz29_0
  try clear hfz29_1
  try clear hfz6_0
  try clear hfz6_1
  try clear hx175_0
  try clear hx175_1
  try clear hx175_2
  try clear hx175_3
  try clear p175
  try clear p2
  try clear q175
  obtain ⟨kq, x175000_1, u175000, HA, HJ1, HO_175000, BK173, BK174, HB⟩ := hcut; cases kq with
  | zero => exact absurd HA.out (by simp [stanzahand03_Para.j1])
  | succ kj1 =>
    have H := HA.out; clear HA; simp only [stanzahand03_Para.j1] at H; have H' := zD.mk H
    clear H; go_wp2
    go_loopg [8] kj1 (fun kq v8 w' => ∃ (x8_2 : Int) (x175001_2 : List Int) (u175001 : Value), v8 = .int .i64 x8_2 ∧ zD (stanzahand03_Para.l1 kq l0 x8_2 x175000_1 x175001_2 = some (r1, r2)) ∧ zD (kq ≤ kj1) ∧ zD (Kd.R k62 62 w' w.heap.size (fun _ => True) u175000 x175000_1) ∧ zD (Kd.R (Kd.int .u8) 46 w' w.heap.size (fun _ => True) u175001 x175001_2) ∧ zD (w'.heap[gb173]? = some (.cells #[(.slice none 0 0), (.slice none 0 0)] 31 (0, 0))) ∧ zD (w'.heap[gb174]? = some (.cells #[u175000, u175001] 31 (0, 0))) ∧ zD (Below w.heap.size w w'))
    case atStart => exact ⟨(0), (([] : List Int)), (.slice none 0 0), (by first | rfl | (simp; done) | (simp [*]; done)), H', ⟨Nat.le_refl _⟩, ⟨by (with_reducible repeat (first | apply Kd.R_alloc | apply Kd.R_drewN | apply Kd.R_drew)); exact HO_175000.out⟩, ⟨by first | exact Kd.R_nil _ _ _ _ _ | exact Kd.N_nil _ _ _ _ _ | exact Kd.V_nil _ _ _ _ _ | exact Kd.Q_nil _ _ _ _ _ | exact Kd.S_nil _ _ _ _ _⟩, ⟨by (with_reducible repeat (first | refine zB ?_ _ | refine zC ?_ | refine zA ?_ _)); exact BK173.out⟩, ⟨by (with_reducible repeat (first | refine zB ?_ _ | refine zC ?_ | refine zA ?_ _)); exact BK174.out⟩, ⟨by repeat (first | (with_reducible first | exact HB.out | apply zJ | apply zF | apply zI | refine zE ?_ GE173.out | refine zE ?_ GE174.out) | exact HB.out)⟩⟩
    clear H'; try clear c1
    try clear p1
    try clear q1
    try clear hx1
    try clear c2
    try clear p2
    try clear c5
    try clear p6
    try clear c8
    try clear c8b0
    try clear c9
    try clear c9b0
    try clear c10
    try clear c10b0
    try clear c11
    try clear c13
    try clear c14
    try clear p17
    try clear q17
    try clear hx17
    try clear c19
    try clear c20
    try clear c21
    try clear c25
    try clear hcz15_0
    try clear hcz15_1
    try clear hcz15_2
    try clear hcz15_3
    try clear hcz17_0
    try clear hcz17_1
    try clear hcz17_2
    try clear hcz17_3
    try clear hcz22_0
    try clear hcz22_1
    try clear hcz22_2
    try clear hcz22_3
    try clear hcz24_0
    try clear hcz24_1
    try clear hcz24_2
    try clear hcz24_3
    try clear hcz26_0
    try clear hcz26_1
    try clear hcz29_0
    try clear hcz29_1
    try clear hcz6_0
    try clear hcz6_1
    try clear hfz15_0
    try clear hfz15_1
    try clear hfz15_2
    try clear hfz15_3
    try clear hfz17_0
    try clear hfz17_1
    try clear hfz17_2
    try clear hfz17_3
    try clear hfz22_0
    try clear hfz22_1
    try clear hfz22_2
    try clear hfz22_3
    try clear hfz24_0
    try clear hfz24_1
    try clear hfz24_2
    try clear hfz24_3
    try clear hfz26_0
    try clear hfz26_1
    try clear hfz29_0
    try clear hfz29_1
    try clear hfz6_0
    try clear hfz6_1
    try clear hx175_0
    try clear hx175_1
    try clear hx175_2
    try clear hx175_3
    try clear p1
    try clear p17
    try clear p175
    try clear p2
    try clear p6
    try clear q1
    try clear q17
    try clear q175
    obtain ⟨x8_2, x175001_2, u175001, rfl, HA, HK2, HO_175000, HO_175001, BK173, BK174, HB⟩ := hrel; cases gk with
    | zero => exact absurd HA.out (by simp [stanzahand03_Para.l1])
    | succ k2 =>
      have H := HA.out; clear HA; simp only [stanzahand03_Para.l1] at H; by_cases c30 : x8_2 < (x175000_1.length : Int)
      rotate_left
      · rw [if_neg c30] at H
        have c30b0 : decide (x8_2 < (x175000_1.length : Int)) = false := decide_eq_false c30
        clear c30; by_cases c49 : x175001_2.length < 140737488355328
        rotate_left
        · rw [if_neg c49] at H
          exact absurd H (by simp)
        rw [if_pos c49] at H; have LMc49 := zD.mk c49; clear c49; obtain ⟨y188, hy188⟩ : ∃ y_ : List Int, y_ = (x175001_2 ++ [2]) := ⟨_, rfl⟩; replace H : (some (x175000_1, y188)) = some (r1, r2) := by first | (rw [hy188]; with_reducible exact H) | (have H2_ := (Option.bind_some _ _).symm.trans H; rw [hy188]; with_reducible exact H2_) | (have H2_ := (Option.bind_some _ _).symm.trans H; with_reducible exact H2_) | with_reducible exact H | (rw [hy188]; exact H) | exact H
        have Ny188 := zD.mk hy188; clear hy188; simp only [Option.some.injEq, Prod.mk.injEq] at H; obtain ⟨rfl, rfl⟩ := H; have hnb50 := NB174_173.out; have hnc50 := NB173_174.out; have hcz51_0 : wr.cell? ⟨gb174, 0, none⟩ = some (u175000) := (zH BK174.out 0).trans rfl
        have hcz51_1 : wr.cell? ⟨gb174, 1, none⟩ = some (u175001) := (zH BK174.out 1).trans rfl
        have hfz51_0 := zG BK174.out 0; have hfz51_1 := zG BK174.out 1; obtain ⟨Ao52, co52, eo52⟩ := Kd.R_slice HO_175000.out; subst eo52; go_wp2_with (first | ((with_reducible refine gate_builtin (b := .append) (xs := #[.tmp 72, .tmp 73]) rfl ?_); at_builtin; refine Kd.R_append (Kd.int .u8) (w0 := w) w.heap.size rfl (.tmp 72) (.tmp 73) 29 46 (.int .u8 0) 1 rfl Try.underlying29 info46 rfl (by decide) (by omega) u175001 x175001_2 2 [.int .u8 2] (fun _ => True) (fun _ => False) rfl rfl ?aP (fun _ hk => hk.elim) ?aF ?aO ?aB ?aS ?aL ?_; (case aP => exact rfl); (case aB => exact (by repeat (first | (with_reducible first | exact HB.out | apply zJ | apply zF | apply zI | refine zE ?_ GE173.out | refine zE ?_ GE174.out) | exact HB.out))); (case aF => exact (fun _ _ => trivial)); (case aO => exact (by (with_reducible repeat (first | apply Kd.R_alloc | apply Kd.R_drewN | apply Kd.R_drew)); exact HO_175001.out)); (case aS => exact (zM (by repeat (first | (with_reducible first | exact HB.out | apply zJ | apply zF | apply zI | refine zE ?_ GE173.out | refine zE ?_ GE174.out) | exact HB.out)))); (case aL => have := LMc49.out; omega); intro v189 w53 ho hb hg hat; rw [← Ny188.out] at ho; have n0_ := zD.mk (Kd.R_over' (by (with_reducible repeat (first | apply Kd.R_alloc | apply Kd.R_drewN | apply Kd.R_drew)); exact HO_175000.out) (Kd.R_typed (by (with_reducible repeat (first | apply Kd.R_alloc | apply Kd.R_drewN | apply Kd.R_drew)); exact HO_175001.out)) (by decide) hg); have n1_ := zD.mk (blk_grown (g := gb173) (o := .cells #[.slice none 0 0, .slice none 0 0] 31 (0, 0)) (by (with_reducible repeat (first | refine zB ?_ _ | refine zC ?_ | refine zA ?_ _)); exact BK173.out) hg (Kd.R_ne HO_175001.out BK173.out (by decide))); have n2_ := zD.mk (blk_grown (g := gb174) (o := .cells #[.slice Ao52 x175000_1.length co52, u175001] 31 (0, 0)) (by (with_reducible repeat (first | refine zB ?_ _ | refine zC ?_ | refine zA ?_ _)); exact BK174.out) hg (Kd.R_ne HO_175001.out BK174.out (by decide))); have n3_ := zD.mk (hb); have n4_ := zD.mk (ho); clear HO_175000; clear BK173; clear BK174; clear HB; clear HO_175001; have HO_175000 := n0_; have BK173 := n1_; have BK174 := n2_; have HB := n3_; have HO190 := n4_; clear n0_ n1_ n2_ n3_ n4_; clear ho hb hg hat; obtain ⟨Ao54, co54, eo54⟩ := Kd.R_slice HO190.out; subst eo54; have hcz55_0 : w53.cell? ⟨gb174, 0, none⟩ = some (.slice Ao52 x175000_1.length co52) := (zH BK174.out 0).trans rfl; have hcz55_1 : w53.cell? ⟨gb174, 1, none⟩ = some (u175001) := (zH BK174.out 1).trans rfl; have hfz55_0 := zG BK174.out 0; have hfz55_1 := zG BK174.out 1; have hcz56_0 : w53.cell? ⟨gb173, 0, none⟩ = some (.slice none 0 0) := (zH BK173.out 0).trans rfl; have hcz56_1 : w53.cell? ⟨gb173, 1, none⟩ = some (.slice none 0 0) := (zH BK173.out 1).trans rfl; have hfz56_0 := zG BK173.out 0; have hfz56_1 := zG BK173.out 1) | ((with_reducible refine gate_store (t := 31) (p := 2) rfl ?_); refine store_event (t := 31) (p := 2) (v := ?vo_w57) (w1 := (((w53.setCell ⟨gb174, 1, none⟩ (.slice Ao54 y188.length co54)).setCell ⟨gb173, 0, none⟩ (.slice Ao52 x175000_1.length co52)).setCell ⟨gb173, 1, none⟩ (.slice Ao54 y188.length co54))) ?hg ?ho ?hn ?hr ?_; (case ho => rfl); (case hg => rfl); (case hn => rfl); (case hr => first | (go_simp; done) | (go_simp; rfl)); intro w57 hw; have n0_ : zD (Kd.R k62 62 w57 w.heap.size (fun _ => True) (.slice Ao52 x175000_1.length co52) x175000_1) := ⟨(by rw [hw]; exact (by (with_reducible repeat (first | apply Kd.R_alloc | apply Kd.R_drewN | apply Kd.R_drew)); exact Kd.R_mono (Kd.R_far (p := ⟨gb173, 1, none⟩) (Kd.R_far (p := ⟨gb173, 0, none⟩) (Kd.R_far (p := ⟨gb174, 1, none⟩) (Kd.R_types (Kd.R_types HO_175000.out BK174.out (by decide)) BK173.out (by decide)) (fun _ hk => hk.1.2) (.slice Ao54 y188.length co54)) (fun _ hk => hk.2) (.slice Ao52 x175000_1.length co52)) (fun _ hk => hk.2) (.slice Ao54 y188.length co54)) (fun _ hk => trivial)))⟩; have n1_ : zD (Kd.R (Kd.int .u8) 46 w57 w.heap.size (fun _ => True) (.slice Ao54 y188.length co54) y188) := ⟨(by rw [hw]; exact (by (with_reducible repeat (first | apply Kd.R_alloc | apply Kd.R_drewN | apply Kd.R_drew)); exact Kd.R_mono (Kd.R_far (p := ⟨gb173, 1, none⟩) (Kd.R_far (p := ⟨gb173, 0, none⟩) (Kd.R_far (p := ⟨gb174, 1, none⟩) (Kd.R_types (Kd.R_types HO190.out BK174.out (by decide)) BK173.out (by decide)) (fun _ hk => hk.1.2) (.slice Ao54 y188.length co54)) (fun _ hk => hk.2) (.slice Ao52 x175000_1.length co52)) (fun _ hk => hk.2) (.slice Ao54 y188.length co54)) (fun _ hk => trivial)))⟩; have n2_ : zD (w57.heap[gb173]? = some (.cells #[.slice Ao52 x175000_1.length co52, .slice Ao54 y188.length co54] 31 (0, 0))) := ⟨(by rw [hw]; exact (by (with_reducible repeat (first | refine zB ?_ _ | refine zC ?_ | refine zA ?_ _)); refine blk_put (cs := #[.slice Ao52 x175000_1.length co52, .slice none 0 0]) ?_ 1 _ rfl; (with_reducible repeat (first | refine zB ?_ _ | refine zC ?_ | refine zA ?_ _)); refine blk_put (cs := #[.slice none 0 0, .slice none 0 0]) ?_ 0 _ rfl; (with_reducible repeat (first | refine zB ?_ _ | refine zC ?_ | refine zA ?_ _)); refine zL ?_ NB173_174.out _; (with_reducible repeat (first | refine zB ?_ _ | refine zC ?_ | refine zA ?_ _)); exact BK173.out))⟩; have n3_ : zD (w57.heap[gb174]? = some (.cells #[.slice Ao52 x175000_1.length co52, .slice Ao54 y188.length co54] 31 (0, 0))) := ⟨(by rw [hw]; exact (by (with_reducible repeat (first | refine zB ?_ _ | refine zC ?_ | refine zA ?_ _)); refine zL ?_ NB174_173.out _; (with_reducible repeat (first | refine zB ?_ _ | refine zC ?_ | refine zA ?_ _)); refine zL ?_ NB174_173.out _; (with_reducible repeat (first | refine zB ?_ _ | refine zC ?_ | refine zA ?_ _)); refine blk_put (cs := #[.slice Ao52 x175000_1.length co52, u175001]) ?_ 1 _ rfl; (with_reducible repeat (first | refine zB ?_ _ | refine zC ?_ | refine zA ?_ _)); exact BK174.out))⟩; have n4_ : zD (Below w.heap.size w w57) := ⟨(by rw [hw]; exact (by repeat (first | (with_reducible first | exact HB.out | apply zJ | apply zF | apply zI | refine zE ?_ GE173.out | refine zE ?_ GE174.out) | exact HB.out)))⟩; clear hw; clear HO_175000; clear HO190; clear BK173; clear BK174; clear HB; have HO_175000 := n0_; have HO190 := n1_; have BK173 := n2_; have BK174 := n3_; have HB := n4_; clear n0_ n1_ n2_ n3_ n4_))
        refine bodyPost_ret (results_cell_row rfl _ _ gb173 31 #[.slice Ao52 x175000_1.length co52, .slice Ao54 y188.length co54] (0, 0) _ rfl (by (with_reducible repeat (first | refine zB ?_ _ | refine zC ?_ | refine zA ?_ _)); exact BK173.out) Try.underlying31 rfl (by kernel_rfl)) rfl ?_
        exact ⟨_, _, by first | rfl | (simp [errW_none, errW_some] <;> rfl) | (simp [*, errW_none, errW_some] <;> rfl), by (with_reducible repeat (first | apply Kd.R_alloc | apply Kd.R_drewN | apply Kd.R_drew)); exact HO_175000.out, by (with_reducible repeat (first | apply Kd.R_alloc | apply Kd.R_drewN | apply Kd.R_drew)); exact HO190.out, by repeat (first | (with_reducible first | exact HB.out | apply zJ | apply zF | apply zI | refine zE ?_ GE173.out | refine zE ?_ GE174.out) | exact HB.out)⟩
      rw [if_pos c30] at H; have c30b0 : decide (x8_2 < (x175000_1.length : Int)) = true := decide_eq_true c30
      clear c30; by_cases c31 : x8_2 > 0
      rotate_left
      · rw [if_neg c31] at H
        have c31b0 : decide (0 < x8_2) = false := decide_eq_false c31
        clear c31; by_cases c42 : x175001_2.length < 140737488355328
        rotate_left
        · rw [if_neg c42] at H
          exact absurd H (by simp)
        rw [if_pos c42] at H; have LMc42 := zD.mk c42; clear c42; obtain ⟨y185, hy185⟩ : ∃ y_ : List Int, y_ = (x175001_2 ++ [0]) := ⟨_, rfl⟩; replace H : (stanzahand03_Para.l1 k2 l0 (wrap64 (x8_2 + 1)) x175000_1 y185) = some (r1, r2) := by first | (rw [hy185]; with_reducible exact H) | (have H2_ := (Option.bind_some _ _).symm.trans H; rw [hy185]; with_reducible exact H2_) | (have H2_ := (Option.bind_some _ _).symm.trans H; with_reducible exact H2_) | with_reducible exact H | (rw [hy185]; exact H) | exact H
        have Ny185 := zD.mk hy185; clear hy185; have H' := zD.mk H
        clear H; have hnb43 := NB174_173.out; have hnc43 := NB173_174.out; have hcz44_0 : wr.cell? ⟨gb174, 0, none⟩ = some (u175000) := (zH BK174.out 0).trans rfl
        have hcz44_1 : wr.cell? ⟨gb174, 1, none⟩ = some (u175001) := (zH BK174.out 1).trans rfl
        have hfz44_0 := zG BK174.out 0; have hfz44_1 := zG BK174.out 1; obtain ⟨Ao45, co45, eo45⟩ := Kd.R_slice HO_175000.out; subst eo45; go_wp2_with (first | ((with_reducible refine gate_builtin (b := .append) (xs := #[.tmp 66, .tmp 68]) rfl ?_); at_builtin; refine Kd.R_append (Kd.int .u8) (w0 := w) w.heap.size rfl (.tmp 66) (.tmp 68) 29 46 (.int .u8 0) 1 rfl Try.underlying29 info46 rfl (by decide) (by omega) u175001 x175001_2 0 [.int .u8 0] (fun _ => True) (fun _ => False) rfl rfl ?aP (fun _ hk => hk.elim) ?aF ?aO ?aB ?aS ?aL ?_; (case aP => exact rfl); (case aB => exact (by repeat (first | (with_reducible first | exact HB.out | apply zJ | apply zF | apply zI | refine zE ?_ GE173.out | refine zE ?_ GE174.out) | exact HB.out))); (case aF => exact (fun _ _ => trivial)); (case aO => exact (by (with_reducible repeat (first | apply Kd.R_alloc | apply Kd.R_drewN | apply Kd.R_drew)); exact HO_175001.out)); (case aS => exact (zM (by repeat (first | (with_reducible first | exact HB.out | apply zJ | apply zF | apply zI | refine zE ?_ GE173.out | refine zE ?_ GE174.out) | exact HB.out)))); (case aL => have := LMc42.out; omega); intro v186 w46 ho hb hg hat; rw [← Ny185.out] at ho; have n0_ := zD.mk (Kd.R_over' (by (with_reducible repeat (first | apply Kd.R_alloc | apply Kd.R_drewN | apply Kd.R_drew)); exact HO_175000.out) (Kd.R_typed (by (with_reducible repeat (first | apply Kd.R_alloc | apply Kd.R_drewN | apply Kd.R_drew)); exact HO_175001.out)) (by decide) hg); have n1_ := zD.mk (blk_grown (g := gb173) (o := .cells #[.slice none 0 0, .slice none 0 0] 31 (0, 0)) (by (with_reducible repeat (first | refine zB ?_ _ | refine zC ?_ | refine zA ?_ _)); exact BK173.out) hg (Kd.R_ne HO_175001.out BK173.out (by decide))); have n2_ := zD.mk (blk_grown (g := gb174) (o := .cells #[.slice Ao45 x175000_1.length co45, u175001] 31 (0, 0)) (by (with_reducible repeat (first | refine zB ?_ _ | refine zC ?_ | refine zA ?_ _)); exact BK174.out) hg (Kd.R_ne HO_175001.out BK174.out (by decide))); have n3_ := zD.mk (hb); have n4_ := zD.mk (ho); clear HO_175000; clear BK173; clear BK174; clear HB; clear HO_175001; have HO_175000 := n0_; have BK173 := n1_; have BK174 := n2_; have HB := n3_; have HO187 := n4_; clear n0_ n1_ n2_ n3_ n4_; clear ho hb hg hat; obtain ⟨Ao47, co47, eo47⟩ := Kd.R_slice HO187.out; subst eo47; have hcz48_0 : w46.cell? ⟨gb174, 0, none⟩ = some (.slice Ao45 x175000_1.length co45) := (zH BK174.out 0).trans rfl; have hcz48_1 : w46.cell? ⟨gb174, 1, none⟩ = some (u175001) := (zH BK174.out 1).trans rfl; have hfz48_0 := zG BK174.out 0; have hfz48_1 := zG BK174.out 1))
        go_roundg k2
        case measure => have := HJ1.out; have := HK2.out; omega
        case rel => exact ⟨(wrap64 (x8_2 + 1)), (y185), (.slice Ao47 y185.length co47), (by first | rfl | (simp; done) | (simp [*]; done)), H', ⟨by have := HJ1.out; have := HK2.out; omega⟩, ⟨by (with_reducible repeat (first | apply Kd.R_alloc | apply Kd.R_drewN | apply Kd.R_drew)); exact Kd.R_mono (Kd.R_far (p := ⟨gb174, 1, none⟩) (Kd.R_types HO_175000.out BK174.out (by decide)) (fun _ hk => hk.2) (.slice Ao47 y185.length co47)) (fun _ hk => trivial)⟩, ⟨by (with_reducible repeat (first | apply Kd.R_alloc | apply Kd.R_drewN | apply Kd.R_drew)); exact Kd.R_mono (Kd.R_far (p := ⟨gb174, 1, none⟩) (Kd.R_types HO187.out BK174.out (by decide)) (fun _ hk => hk.2) (.slice Ao47 y185.length co47)) (fun _ hk => trivial)⟩, ⟨by (with_reducible repeat (first | refine zB ?_ _ | refine zC ?_ | refine zA ?_ _)); refine zL ?_ NB173_174.out _; (with_reducible repeat (first | refine zB ?_ _ | refine zC ?_ | refine zA ?_ _)); exact BK173.out⟩, ⟨by (with_reducible repeat (first | refine zB ?_ _ | refine zC ?_ | refine zA ?_ _)); refine blk_put (cs := #[.slice Ao45 x175000_1.length co45, u175001]) ?_ 1 _ rfl; (with_reducible repeat (first | refine zB ?_ _ | refine zC ?_ | refine zA ?_ _)); exact BK174.out⟩, ⟨by repeat (first | (with_reducible first | exact HB.out | apply zJ | apply zF | apply zI | refine zE ?_ GE173.out | refine zE ?_ GE174.out) | exact HB.out)⟩⟩
      rw [if_pos c31] at H; have c31b0 : decide (0 < x8_2) = true := decide_eq_true c31
      clear c31; obtain ⟨ji32, hji32⟩ : ∃ j_ : Int, (wrap64 (x8_2 - 1)) = j_ := ⟨_, rfl⟩; replace H : (if 0 ≤ (ji32) then (if (ji32) < (l0.length : Int) then (if x175001_2.length < 140737488355328 then (stanzahand03_Para.l1 k2 l0 (wrap64 (x8_2 + 1)) x175000_1 (x175001_2 ++ [Int.tmod ((rd_T45 l0 (ji32)).f3) 4])) else (none)) else (none)) else (none)) = some (r1, r2) := by first | (rw [hji32] at H; exact H) | (simp only [hji32] at H ⊢; exact H)
      have hji32w : (IntKind.i64.wrap (x8_2 - 1)) = ji32 := (i64_w _).trans hji32
      by_cases c33 : 0 ≤ (ji32)
      rotate_left
      · rw [if_neg c33] at H
        exact absurd H (by simp)
      rw [if_pos c33] at H; have c33b0 : decide (0 ≤ (ji32)) = true := decide_eq_true c33
      clear c33; by_cases c34 : (ji32) < (l0.length : Int)
      rotate_left
      · rw [if_neg c34] at H
        exact absurd H (by simp)
      rw [if_pos c34] at H; have c34b0 : decide ((ji32) < (l0.length : Int)) = true := decide_eq_true c34
      clear c34; by_cases c35 : x175001_2.length < 140737488355328
      rotate_left
      · rw [if_neg c35] at H
        exact absurd H (by simp)
      rw [if_pos c35] at H; have LMc35 := zD.mk c35; clear c35; obtain ⟨y182, hy182⟩ : ∃ y_ : List Int, y_ = (x175001_2 ++ [Int.tmod ((rd_T45 l0 (ji32)).f3) 4]) := ⟨_, rfl⟩; replace H : (stanzahand03_Para.l1 k2 l0 (wrap64 (x8_2 + 1)) x175000_1 y182) = some (r1, r2) := by first | (rw [hy182]; with_reducible exact H) | (have H2_ := (Option.bind_some _ _).symm.trans H; rw [hy182]; with_reducible exact H2_) | (have H2_ := (Option.bind_some _ _).symm.trans H; with_reducible exact H2_) | with_reducible exact H | (rw [hy182]; exact H) | exact H
      have Ny182 := zD.mk hy182; clear hy182; have H' := zD.mk H
      clear H; have hnb36 := NB174_173.out; have hnc36 := NB173_174.out; have hcz37_0 : wr.cell? ⟨gb174, 0, none⟩ = some (u175000) := (zH BK174.out 0).trans rfl
      have hcz37_1 : wr.cell? ⟨gb174, 1, none⟩ = some (u175001) := (zH BK174.out 1).trans rfl
      have hfz37_0 := zG BK174.out 0; have hfz37_1 := zG BK174.out 1; obtain ⟨Ao38, co38, eo38⟩ := Kd.R_slice HO_175000.out; subst eo38; have p181 : 0 ≤ ((ji32) : Int) := of_decide_eq_true (by first | (with_reducible assumption) | assumption)
      have q181 : (ji32) < (l0.length : Int) := of_decide_eq_true (by first | (with_reducible assumption) | assumption)
      obtain ⟨ad181, e181, hx181_0, hx181_1, hx181_2, hx181_3⟩ := at_T45 HR0.out (ji32) p181 q181; cases e181
      replace hx181_0 := (HB.out.cell (World.block_lt_of_cell? w _ hx181_0)).trans hx181_0; replace hx181_1 := (HB.out.cell (World.block_lt_of_cell? w _ hx181_1)).trans hx181_1; replace hx181_2 := (HB.out.cell (World.block_lt_of_cell? w _ hx181_2)).trans hx181_2; replace hx181_3 := (HB.out.cell (World.block_lt_of_cell? w _ hx181_3)).trans hx181_3; replace p181 := eq_true p181; replace q181 := eq_true q181; go_wp2_with (first | ((with_reducible refine gate_builtin (b := .append) (xs := #[.tmp 66, .tmp 68]) rfl ?_); at_builtin; refine Kd.R_append (Kd.int .u8) (w0 := w) w.heap.size rfl (.tmp 66) (.tmp 68) 29 46 (.int .u8 0) 1 rfl Try.underlying29 info46 rfl (by decide) (by omega) u175001 x175001_2 (Int.tmod ((rd_T45 l0 (ji32)).f3) 4) [.int .u8 (Int.tmod ((rd_T45 l0 (ji32)).f3) 4)] (fun _ => True) (fun _ => False) rfl rfl ?aP (fun _ hk => hk.elim) ?aF ?aO ?aB ?aS ?aL ?_; (case aP => exact rfl); (case aB => exact (by repeat (first | (with_reducible first | exact HB.out | apply zJ | apply zF | apply zI | refine zE ?_ GE173.out | refine zE ?_ GE174.out) | exact HB.out))); (case aF => exact (fun _ _ => trivial)); (case aO => exact (by (with_reducible repeat (first | apply Kd.R_alloc | apply Kd.R_drewN | apply Kd.R_drew)); exact HO_175001.out)); (case aS => exact (zM (by repeat (first | (with_reducible first | exact HB.out | apply zJ | apply zF | apply zI | refine zE ?_ GE173.out | refine zE ?_ GE174.out) | exact HB.out)))); (case aL => have := LMc35.out; omega); intro v183 w39 ho hb hg hat; rw [← Ny182.out] at ho; have n0_ := zD.mk (Kd.R_over' (by (with_reducible repeat (first | apply Kd.R_alloc | apply Kd.R_drewN | apply Kd.R_drew)); exact HO_175000.out) (Kd.R_typed (by (with_reducible repeat (first | apply Kd.R_alloc | apply Kd.R_drewN | apply Kd.R_drew)); exact HO_175001.out)) (by decide) hg); have n1_ := zD.mk (blk_grown (g := gb173) (o := .cells #[.slice none 0 0, .slice none 0 0] 31 (0, 0)) (by (with_reducible repeat (first | refine zB ?_ _ | refine zC ?_ | refine zA ?_ _)); exact BK173.out) hg (Kd.R_ne HO_175001.out BK173.out (by decide))); have n2_ := zD.mk (blk_grown (g := gb174) (o := .cells #[.slice Ao38 x175000_1.length co38, u175001] 31 (0, 0)) (by (with_reducible repeat (first | refine zB ?_ _ | refine zC ?_ | refine zA ?_ _)); exact BK174.out) hg (Kd.R_ne HO_175001.out BK174.out (by decide))); have n3_ := zD.mk (hb); have n4_ := zD.mk (ho); clear HO_175000; clear BK173; clear BK174; clear HB; clear HO_175001; have HO_175000 := n0_; have BK173 := n1_; have BK174 := n2_; have HB := n3_; have HO184 := n4_; clear n0_ n1_ n2_ n3_ n4_; clear ho hb hg hat; obtain ⟨Ao40, co40, eo40⟩ := Kd.R_slice HO184.out; subst eo40; have hcz41_0 : w39.cell? ⟨gb174, 0, none⟩ = some (.slice Ao38 x175000_1.length co38) := (zH BK174.out 0).trans rfl; have hcz41_1 : w39.cell? ⟨gb174, 1, none⟩ = some (u175001) := (zH BK174.out 1).trans rfl; have hfz41_0 := zG BK174.out 0; have hfz41_1 := zG BK174.out 1))
      go_roundg k2
      case measure => have := HJ1.out; have := HK2.out; omega
      case rel => exact ⟨(wrap64 (x8_2 + 1)), (y182), (.slice Ao40 y182.length co40), (by first | rfl | (simp; done) | (simp [*]; done)), H', ⟨by have := HJ1.out; have := HK2.out; omega⟩, ⟨by (with_reducible repeat (first | apply Kd.R_alloc | apply Kd.R_drewN | apply Kd.R_drew)); exact Kd.R_mono (Kd.R_far (p := ⟨gb174, 1, none⟩) (Kd.R_types HO_175000.out BK174.out (by decide)) (fun _ hk => hk.2) (.slice Ao40 y182.length co40)) (fun _ hk => trivial)⟩, ⟨by (with_reducible repeat (first | apply Kd.R_alloc | apply Kd.R_drewN | apply Kd.R_drew)); exact Kd.R_mono (Kd.R_far (p := ⟨gb174, 1, none⟩) (Kd.R_types HO184.out BK174.out (by decide)) (fun _ hk => hk.2) (.slice Ao40 y182.length co40)) (fun _ hk => trivial)⟩, ⟨by (with_reducible repeat (first | refine zB ?_ _ | refine zC ?_ | refine zA ?_ _)); refine zL ?_ NB173_174.out _; (with_reducible repeat (first | refine zB ?_ _ | refine zC ?_ | refine zA ?_ _)); exact BK173.out⟩, ⟨by (with_reducible repeat (first | refine zB ?_ _ | refine zC ?_ | refine zA ?_ _)); refine blk_put (cs := #[.slice Ao38 x175000_1.length co38, u175001]) ?_ 1 _ rfl; (with_reducible repeat (first | refine zB ?_ _ | refine zC ?_ | refine zA ?_ _)); exact BK174.out⟩, ⟨by repeat (first | (with_reducible first | exact HB.out | apply zJ | apply zF | apply zI | refine zE ?_ GE173.out | refine zE ?_ GE174.out) | exact HB.out)⟩⟩
end Go.Proofs.Ytlgclhhkgohanaa.F
end
section
namespace Go.Proofs.Ytlgclhhkgohanaa.F
open Go.RowKit Go.Proofs.YtlgclhhkgohanaaW.PrintWords Go.Proofs.YtlgclhhkgohanaaW.PrintLast Go.Proofs.YtlgclhhkgohanaaW.PrintMore
attribute [local go_sem] max2_int min2_int max_two min_two max_three min_three max_four min_four   -- for this text's walks alone
set_option linter.unusedVariables false
set_option linter.unusedSimpArgs false
def span_Ends.f (l0_0 : List (S62)) (l0_1 : List Int) (a1 : Int) : Option (Int × Bool) := if 0 ≤ a1 then (if a1 < (l0_1.length : Int) then (some (rd l0_1 a1, ((rd l0_1 a1) != 0))) else (none)) else (none)
set_option maxHeartbeats 8000000 in
set_option maxRecDepth 100000 in
theorem span_Ends.calls (A0_0 : Option Addr) (c0_0 : Nat) (l0_0 : List (S62)) (A0_1 : Option Addr) (c0_1 : Nat) (l0_1 : List Int) (a1 : Int) (r1 : Int) (r2 : Bool) (w : World) (hr0_0 : Kd.C k62 w A0_0 l0_0.length l0_0) (hc0_0 : l0_0.length ≤ c0_0) (hr0_1 : Kd.C (Kd.int .u8) w A0_1 l0_1.length l0_1) (hc0_1 : l0_1.length ≤ c0_1) (h : span_Ends.f l0_0 l0_1 a1 = some (r1, r2)) :
    Calls Try.prog 30 #[.agg #[.slice A0_0 l0_0.length c0_0, .slice A0_1 l0_1.length c0_1], .int .i64 a1] w fun e w' => e = .returned (.tuple #[.int .u8 r1, .bool r2]) ∧ Below w.heap.size w w' := by
  have hu31 := Try.underlying31; have HR0_0 := zD.mk hr0_0; have HC0_0 := zD.mk hc0_0; clear hr0_0 hc0_0; have HR0_1 := zD.mk hr0_1; have HC0_1 := zD.mk hc0_1; clear hr0_1 hc0_1; have HB := zD.mk (Below.refl w.heap.size w); have H : (if 0 ≤ a1 then (if a1 < (l0_1.length : Int) then (some (rd l0_1 a1, ((rd l0_1 a1) != 0))) else (none)) else (none)) = some (r1, r2) := h
  clear h; by_cases c3 : 0 ≤ a1
  rotate_left
  · rw [if_neg c3] at H
    exact absurd H (by simp)
  rw [if_pos c3] at H; have c3b0 : decide (0 ≤ a1) = true := decide_eq_true c3
  clear c3; by_cases c4 : a1 < (l0_1.length : Int)
  rotate_left
  · rw [if_neg c4] at H
    exact absurd H (by simp)
  rw [if_pos c4] at H; have c4b0 : decide (a1 < (l0_1.length : Int)) = true := decide_eq_true c4
  clear c4; simp only [Option.some.injEq, Prod.mk.injEq] at H; obtain ⟨rfl, rfl⟩ := H; go_enter Try.func30, Try.ntmps30
  go_wp2_with (first | ((with_reducible refine gate_dst (N := 2) rfl ?_); refine box_event ?hg (N := 2) ?hd (cs := #[.slice A0_0 l0_0.length c0_0, .slice A0_1 l0_1.length c0_1]) (t := 31) ?hr ?_; (case hd => rfl); (case hg => rfl); (case hr => first | (go_simp; done) | (go_simp; rfl)); intro gb101 hg w5 hbox hb; have n0_ := zD.mk (below_step (by repeat (first | (with_reducible first | exact HB.out | apply zJ | apply zF | apply zI) | exact HB.out)) hb); have n1_ := zD.mk (hbox); have n2_ := zD.mk ((by rw [hg]; exact (zM (by repeat (first | (with_reducible first | exact HB.out | apply zJ | apply zF | apply zI) | exact HB.out))) : w.heap.size ≤ gb101)); have n3_ := zD.mk ((by rw [hg]; exact (zM (by repeat (first | (with_reducible first | exact HB.out | apply zJ | apply zF | apply zI) | exact HB.out))) : w.heap.size ≤ gb101)); clear HB; have HB := n0_; have BK101 := n1_; have GW101 := n2_; have GE101 := n3_; clear n0_ n1_ n2_ n3_; clear hb hbox hg; have hcz6_0 : w5.cell? ⟨gb101, 0, none⟩ = some (.slice A0_0 l0_0.length c0_0) := (zH BK101.out 0).trans rfl; have hcz6_1 : w5.cell? ⟨gb101, 1, none⟩ = some (.slice A0_1 l0_1.length c0_1) := (zH BK101.out 1).trans rfl; have hfz6_0 := zG BK101.out 0; have hfz6_1 := zG BK101.out 1; have p102 : 0 ≤ (a1 : Int) := of_decide_eq_true (by first | (with_reducible assumption) | assumption); have q102 : a1 < (l0_1.length : Int) := of_decide_eq_true (by first | (with_reducible assumption) | assumption); obtain ⟨ad102, e102, hx102_0⟩ := Kd.at_int HR0_1.out a1 p102 q102; cases e102; replace hx102_0 := (HB.out.cell (World.block_lt_of_cell? w _ hx102_0)).trans hx102_0; replace p102 := eq_true p102; replace q102 := eq_true q102; have p103 : 0 ≤ (a1 : Int) := of_decide_eq_true (by first | (with_reducible assumption) | assumption); have q103 : a1 < (l0_1.length : Int) := of_decide_eq_true (by first | (with_reducible assumption) | assumption); obtain ⟨ad103, e103, hx103_0⟩ := Kd.at_int HR0_1.out a1 p103 q103; obtain rfl : ad102 = ad103 := (by injection e103); replace hx103_0 := (HB.out.cell (World.block_lt_of_cell? w _ hx103_0)).trans hx103_0; replace p103 := eq_true p103; replace q103 := eq_true q103))
  repeat (go_quiet (first | ((with_reducible refine gate_dst (N := 2) rfl ?_); refine box_event ?hg (N := 2) ?hd (cs := #[.slice A0_0 l0_0.length c0_0, .slice A0_1 l0_1.length c0_1]) (t := 31) ?hr ?_; (case hd => rfl); (case hg => rfl); (case hr => first | (go_simp; done) | (go_simp; rfl)); intro gb101 hg w5 hbox hb; have n0_ := zD.mk (below_step (by repeat (first | (with_reducible first | exact HB.out | apply zJ | apply zF | apply zI) | exact HB.out)) hb); have n1_ := zD.mk (hbox); have n2_ := zD.mk ((by rw [hg]; exact (zM (by repeat (first | (with_reducible first | exact HB.out | apply zJ | apply zF | apply zI) | exact HB.out))) : w.heap.size ≤ gb101)); have n3_ := zD.mk ((by rw [hg]; exact (zM (by repeat (first | (with_reducible first | exact HB.out | apply zJ | apply zF | apply zI) | exact HB.out))) : w.heap.size ≤ gb101)); clear HB; have HB := n0_; have BK101 := n1_; have GW101 := n2_; have GE101 := n3_; clear n0_ n1_ n2_ n3_; clear hb hbox hg; have hcz6_0 : w5.cell? ⟨gb101, 0, none⟩ = some (.slice A0_0 l0_0.length c0_0) := (zH BK101.out 0).trans rfl; have hcz6_1 : w5.cell? ⟨gb101, 1, none⟩ = some (.slice A0_1 l0_1.length c0_1) := (zH BK101.out 1).trans rfl; have hfz6_0 := zG BK101.out 0; have hfz6_1 := zG BK101.out 1; have p102 : 0 ≤ (a1 : Int) := of_decide_eq_true (by first | (with_reducible assumption) | assumption); have q102 : a1 < (l0_1.length : Int) := of_decide_eq_true (by first | (with_reducible assumption) | assumption); obtain ⟨ad102, e102, hx102_0⟩ := Kd.at_int HR0_1.out a1 p102 q102; cases e102; replace hx102_0 := (HB.out.cell (World.block_lt_of_cell? w _ hx102_0)).trans hx102_0; replace p102 := eq_true p102; replace q102 := eq_true q102; have p103 : 0 ≤ (a1 : Int) := of_decide_eq_true (by first | (with_reducible assumption) | assumption); have q103 : a1 < (l0_1.length : Int) := of_decide_eq_true (by first | (with_reducible assumption) | assumption); obtain ⟨ad103, e103, hx103_0⟩ := Kd.at_int HR0_1.out a1 p103 q103; obtain rfl : ad102 = ad103 := (by injection e103); replace hx103_0 := (HB.out.cell (World.block_lt_of_cell? w _ hx103_0)).trans hx103_0; replace p103 := eq_true p103; replace q103 := eq_true q103)); try go_wp2_with (first | ((with_reducible refine gate_dst (N := 2) rfl ?_); refine box_event ?hg (N := 2) ?hd (cs := #[.slice A0_0 l0_0.length c0_0, .slice A0_1 l0_1.length c0_1]) (t := 31) ?hr ?_; (case hd => rfl); (case hg => rfl); (case hr => first | (go_simp; done) | (go_simp; rfl)); intro gb101 hg w5 hbox hb; have n0_ := zD.mk (below_step (by repeat (first | (with_reducible first | exact HB.out | apply zJ | apply zF | apply zI) | exact HB.out)) hb); have n1_ := zD.mk (hbox); have n2_ := zD.mk ((by rw [hg]; exact (zM (by repeat (first | (with_reducible first | exact HB.out | apply zJ | apply zF | apply zI) | exact HB.out))) : w.heap.size ≤ gb101)); have n3_ := zD.mk ((by rw [hg]; exact (zM (by repeat (first | (with_reducible first | exact HB.out | apply zJ | apply zF | apply zI) | exact HB.out))) : w.heap.size ≤ gb101)); clear HB; have HB := n0_; have BK101 := n1_; have GW101 := n2_; have GE101 := n3_; clear n0_ n1_ n2_ n3_; clear hb hbox hg; have hcz6_0 : w5.cell? ⟨gb101, 0, none⟩ = some (.slice A0_0 l0_0.length c0_0) := (zH BK101.out 0).trans rfl; have hcz6_1 : w5.cell? ⟨gb101, 1, none⟩ = some (.slice A0_1 l0_1.length c0_1) := (zH BK101.out 1).trans rfl; have hfz6_0 := zG BK101.out 0; have hfz6_1 := zG BK101.out 1; have p102 : 0 ≤ (a1 : Int) := of_decide_eq_true (by first | (with_reducible assumption) | assumption); have q102 : a1 < (l0_1.length : Int) := of_decide_eq_true (by first | (with_reducible assumption) | assumption); obtain ⟨ad102, e102, hx102_0⟩ := Kd.at_int HR0_1.out a1 p102 q102; cases e102; replace hx102_0 := (HB.out.cell (World.block_lt_of_cell? w _ hx102_0)).trans hx102_0; replace p102 := eq_true p102; replace q102 := eq_true q102; have p103 : 0 ≤ (a1 : Int) := of_decide_eq_true (by first | (with_reducible assumption) | assumption); have q103 : a1 < (l0_1.length : Int) := of_decide_eq_true (by first | (with_reducible assumption) | assumption); obtain ⟨ad103, e103, hx103_0⟩ := Kd.at_int HR0_1.out a1 p103 q103; obtain rfl : ad102 = ad103 := (by injection e103); replace hx103_0 := (HB.out.cell (World.block_lt_of_cell? w _ hx103_0)).trans hx103_0; replace p103 := eq_true p103; replace q103 := eq_true q103)))
  go_ret2
  exact ⟨by first | rfl | (simp [errW_none, errW_some] <;> rfl) | (simp [*, errW_none, errW_some] <;> rfl), by repeat (first | (with_reducible first | exact HB.out | apply zJ | apply zF | apply zI | refine zE ?_ GE101.out) | exact HB.out)⟩
def ratio_Of.f (a0 : Int) (a1 : Int) : Option Nat := some (fop .quo (floatOfInt .f64 a0) (floatOfInt .f64 a1))
set_option maxHeartbeats 8000000 in
set_option maxRecDepth 100000 in
theorem ratio_Of.calls (a0 : Int) (a1 : Int) (r : Nat) (w : World) (h : ratio_Of.f a0 a1 = some r) :
    Calls Try.prog 41 #[.int .i64 a0, .int .i64 a1] w fun e w' => ∃ b_ : Nat, e = .returned (.float .f64 b_) ∧ Drawn0 w w' ∧ FR r b_ := by
  have hu3 : (Try.prog.underlying 3).isSome = true := by kernel_rfl
  have hu24 := Try.underlying24; obtain rfl := Option.some.inj h
  obtain ⟨b, m, hrun, hb⟩ := run_rough (P := Try.prog) w .quo (by simp) 24 (floatOfInt .f64 a0) (floatOfInt .f64 a1)
  go_enter Try.func41, Try.ntmps41
  go_wp2
  go_ret
  exact ⟨b, rfl, ⟨⟨m, rfl⟩⟩, fr_fop hb⟩
def ratio_Fits.f (a0 : Nat) (a1 : Nat) : Option Bool := some (!(FloatKind.f64.format.order a0 a1 == some .gt))
set_option maxHeartbeats 8000000 in
set_option maxRecDepth 100000 in
theorem ratio_Fits.calls (a0 : Nat) (a1 : Nat) (r : Bool) (w : World) (h : ratio_Fits.f a0 a1 = some r) {b0_ : Nat} (hf0_ : zD (FR a0 b0_) := by first | assumption | exact ⟨FR.same _⟩) {b1_ : Nat} (hf1_ : zD (FR a1 b1_) := by first | assumption | exact ⟨FR.same _⟩) :
    Calls Try.prog 42 #[.float .f64 b0_, .float .f64 b1_] w fun e w' => e = .returned (.bool r) ∧ Drawn0 w w' := by
  have hu24 := Try.underlying24; obtain rfl := Option.some.inj h
  go_enter Try.func42, Try.ntmps42
  go_wp2
  go_ret
  exact ⟨by rw [hf0_.out.order_l, hf1_.out.order_r]; rfl, Drawn0.refl _⟩
def absb (x : Nat) : Nat := (Go.bits .andNot .u64 (x : Int) 9223372036854775808).toNat
def cube (x : Nat) : Nat := fop .mul (fop .mul (fop .mul 4636737291354636288 (absb x)) (absb x)) (absb x)
def ratio_Badness.f (a0 : Nat) : Option Int := if isNan a0 = true then some 0 else if (FloatKind.f64.format.order (cube a0) 4666723172467343360 == some .lt) = true then floatToIntVal .f64 (cube a0) .i64 else some 10000
set_option maxHeartbeats 8000000 in
set_option maxRecDepth 100000 in
theorem ratio_Badness.calls (a0 : Nat) (r : Int) (w : World) (h : ratio_Badness.f a0 = some r) {b0_ : Nat} (hf0_ : zD (FR a0 b0_) := by first | assumption | exact ⟨FR.same _⟩) :
    Calls Try.prog 43 #[.float .f64 b0_] w fun e w' => e = .returned (.int .i64 r) ∧ Drawn0 w w' := by
  have hu24 := Try.underlying24; have hu3 := Try.underlying3; have hA : ∀ (b : Nat) (W : World), (callFunc 50 #[.float .f64 b]).run Try.prog W = .ok (.value (.int .u64 b)) W := fun b W => by rw [run_callFunc_extern (fn := Try.f50) (e := Extern.MathFloatBits.float64bits) (by kernel_rfl) (by kernel_rfl) (by kernel_rfl) (by rfl) (by rfl)]; rfl
  have hB : ∀ (b : Int) (W : World), (callFunc 51 #[.int .u64 b]).run Try.prog W = .ok (.value (.float .f64 b.toNat)) W := fun b W => by rw [run_callFunc_extern (fn := Try.f51) (e := Extern.MathFloatBits.float64frombits) (by kernel_rfl) (by kernel_rfl) (by kernel_rfl) (by rfl) (by rfl)]; rfl
  unfold ratio_Badness.f at h
  by_cases hx : isNan a0 = true
  · rw [if_pos hx] at h
    obtain rfl := Option.some.inj h
    have ho := order_nan_l (b := b0_) (y := b0_) (by rw [← hf0_.out.nan]; exact hx)
    go_enter Try.func43, Try.ntmps43
    go_wp2
    go_ret
    exact ⟨rfl, Drawn0.refl _⟩
  rw [if_neg hx] at h; have hx' : isNan a0 = false := by simpa using hx
  obtain rfl := hf0_.out.eq_of hx'
  have ho := order_self hx'; obtain ⟨p1, m1, hr1, hp1⟩ := run_rough (P := Try.prog) w .mul (by simp) 24 4636737291354636288 (absb a0)
  obtain ⟨p2, m2, hr2, hp2⟩ := run_rough (P := Try.prog) (w.drewN m1) .mul (by simp) 24 p1 (absb a0)
  obtain ⟨p3, m3, hr3, hp3⟩ := run_rough (P := Try.prog) (w.drewN (m1 + m2)) .mul (by simp) 24 p2 (absb a0)
  have hc : FR (cube a0) p3 := ((fr_fop hp1).fop_l (fr_fop hp2)).fop_l (fr_fop hp3)
  have hd : Drawn0 w (w.drewN (m1 + m2 + m3)) := ⟨⟨_, rfl⟩⟩
  rw [← hc.order_l] at h; unfold absb at hr1 hr2 hr3
  by_cases hl : (FloatKind.f64.format.order p3 4666723172467343360 == some .lt) = true
  rotate_left
  · rw [if_neg hl] at h
    obtain rfl := Option.some.inj h
    have hl' := Bool.eq_false_iff.mpr hl
    go_enter Try.func43, Try.ntmps43
    go_wp2
    go_ret
    exact ⟨rfl, hd⟩
  rw [if_pos hl] at h; have hn : isNan (cube a0) = false := by
    rcases Bool.eq_false_or_eq_true (isNan (cube a0)) with hh | hh
    · rw [hc.order_l, order_nan_l hh] at hl; cases hl
    · exact hh
  rw [hc.eq_of hn] at h; have hk := fun W => run_convert_float_int (P := Try.prog) W 24 3 .f64 .i64 p3 r (by kernel_rfl) hu3 h
  go_enter Try.func43, Try.ntmps43
  go_wp2
  go_ret
  exact ⟨rfl, hd⟩
end Go.Proofs.Ytlgclhhkgohanaa.F
end
section
namespace Go.Proofs.Ytlgclhhkgohanaa.F
open Go.RowKit Go.Proofs.YtlgclhhkgohanaaW.PrintWords Go.Proofs.YtlgclhhkgohanaaW.PrintLast Go.Proofs.YtlgclhhkgohanaaW.PrintMore
attribute [local go_sem] max2_int min2_int max_two min_two max_three min_three max_four min_four   -- for this text's walks alone
set_option linter.unusedVariables false
set_option linter.unusedSimpArgs false
def best_price.j0 : Nat → Int → Int → Int → List (S62) → List Int → Int → Int → Int → Int → Int → Nat → Option (Int × Bool)
  | 0, _, _, _, _, _, _, _, _, _, _, _ => none
  | k + 1, x1, x2, x16, x105000, x105001, x106000, x106001, x106002, x106003, x106004, x106005 => if x2 = 3 then (if 0 ≤ x1 then (if x1 < (x105001.length : Int) then (if (rd x105001 x1) = 3 then (some (wrap64 ((wrap64 ((wrap64 ((wrap64 (10 + x16)) * (wrap64 (10 + x16)))) + x106003)) + x106004), true)) else (some (wrap64 ((wrap64 ((wrap64 (10 + x16)) * (wrap64 (10 + x16)))) + x106003), true))) else (none)) else (none)) else (some (wrap64 ((wrap64 (10 + x16)) * (wrap64 (10 + x16))), true))
def best_price.f (k : Nat) (l0_0 : List (S62)) (l0_1 : List Int) (a1 : Int) (a2 : Int) (a3 : Int) (a4 : Int) (a5 : Bool) (a6_0 : Int) (a6_1 : Int) (a6_2 : Int) (a6_3 : Int) (a6_4 : Int) (a6_5 : Nat) : Option (Int × Bool) := if a3 > a6_0 then (some (0, false)) else (if a5 = true then (best_price.j0 k a1 a2 0 l0_0 l0_1 a6_0 a6_1 a6_2 a6_3 a6_4 a6_5) else ((ratio_Of.f (wrap64 (a6_0 - a3)) a4).bind fun t106 => ((ratio_Fits.f t106 a6_5).bind fun t107 => (if t107 = true then ((ratio_Badness.f t106).bind fun t108 => (best_price.j0 k a1 a2 t108 l0_0 l0_1 a6_0 a6_1 a6_2 a6_3 a6_4 a6_5)) else (some (0, false))))))
theorem best_price.mono_l : ∀ k, (∀ y0 y1 y2 y3 y4 y5 y6 y7 y8 y9 y10, LeO (best_price.j0 k y0 y1 y2 y3 y4 y5 y6 y7 y8 y9 y10) (best_price.j0 (k + 1) y0 y1 y2 y3 y4 y5 y6 y7 y8 y9 y10))
  | 0 => fun _ _ _ _ _ _ _ _ _ _ _ r h => by simp [best_price.j0] at h
  | k + 1 => by
    have ih0 := best_price.mono_l k
    · intro y0 y1 y2 y3 y4 y5 y6 y7 y8 y9 y10
      unfold best_price.j0
      repeat' first
      | (with_reducible exact ih0 _ _ _ _ _ _ _ _ _ _ _)
      | (with_reducible exact LeO.refl _)
      | (with_reducible exact LeO.none _)
      | (with_reducible refine LeO.ite ?_ ?_)
      | (with_reducible refine LeO.bind ?_ (fun _ => ?_))
      | exact ih0 _ _ _ _ _ _ _ _ _ _ _
      | exact LeO.none _
      | refine LeO.ite ?_ ?_
      | refine LeO.bind ?_ (fun _ => ?_)
theorem best_price.mono : ∀ a0 a1 a2 a3 a4 a5 a6 a7 a8 a9 a10 a11 a12 k, LeO (best_price.f k a0 a1 a2 a3 a4 a5 a6 a7 a8 a9 a10 a11 a12) (best_price.f (k + 1) a0 a1 a2 a3 a4 a5 a6 a7 a8 a9 a10 a11 a12) := by
  intro a0 a1 a2 a3 a4 a5 a6 a7 a8 a9 a10 a11 a12 k
  have ih0 := best_price.mono_l k; unfold best_price.f
  repeat' first
      | (with_reducible exact ih0 _ _ _ _ _ _ _ _ _ _ _)
      | (with_reducible exact LeO.refl _)
      | (with_reducible exact LeO.none _)
      | (with_reducible refine LeO.ite ?_ ?_)
      | (with_reducible refine LeO.bind ?_ (fun _ => ?_))
      | exact ih0 _ _ _ _ _ _ _ _ _ _ _
      | exact LeO.none _
      | refine LeO.ite ?_ ?_
      | refine LeO.bind ?_ (fun _ => ?_)
set_option maxHeartbeats 8000000 in
set_option maxRecDepth 100000 in
theorem best_price.calls (k : Nat) (A0_0 : Option Addr) (c0_0 : Nat) (l0_0 : List (S62)) (A0_1 : Option Addr) (c0_1 : Nat) (l0_1 : List Int) (a1 : Int) (a2 : Int) (a3 : Int) (a4 : Int) (a5 : Bool) (a6_0 : Int) (a6_1 : Int) (a6_2 : Int) (a6_3 : Int) (a6_4 : Int) (a6_5 : Nat) (r1 : Int) (r2 : Bool) (w : World) (hr0_0 : Kd.C k62 w A0_0 l0_0.length l0_0) (hc0_0 : l0_0.length ≤ c0_0) (hr0_1 : Kd.C (Kd.int .u8) w A0_1 l0_1.length l0_1) (hc0_1 : l0_1.length ≤ c0_1) (h : best_price.f k l0_0 l0_1 a1 a2 a3 a4 a5 a6_0 a6_1 a6_2 a6_3 a6_4 a6_5 = some (r1, r2)) :
    Calls Try.prog 31 #[.agg #[.slice A0_0 l0_0.length c0_0, .slice A0_1 l0_1.length c0_1], .int .i64 a1, .int .u8 a2, .int .i64 a3, .int .i64 a4, .bool a5, .agg #[.int .i64 a6_0, .int .i64 a6_1, .int .u8 a6_2, .int .i64 a6_3, .int .i64 a6_4, .float .f64 a6_5]] w fun e w' => e = .returned (.tuple #[.int .i64 r1, .bool r2]) ∧ Below w.heap.size w w' := by
  have hu31 := Try.underlying31; have hu35 := Try.underlying35; have HR0_0 := zD.mk hr0_0; have HC0_0 := zD.mk hc0_0; clear hr0_0 hc0_0; have HR0_1 := zD.mk hr0_1; have HC0_1 := zD.mk hc0_1; clear hr0_1 hc0_1; have HB := zD.mk (Below.refl w.heap.size w); have H : (if a3 > a6_0 then (some (0, false)) else (if a5 = true then (best_price.j0 k a1 a2 0 l0_0 l0_1 a6_0 a6_1 a6_2 a6_3 a6_4 a6_5) else ((ratio_Of.f (wrap64 (a6_0 - a3)) a4).bind fun t106 => ((ratio_Fits.f t106 a6_5).bind fun t107 => (if t107 = true then ((ratio_Badness.f t106).bind fun t108 => (best_price.j0 k a1 a2 t108 l0_0 l0_1 a6_0 a6_1 a6_2 a6_3 a6_4 a6_5)) else (some (0, false))))))) = some (r1, r2) := h
  clear h; by_cases c8 : a3 > a6_0
  · rw [if_pos c8] at H
    have c8b0 : decide (a6_0 < a3) = true := decide_eq_true c8
    clear c8; simp only [Option.some.injEq, Prod.mk.injEq] at H; obtain ⟨rfl, rfl⟩ := H; go_enter Try.func31, Try.ntmps31
    go_wp2_with (first | ((with_reducible refine gate_dst (N := 7) rfl ?_); refine box_event ?hg (N := 7) ?hd (cs := #[.slice A0_0 l0_0.length c0_0, .slice A0_1 l0_1.length c0_1]) (t := 31) ?hr ?_; (case hd => rfl); (case hg => rfl); (case hr => first | (go_simp; done) | (go_simp; rfl)); intro gb104 hg w9 hbox hb; have n0_ := zD.mk (below_step (by repeat (first | (with_reducible first | exact HB.out | apply zJ | apply zF | apply zI) | exact HB.out)) hb); have n1_ := zD.mk (hbox); have n2_ := zD.mk ((by rw [hg]; exact (zM (by repeat (first | (with_reducible first | exact HB.out | apply zJ | apply zF | apply zI) | exact HB.out))) : w.heap.size ≤ gb104)); have n3_ := zD.mk ((by rw [hg]; exact (zM (by repeat (first | (with_reducible first | exact HB.out | apply zJ | apply zF | apply zI) | exact HB.out))) : w.heap.size ≤ gb104)); clear HB; have HB := n0_; have BK104 := n1_; have GW104 := n2_; have GE104 := n3_; clear n0_ n1_ n2_ n3_; clear hb hbox hg) | ((with_reducible refine gate_dst (N := 13) rfl ?_); refine box_event ?hg (N := 13) ?hd (cs := #[.int .i64 a6_0, .int .i64 a6_1, .int .u8 a6_2, .int .i64 a6_3, .int .i64 a6_4, .float .f64 a6_5]) (t := 35) ?hr ?_; (case hd => rfl); (case hg => rfl); (case hr => first | (go_simp; done) | (go_simp; rfl)); intro gb105 hg w10 hbox hb; have n0_ := zD.mk (zK (g := gb104) (o := .cells #[.slice A0_0 l0_0.length c0_0, .slice A0_1 l0_1.length c0_1] 31 (0, 0)) (by (with_reducible repeat (first | refine zB ?_ _ | refine zC ?_ | refine zA ?_ _)); exact BK104.out) hb); have n1_ := zD.mk (below_step (by repeat (first | (with_reducible first | exact HB.out | apply zJ | apply zF | apply zI | refine zE ?_ GE104.out) | exact HB.out)) hb); have n2_ := zD.mk (hbox); have n3_ := zD.mk ((by rw [hg]; exact (zM (by repeat (first | (with_reducible first | exact HB.out | apply zJ | apply zF | apply zI | refine zE ?_ GE104.out) | exact HB.out))) : w.heap.size ≤ gb105)); have n4_ := zD.mk ((by rw [hg]; exact (zM (by repeat (first | (with_reducible first | exact HB.out | apply zJ | apply zF | apply zI | refine zE ?_ GE104.out) | exact HB.out))) : w.heap.size ≤ gb105)); have n5_ := zD.mk ((by rw [hg]; exact Nat.ne_of_lt (blk_lt (g := gb104) (o := .cells #[.slice A0_0 l0_0.length c0_0, .slice A0_1 l0_1.length c0_1] 31 (0, 0)) (by (with_reducible repeat (first | refine zB ?_ _ | refine zC ?_ | refine zA ?_ _)); exact BK104.out)) : gb104 ≠ gb105)); have n6_ := zD.mk ((by rw [hg]; exact Nat.ne_of_gt (blk_lt (g := gb104) (o := .cells #[.slice A0_0 l0_0.length c0_0, .slice A0_1 l0_1.length c0_1] 31 (0, 0)) (by (with_reducible repeat (first | refine zB ?_ _ | refine zC ?_ | refine zA ?_ _)); exact BK104.out)) : gb105 ≠ gb104)); clear BK104; clear HB; have BK104 := n0_; have HB := n1_; have BK105 := n2_; have GW105 := n3_; have GE105 := n4_; have NB104_105 := n5_; have NB105_104 := n6_; clear n0_ n1_ n2_ n3_ n4_ n5_ n6_; clear hb hbox hg; have hnb11 := NB105_104.out; have hnc11 := NB104_105.out; have hcz12_0 : w10.cell? ⟨gb105, 0, none⟩ = some (.int .i64 a6_0) := (zH BK105.out 0).trans rfl; have hcz12_1 : w10.cell? ⟨gb105, 1, none⟩ = some (.int .i64 a6_1) := (zH BK105.out 1).trans rfl; have hcz12_2 : w10.cell? ⟨gb105, 2, none⟩ = some (.int .u8 a6_2) := (zH BK105.out 2).trans rfl; have hcz12_3 : w10.cell? ⟨gb105, 3, none⟩ = some (.int .i64 a6_3) := (zH BK105.out 3).trans rfl; have hcz12_4 : w10.cell? ⟨gb105, 4, none⟩ = some (.int .i64 a6_4) := (zH BK105.out 4).trans rfl; have hcz12_5 : w10.cell? ⟨gb105, 5, none⟩ = some (.float .f64 a6_5) := (zH BK105.out 5).trans rfl; have hfz12_0 := zG BK105.out 0; have hfz12_1 := zG BK105.out 1; have hfz12_2 := zG BK105.out 2; have hfz12_3 := zG BK105.out 3; have hfz12_4 := zG BK105.out 4; have hfz12_5 := zG BK105.out 5))
    go_ret2
    exact ⟨by first | rfl | (simp [errW_none, errW_some] <;> rfl) | (simp [*, errW_none, errW_some] <;> rfl), by repeat (first | (with_reducible first | exact HB.out | apply zJ | apply zF | apply zI | refine zE ?_ GE104.out | refine zE ?_ GE105.out) | exact HB.out)⟩
  rw [if_neg c8] at H; have c8b0 : decide (a6_0 < a3) = false := decide_eq_false c8
  clear c8; have HC13 := zD.mk H; clear H; go_enter Try.func31, Try.ntmps31
  go_upto_if 24 with (first | ((with_reducible refine gate_dst (N := 7) rfl ?_); refine box_event ?hg (N := 7) ?hd (cs := #[.slice A0_0 l0_0.length c0_0, .slice A0_1 l0_1.length c0_1]) (t := 31) ?hr ?_; (case hd => rfl); (case hg => rfl); (case hr => first | (go_simp; done) | (go_simp; rfl)); intro gb104 hg w14 hbox hb; have n0_ := zD.mk (below_step (by repeat (first | (with_reducible first | exact HB.out | apply zJ | apply zF | apply zI) | exact HB.out)) hb); have n1_ := zD.mk (hbox); have n2_ := zD.mk ((by rw [hg]; exact (zM (by repeat (first | (with_reducible first | exact HB.out | apply zJ | apply zF | apply zI) | exact HB.out))) : w.heap.size ≤ gb104)); have n3_ := zD.mk ((by rw [hg]; exact (zM (by repeat (first | (with_reducible first | exact HB.out | apply zJ | apply zF | apply zI) | exact HB.out))) : w.heap.size ≤ gb104)); clear HB; have HB := n0_; have BK104 := n1_; have GW104 := n2_; have GE104 := n3_; clear n0_ n1_ n2_ n3_; clear hb hbox hg) | ((with_reducible refine gate_dst (N := 13) rfl ?_); refine box_event ?hg (N := 13) ?hd (cs := #[.int .i64 a6_0, .int .i64 a6_1, .int .u8 a6_2, .int .i64 a6_3, .int .i64 a6_4, .float .f64 a6_5]) (t := 35) ?hr ?_; (case hd => rfl); (case hg => rfl); (case hr => first | (go_simp; done) | (go_simp; rfl)); intro gb105 hg w15 hbox hb; have n0_ := zD.mk (zK (g := gb104) (o := .cells #[.slice A0_0 l0_0.length c0_0, .slice A0_1 l0_1.length c0_1] 31 (0, 0)) (by (with_reducible repeat (first | refine zB ?_ _ | refine zC ?_ | refine zA ?_ _)); exact BK104.out) hb); have n1_ := zD.mk (below_step (by repeat (first | (with_reducible first | exact HB.out | apply zJ | apply zF | apply zI | refine zE ?_ GE104.out) | exact HB.out)) hb); have n2_ := zD.mk (hbox); have n3_ := zD.mk ((by rw [hg]; exact (zM (by repeat (first | (with_reducible first | exact HB.out | apply zJ | apply zF | apply zI | refine zE ?_ GE104.out) | exact HB.out))) : w.heap.size ≤ gb105)); have n4_ := zD.mk ((by rw [hg]; exact (zM (by repeat (first | (with_reducible first | exact HB.out | apply zJ | apply zF | apply zI | refine zE ?_ GE104.out) | exact HB.out))) : w.heap.size ≤ gb105)); have n5_ := zD.mk ((by rw [hg]; exact Nat.ne_of_lt (blk_lt (g := gb104) (o := .cells #[.slice A0_0 l0_0.length c0_0, .slice A0_1 l0_1.length c0_1] 31 (0, 0)) (by (with_reducible repeat (first | refine zB ?_ _ | refine zC ?_ | refine zA ?_ _)); exact BK104.out)) : gb104 ≠ gb105)); have n6_ := zD.mk ((by rw [hg]; exact Nat.ne_of_gt (blk_lt (g := gb104) (o := .cells #[.slice A0_0 l0_0.length c0_0, .slice A0_1 l0_1.length c0_1] 31 (0, 0)) (by (with_reducible repeat (first | refine zB ?_ _ | refine zC ?_ | refine zA ?_ _)); exact BK104.out)) : gb105 ≠ gb104)); clear BK104; clear HB; have BK104 := n0_; have HB := n1_; have BK105 := n2_; have GW105 := n3_; have GE105 := n4_; have NB104_105 := n5_; have NB105_104 := n6_; clear n0_ n1_ n2_ n3_ n4_ n5_ n6_; clear hb hbox hg; have hnb16 := NB105_104.out; have hnc16 := NB104_105.out; have hcz17_0 : w15.cell? ⟨gb105, 0, none⟩ = some (.int .i64 a6_0) := (zH BK105.out 0).trans rfl; have hcz17_1 : w15.cell? ⟨gb105, 1, none⟩ = some (.int .i64 a6_1) := (zH BK105.out 1).trans rfl; have hcz17_2 : w15.cell? ⟨gb105, 2, none⟩ = some (.int .u8 a6_2) := (zH BK105.out 2).trans rfl; have hcz17_3 : w15.cell? ⟨gb105, 3, none⟩ = some (.int .i64 a6_3) := (zH BK105.out 3).trans rfl; have hcz17_4 : w15.cell? ⟨gb105, 4, none⟩ = some (.int .i64 a6_4) := (zH BK105.out 4).trans rfl; have hcz17_5 : w15.cell? ⟨gb105, 5, none⟩ = some (.float .f64 a6_5) := (zH BK105.out 5).trans rfl; have hfz17_0 := zG BK105.out 0; have hfz17_1 := zG BK105.out 1; have hfz17_2 := zG BK105.out 2; have hfz17_3 := zG BK105.out 3; have hfz17_4 := zG BK105.out 4; have hfz17_5 := zG BK105.out 5))
  (try simp only [Act.put, sA_, sB_, sC_])
  go_cut [16] (fun v16 wc => ∃ (kq : Nat) (x16_12 : Int), v16 = .int .i64 x16_12 ∧ zD (best_price.j0 kq a1 a2 x16_12 l0_0 l0_1 a6_0 a6_1 a6_2 a6_3 a6_4 a6_5 = some (r1, r2)) ∧ zD (kq ≤ k) ∧ zD (wc.heap[gb104]? = some (.cells #[(.slice A0_0 l0_0.length c0_0), (.slice A0_1 l0_1.length c0_1)] 31 (0, 0))) ∧ zD (wc.heap[gb105]? = some (.cells #[.int .i64 a6_0, .int .i64 a6_1, .int .u8 a6_2, .int .i64 a6_3, .int .i64 a6_4, .float .f64 a6_5] 35 (0, 0))) ∧ zD (Below w.heap.size w wc))
  case first =>
    have H := HC13.out; clear HC13; by_cases c18 : a5 = true
    · subst c18
      have H1 : (best_price.j0 k a1 a2 0 l0_0 l0_1 a6_0 a6_1 a6_2 a6_3 a6_4 a6_5) = some (r1, r2) := by rw [if_pos rfl] at H; exact H
      clear H; have H := H1; clear H1; have H' := zD.mk H
      clear H; go_wp2
      go_meet
      case rel => exact ⟨_, (0), (by first | rfl | (simp; done) | (simp [*]; done)), H', ⟨by first | omega | exact Nat.le_refl _⟩, ⟨by (with_reducible repeat (first | refine zB ?_ _ | refine zC ?_ | refine zA ?_ _)); exact BK104.out⟩, ⟨by (with_reducible repeat (first | refine zB ?_ _ | refine zC ?_ | refine zA ?_ _)); exact BK105.out⟩, ⟨by repeat (first | (with_reducible first | exact HB.out | apply zJ | apply zF | apply zI | refine zE ?_ GE104.out | refine zE ?_ GE105.out) | exact HB.out)⟩⟩
    replace c18 := Bool.eq_false_iff.mpr c18; subst c18; have H1 : ((ratio_Of.f (wrap64 (a6_0 - a3)) a4).bind fun t106 => ((ratio_Fits.f t106 a6_5).bind fun t107 => (if t107 = true then ((ratio_Badness.f t106).bind fun t108 => (best_price.j0 k a1 a2 t108 l0_0 l0_1 a6_0 a6_1 a6_2 a6_3 a6_4 a6_5)) else (some (0, false))))) = some (r1, r2) := by rw [if_neg (show ¬ (false = true) by decide)] at H; exact H
    clear H; have H := H1; clear H1; replace H := Option.bind_eq_some_iff.mp H; obtain ⟨t106, A190, H⟩ := H; replace H : ((ratio_Fits.f t106 a6_5).bind fun t107 => (if t107 = true then ((ratio_Badness.f t106).bind fun t108 => (best_price.j0 k a1 a2 t108 l0_0 l0_1 a6_0 a6_1 a6_2 a6_3 a6_4 a6_5)) else (some (0, false)))) = some (r1, r2) := H
    have A19 := zD.mk A190; clear A190; replace H := Option.bind_eq_some_iff.mp H; obtain ⟨t107, A200, H⟩ := H; replace H : (if t107 = true then ((ratio_Badness.f t106).bind fun t108 => (best_price.j0 k a1 a2 t108 l0_0 l0_1 a6_0 a6_1 a6_2 a6_3 a6_4 a6_5)) else (some (0, false))) = some (r1, r2) := H
    have A20 := zD.mk A200; clear A200; by_cases c21 : t107 = true
    rotate_left
    · replace c21 := Bool.eq_false_iff.mpr c21
      subst c21; have H1 : (some (0, false)) = some (r1, r2) := by rw [if_neg (show ¬ (false = true) by decide)] at H; exact H
      clear H; have H := H1; clear H1; simp only [Option.some.injEq, Prod.mk.injEq] at H; obtain ⟨rfl, rfl⟩ := H; have hnb25 := NB105_104.out; have hnc25 := NB104_105.out; have hcz26_0 : w15.cell? ⟨gb105, 0, none⟩ = some (.int .i64 a6_0) := (zH BK105.out 0).trans rfl
      have hcz26_1 : w15.cell? ⟨gb105, 1, none⟩ = some (.int .i64 a6_1) := (zH BK105.out 1).trans rfl
      have hcz26_2 : w15.cell? ⟨gb105, 2, none⟩ = some (.int .u8 a6_2) := (zH BK105.out 2).trans rfl
      have hcz26_3 : w15.cell? ⟨gb105, 3, none⟩ = some (.int .i64 a6_3) := (zH BK105.out 3).trans rfl
      have hcz26_4 : w15.cell? ⟨gb105, 4, none⟩ = some (.int .i64 a6_4) := (zH BK105.out 4).trans rfl
      have hcz26_5 : w15.cell? ⟨gb105, 5, none⟩ = some (.float .f64 a6_5) := (zH BK105.out 5).trans rfl
      have hfz26_0 := zG BK105.out 0; have hfz26_1 := zG BK105.out 1; have hfz26_2 := zG BK105.out 2; have hfz26_3 := zG BK105.out 3; have hfz26_4 := zG BK105.out 4; have hfz26_5 := zG BK105.out 5; go_wp2_with (first | ((with_reducible refine gate_callee (f := 41) rfl ?_); refine goesL_ (some 30) rfl rfl Try.func41 (by kernel_rfl) rfl #[.int .i64 (wrap64 (a6_0 - a3)), .int .i64 a4] rfl (by (try simp only [List.map_toArray, List.map_cons, List.map_nil]); first | done | rfl | (simp only [List.length_drop, List.length_take]; rfl)) ?_; (with_reducible refine (ratio_Of.calls (wrap64 (a6_0 - a3)) a4 t106 _ A19.out).mono ?_); rintro e w' ⟨bt_t106, rfl, ⟨nd, rfl⟩, hfr_⟩; have HF_t106 := zD.mk hfr_; clear hfr_; refine ⟨_, rfl, ?_⟩) | ((with_reducible refine gate_callee (f := 42) rfl ?_); refine goesL_ (some 34) rfl rfl Try.func42 (by kernel_rfl) rfl #[.float .f64 bt_t106, .float .f64 a6_5] rfl (by (try simp only [List.map_toArray, List.map_cons, List.map_nil]); first | done | rfl | (simp only [List.length_drop, List.length_take]; rfl)) ?_; (with_reducible refine (ratio_Fits.calls t106 a6_5 false _ A20.out).mono ?_); rintro e w' ⟨rfl, ⟨nd, rfl⟩⟩; refine ⟨_, rfl, ?_⟩))
      go_ret2
      exact ⟨by first | rfl | (simp [errW_none, errW_some] <;> rfl) | (simp [*, errW_none, errW_some] <;> rfl), by repeat (first | (with_reducible first | exact HB.out | apply zJ | apply zF | apply zI | refine zE ?_ GE104.out | refine zE ?_ GE105.out) | exact HB.out)⟩
    subst c21; have H1 : ((ratio_Badness.f t106).bind fun t108 => (best_price.j0 k a1 a2 t108 l0_0 l0_1 a6_0 a6_1 a6_2 a6_3 a6_4 a6_5)) = some (r1, r2) := by rw [if_pos rfl] at H; exact H
    clear H; have H := H1; clear H1; replace H := Option.bind_eq_some_iff.mp H; obtain ⟨t108, A220, H⟩ := H; replace H : (best_price.j0 k a1 a2 t108 l0_0 l0_1 a6_0 a6_1 a6_2 a6_3 a6_4 a6_5) = some (r1, r2) := H; have A22 := zD.mk A220; clear A220; have H' := zD.mk H
    clear H; have hnb23 := NB105_104.out; have hnc23 := NB104_105.out; have hcz24_0 : w15.cell? ⟨gb105, 0, none⟩ = some (.int .i64 a6_0) := (zH BK105.out 0).trans rfl
    have hcz24_1 : w15.cell? ⟨gb105, 1, none⟩ = some (.int .i64 a6_1) := (zH BK105.out 1).trans rfl
    have hcz24_2 : w15.cell? ⟨gb105, 2, none⟩ = some (.int .u8 a6_2) := (zH BK105.out 2).trans rfl
    have hcz24_3 : w15.cell? ⟨gb105, 3, none⟩ = some (.int .i64 a6_3) := (zH BK105.out 3).trans rfl
    have hcz24_4 : w15.cell? ⟨gb105, 4, none⟩ = some (.int .i64 a6_4) := (zH BK105.out 4).trans rfl
    have hcz24_5 : w15.cell? ⟨gb105, 5, none⟩ = some (.float .f64 a6_5) := (zH BK105.out 5).trans rfl
    have hfz24_0 := zG BK105.out 0; have hfz24_1 := zG BK105.out 1; have hfz24_2 := zG BK105.out 2; have hfz24_3 := zG BK105.out 3; have hfz24_4 := zG BK105.out 4; have hfz24_5 := zG BK105.out 5; go_wp2_with (first | ((with_reducible refine gate_callee (f := 41) rfl ?_); refine goesL_ (some 30) rfl rfl Try.func41 (by kernel_rfl) rfl #[.int .i64 (wrap64 (a6_0 - a3)), .int .i64 a4] rfl (by (try simp only [List.map_toArray, List.map_cons, List.map_nil]); first | done | rfl | (simp only [List.length_drop, List.length_take]; rfl)) ?_; (with_reducible refine (ratio_Of.calls (wrap64 (a6_0 - a3)) a4 t106 _ A19.out).mono ?_); rintro e w' ⟨bt_t106, rfl, ⟨nd, rfl⟩, hfr_⟩; have HF_t106 := zD.mk hfr_; clear hfr_; refine ⟨_, rfl, ?_⟩) | ((with_reducible refine gate_callee (f := 42) rfl ?_); refine goesL_ (some 34) rfl rfl Try.func42 (by kernel_rfl) rfl #[.float .f64 bt_t106, .float .f64 a6_5] rfl (by (try simp only [List.map_toArray, List.map_cons, List.map_nil]); first | done | rfl | (simp only [List.length_drop, List.length_take]; rfl)) ?_; (with_reducible refine (ratio_Fits.calls t106 a6_5 true _ A20.out).mono ?_); rintro e w' ⟨rfl, ⟨nd, rfl⟩⟩; refine ⟨_, rfl, ?_⟩) | ((with_reducible refine gate_callee (f := 43) rfl ?_); refine goesL_ (some 37) rfl rfl Try.func43 (by kernel_rfl) rfl #[.float .f64 bt_t106] rfl (by (try simp only [List.map_toArray, List.map_cons, List.map_nil]); first | done | rfl | (simp only [List.length_drop, List.length_take]; rfl)) ?_; (with_reducible refine (ratio_Badness.calls t106 t108 _ A22.out).mono ?_); rintro e w' ⟨rfl, ⟨nd, rfl⟩⟩; refine ⟨_, rfl, ?_⟩))
    go_meet
    case rel => exact ⟨_, (t108), (by first | rfl | (simp; done) | (simp [*]; done)), H', ⟨by first | omega | exact Nat.le_refl _⟩, ⟨by (with_reducible repeat (first | refine zB ?_ _ | refine zC ?_ | refine zA ?_ _)); exact BK104.out⟩, ⟨by (with_reducible repeat (first | refine zB ?_ _ | refine zC ?_ | refine zA ?_ _)); exact BK105.out⟩, ⟨by repeat (first | (with_reducible first | exact HB.out | apply zJ | apply zF | apply zI | refine zE ?_ GE104.out | refine zE ?_ GE105.out) | exact HB.out)⟩⟩
  clear HC13; try clear c1
  try clear c2
  try clear p2
  try clear c3
  try clear c4
  try clear p6
  try clear c8
  try clear c8b0
  try clear c11
  try clear c16
  try clear c18
  try clear c21
  try clear c23
  try clear c25
  try clear hcz12_0
  try clear hcz12_1
  try clear hcz12_2
  try clear hcz12_3
  try clear hcz12_4
  try clear hcz12_5
  try clear hcz17_0
  try clear hcz17_1
  try clear hcz17_2
  try clear hcz17_3
  try clear hcz17_4
  try clear hcz17_5
  try clear hcz24_0
  try clear hcz24_1
  try clear hcz24_2
  try clear hcz24_3
  try clear hcz24_4
  try clear hcz24_5
  try clear hcz26_0
  try clear hcz26_1
  try clear hcz26_2
  try clear hcz26_3
  try clear hcz26_4
  try clear hcz26_5
  try clear hfz12_0
  try clear hfz12_1
  try clear hfz12_2
  try clear hfz12_3
  try clear hfz12_4
  try clear hfz12_5
  try clear hfz17_0
  try clear hfz17_1
  try clear hfz17_2
  try clear hfz17_3
  try clear hfz17_4
  try clear hfz17_5
  try clear hfz24_0
  try clear hfz24_1
  try clear hfz24_2
  try clear hfz24_3
  try clear hfz24_4
  try clear hfz24_5
  try clear hfz26_0
  try clear hfz26_1
  try clear hfz26_2
  try clear hfz26_3
  try clear hfz26_4
  try clear hfz26_5
  obtain ⟨kq, x16_12, rfl, HA, HJ12, BK104, BK105, HB⟩ := hcut; cases kq with
  | zero => exact absurd HA.out (by simp [best_price.j0])
  | succ kj12 =>
    have H := HA.out; clear HA; simp only [best_price.j0] at H; by_cases c27 : a2 = 3
    rotate_left
    · rw [if_neg c27] at H
      have c27b0 : (a2 == 3) = false := beq_eq_false_iff_ne.mpr c27
      have c27b1 : (a2 != 3) = true := bne_iff_ne.mpr c27
      simp only [Option.some.injEq, Prod.mk.injEq] at H; obtain ⟨rfl, rfl⟩ := H; go_wp2
      go_ret2
      exact ⟨by first | rfl | (simp [errW_none, errW_some] <;> rfl) | (simp [*, errW_none, errW_some] <;> rfl), by repeat (first | (with_reducible first | exact HB.out | apply zJ | apply zF | apply zI | refine zE ?_ GE104.out | refine zE ?_ GE105.out) | exact HB.out)⟩
    rw [if_pos c27] at H; have c27b0 : (a2 == 3) = true := beq_iff_eq.mpr c27
    have c27b1 : (a2 != 3) = false := bne_eq_false_iff_eq.mpr c27
    clear c27; by_cases c28 : 0 ≤ a1
    rotate_left
    · rw [if_neg c28] at H
      exact absurd H (by simp)
    rw [if_pos c28] at H; have c28b0 : decide (0 ≤ a1) = true := decide_eq_true c28
    clear c28; by_cases c29 : a1 < (l0_1.length : Int)
    rotate_left
    · rw [if_neg c29] at H
      exact absurd H (by simp)
    rw [if_pos c29] at H; have c29b0 : decide (a1 < (l0_1.length : Int)) = true := decide_eq_true c29
    clear c29; by_cases c30 : (rd l0_1 a1) = 3
    · rw [if_pos c30] at H
      have c30b0 : ((rd l0_1 a1) == 3) = true := beq_iff_eq.mpr c30
      have c30b1 : ((rd l0_1 a1) != 3) = false := bne_eq_false_iff_eq.mpr c30
      clear c30; simp only [Option.some.injEq, Prod.mk.injEq] at H; obtain ⟨rfl, rfl⟩ := H; have hnb31 := NB105_104.out; have hnc31 := NB104_105.out; have hcz32_0 : wc.cell? ⟨gb105, 0, none⟩ = some (.int .i64 a6_0) := (zH BK105.out 0).trans rfl
      have hcz32_1 : wc.cell? ⟨gb105, 1, none⟩ = some (.int .i64 a6_1) := (zH BK105.out 1).trans rfl
      have hcz32_2 : wc.cell? ⟨gb105, 2, none⟩ = some (.int .u8 a6_2) := (zH BK105.out 2).trans rfl
      have hcz32_3 : wc.cell? ⟨gb105, 3, none⟩ = some (.int .i64 a6_3) := (zH BK105.out 3).trans rfl
      have hcz32_4 : wc.cell? ⟨gb105, 4, none⟩ = some (.int .i64 a6_4) := (zH BK105.out 4).trans rfl
      have hcz32_5 : wc.cell? ⟨gb105, 5, none⟩ = some (.float .f64 a6_5) := (zH BK105.out 5).trans rfl
      have hfz32_0 := zG BK105.out 0; have hfz32_1 := zG BK105.out 1; have hfz32_2 := zG BK105.out 2; have hfz32_3 := zG BK105.out 3; have hfz32_4 := zG BK105.out 4; have hfz32_5 := zG BK105.out 5; have hcz33_0 : wc.cell? ⟨gb104, 0, none⟩ = some (.slice A0_0 l0_0.length c0_0) := (zH BK104.out 0).trans rfl
      have hcz33_1 : wc.cell? ⟨gb104, 1, none⟩ = some (.slice A0_1 l0_1.length c0_1) := (zH BK104.out 1).trans rfl
      have hfz33_0 := zG BK104.out 0; have hfz33_1 := zG BK104.out 1; have p109 : 0 ≤ (a1 : Int) := of_decide_eq_true (by first | (with_reducible assumption) | assumption)
      have q109 : a1 < (l0_1.length : Int) := of_decide_eq_true (by first | (with_reducible assumption) | assumption)
      obtain ⟨ad109, e109, hx109_0⟩ := Kd.at_int HR0_1.out a1 p109 q109; cases e109
      replace hx109_0 := (HB.out.cell (World.block_lt_of_cell? w _ hx109_0)).trans hx109_0; replace p109 := eq_true p109; replace q109 := eq_true q109; go_wp2
      go_ret2
      exact ⟨by first | rfl | (simp [errW_none, errW_some] <;> rfl) | (simp [*, errW_none, errW_some] <;> rfl), by repeat (first | (with_reducible first | exact HB.out | apply zJ | apply zF | apply zI | refine zE ?_ GE104.out | refine zE ?_ GE105.out) | exact HB.out)⟩
    rw [if_neg c30] at H; have c30b0 : ((rd l0_1 a1) == 3) = false := beq_eq_false_iff_ne.mpr c30
    have c30b1 : ((rd l0_1 a1) != 3) = true := bne_iff_ne.mpr c30
    simp only [Option.some.injEq, Prod.mk.injEq] at H; obtain ⟨rfl, rfl⟩ := H; have hnb34 := NB105_104.out; have hnc34 := NB104_105.out; have hcz35_0 : wc.cell? ⟨gb105, 0, none⟩ = some (.int .i64 a6_0) := (zH BK105.out 0).trans rfl
    have hcz35_1 : wc.cell? ⟨gb105, 1, none⟩ = some (.int .i64 a6_1) := (zH BK105.out 1).trans rfl
    have hcz35_2 : wc.cell? ⟨gb105, 2, none⟩ = some (.int .u8 a6_2) := (zH BK105.out 2).trans rfl
    have hcz35_3 : wc.cell? ⟨gb105, 3, none⟩ = some (.int .i64 a6_3) := (zH BK105.out 3).trans rfl
    have hcz35_4 : wc.cell? ⟨gb105, 4, none⟩ = some (.int .i64 a6_4) := (zH BK105.out 4).trans rfl
    have hcz35_5 : wc.cell? ⟨gb105, 5, none⟩ = some (.float .f64 a6_5) := (zH BK105.out 5).trans rfl
    have hfz35_0 := zG BK105.out 0; have hfz35_1 := zG BK105.out 1; have hfz35_2 := zG BK105.out 2; have hfz35_3 := zG BK105.out 3; have hfz35_4 := zG BK105.out 4; have hfz35_5 := zG BK105.out 5; have hcz36_0 : wc.cell? ⟨gb104, 0, none⟩ = some (.slice A0_0 l0_0.length c0_0) := (zH BK104.out 0).trans rfl
    have hcz36_1 : wc.cell? ⟨gb104, 1, none⟩ = some (.slice A0_1 l0_1.length c0_1) := (zH BK104.out 1).trans rfl
    have hfz36_0 := zG BK104.out 0; have hfz36_1 := zG BK104.out 1; have p109 : 0 ≤ (a1 : Int) := of_decide_eq_true (by first | (with_reducible assumption) | assumption)
    have q109 : a1 < (l0_1.length : Int) := of_decide_eq_true (by first | (with_reducible assumption) | assumption)
    obtain ⟨ad109, e109, hx109_0⟩ := Kd.at_int HR0_1.out a1 p109 q109; cases e109
    replace hx109_0 := (HB.out.cell (World.block_lt_of_cell? w _ hx109_0)).trans hx109_0; replace p109 := eq_true p109; replace q109 := eq_true q109; go_wp2
    go_ret2
    exact ⟨by first | rfl | (simp [errW_none, errW_some] <;> rfl) | (simp [*, errW_none, errW_some] <;> rfl), by repeat (first | (with_reducible first | exact HB.out | apply zJ | apply zF | apply zI | refine zE ?_ GE104.out | refine zE ?_ GE105.out) | exact HB.out)⟩
end Go.Proofs.Ytlgclhhkgohanaa.F
end
section
namespace Go.Proofs.Ytlgclhhkgohanaa.F
open Go.RowKit Go.Proofs.YtlgclhhkgohanaaW.PrintWords Go.Proofs.YtlgclhhkgohanaaW.PrintLast Go.Proofs.YtlgclhhkgohanaaW.PrintMore
attribute [local go_sem] max2_int min2_int max_two min_two max_three min_three max_four min_four   -- for this text's walks alone
set_option linter.unusedVariables false
set_option linter.unusedSimpArgs false
def span_Next.f (a0_0 : Int) (a0_1 : Int) (a0_2 : Int) (a0_3 : Int) (a1 : Int) (a2 : Int) : Option (Int) := if a0_3 = 2 then (if a2 = 0 then (none) else (some (wrap64 ((wrap64 (a1 + a2)) - (Int.tmod a1 a2))))) else (some (wrap64 (a1 + a0_2)))
set_option maxHeartbeats 8000000 in
set_option maxRecDepth 100000 in
theorem span_Next.calls (a0_0 : Int) (a0_1 : Int) (a0_2 : Int) (a0_3 : Int) (a1 : Int) (a2 : Int) (r : Int) (w : World) (h : span_Next.f a0_0 a0_1 a0_2 a0_3 a1 a2 = some r) :
    Calls Try.prog 37 #[.agg #[.int .i64 a0_0, .int .i64 a0_1, .int .i64 a0_2, .int .u8 a0_3], .int .i64 a1, .int .i64 a2] w fun e w' => e = .returned (.int .i64 r) ∧ Below w.heap.size w w' := by
  have hu62 := Try.underlying62; have HB := zD.mk (Below.refl w.heap.size w); have H : (if a0_3 = 2 then (if a2 = 0 then (none) else (some (wrap64 ((wrap64 (a1 + a2)) - (Int.tmod a1 a2))))) else (some (wrap64 (a1 + a0_2)))) = some r := h
  clear h; by_cases c4 : a0_3 = 2
  rotate_left
  · rw [if_neg c4] at H
    have c4b0 : (a0_3 == 2) = false := beq_eq_false_iff_ne.mpr c4
    have c4b1 : (a0_3 != 2) = true := bne_iff_ne.mpr c4
    obtain rfl := Option.some.inj H
    go_enter Try.func37, Try.ntmps37
    go_wp2_with (first | ((with_reducible refine gate_dst (N := 3) rfl ?_); refine box_event ?hg (N := 3) ?hd (cs := #[.int .i64 a0_0, .int .i64 a0_1, .int .i64 a0_2, .int .u8 a0_3]) (t := 62) ?hr ?_; (case hd => rfl); (case hg => rfl); (case hr => first | (go_simp; done) | (go_simp; rfl)); intro gb110 hg w8 hbox hb; have n0_ := zD.mk (below_step (by repeat (first | (with_reducible first | exact HB.out | apply zJ | apply zF | apply zI) | exact HB.out)) hb); have n1_ := zD.mk (hbox); have n2_ := zD.mk ((by rw [hg]; exact (zM (by repeat (first | (with_reducible first | exact HB.out | apply zJ | apply zF | apply zI) | exact HB.out))) : w.heap.size ≤ gb110)); have n3_ := zD.mk ((by rw [hg]; exact (zM (by repeat (first | (with_reducible first | exact HB.out | apply zJ | apply zF | apply zI) | exact HB.out))) : w.heap.size ≤ gb110)); clear HB; have HB := n0_; have BK110 := n1_; have GW110 := n2_; have GE110 := n3_; clear n0_ n1_ n2_ n3_; clear hb hbox hg; have hcz9_0 : w8.cell? ⟨gb110, 0, none⟩ = some (.int .i64 a0_0) := (zH BK110.out 0).trans rfl; have hcz9_1 : w8.cell? ⟨gb110, 1, none⟩ = some (.int .i64 a0_1) := (zH BK110.out 1).trans rfl; have hcz9_2 : w8.cell? ⟨gb110, 2, none⟩ = some (.int .i64 a0_2) := (zH BK110.out 2).trans rfl; have hcz9_3 : w8.cell? ⟨gb110, 3, none⟩ = some (.int .u8 a0_3) := (zH BK110.out 3).trans rfl; have hfz9_0 := zG BK110.out 0; have hfz9_1 := zG BK110.out 1; have hfz9_2 := zG BK110.out 2; have hfz9_3 := zG BK110.out 3))
    go_ret
    exact ⟨by first | rfl | (simp [errW_none, errW_some] <;> rfl) | (simp [*, errW_none, errW_some] <;> rfl), by repeat (first | (with_reducible first | exact HB.out | apply zJ | apply zF | apply zI | refine zE ?_ GE110.out) | exact HB.out)⟩
  rw [if_pos c4] at H; have c4b0 : (a0_3 == 2) = true := beq_iff_eq.mpr c4
  have c4b1 : (a0_3 != 2) = false := bne_eq_false_iff_eq.mpr c4
  clear c4; by_cases c5 : a2 = 0
  · rw [if_pos c5] at H
    exact absurd H (by simp)
  rw [if_neg c5] at H; have c5b0 : (a2 == 0) = false := beq_eq_false_iff_ne.mpr c5
  have c5b1 : (a2 != 0) = true := bne_iff_ne.mpr c5
  obtain rfl := Option.some.inj H
  go_enter Try.func37, Try.ntmps37
  go_wp2_with (first | ((with_reducible refine gate_dst (N := 3) rfl ?_); refine box_event ?hg (N := 3) ?hd (cs := #[.int .i64 a0_0, .int .i64 a0_1, .int .i64 a0_2, .int .u8 a0_3]) (t := 62) ?hr ?_; (case hd => rfl); (case hg => rfl); (case hr => first | (go_simp; done) | (go_simp; rfl)); intro gb110 hg w6 hbox hb; have n0_ := zD.mk (below_step (by repeat (first | (with_reducible first | exact HB.out | apply zJ | apply zF | apply zI) | exact HB.out)) hb); have n1_ := zD.mk (hbox); have n2_ := zD.mk ((by rw [hg]; exact (zM (by repeat (first | (with_reducible first | exact HB.out | apply zJ | apply zF | apply zI) | exact HB.out))) : w.heap.size ≤ gb110)); have n3_ := zD.mk ((by rw [hg]; exact (zM (by repeat (first | (with_reducible first | exact HB.out | apply zJ | apply zF | apply zI) | exact HB.out))) : w.heap.size ≤ gb110)); clear HB; have HB := n0_; have BK110 := n1_; have GW110 := n2_; have GE110 := n3_; clear n0_ n1_ n2_ n3_; clear hb hbox hg; have hcz7_0 : w6.cell? ⟨gb110, 0, none⟩ = some (.int .i64 a0_0) := (zH BK110.out 0).trans rfl; have hcz7_1 : w6.cell? ⟨gb110, 1, none⟩ = some (.int .i64 a0_1) := (zH BK110.out 1).trans rfl; have hcz7_2 : w6.cell? ⟨gb110, 2, none⟩ = some (.int .i64 a0_2) := (zH BK110.out 2).trans rfl; have hcz7_3 : w6.cell? ⟨gb110, 3, none⟩ = some (.int .u8 a0_3) := (zH BK110.out 3).trans rfl; have hfz7_0 := zG BK110.out 0; have hfz7_1 := zG BK110.out 1; have hfz7_2 := zG BK110.out 2; have hfz7_3 := zG BK110.out 3))
  go_ret
  exact ⟨by first | rfl | (simp [errW_none, errW_some] <;> rfl) | (simp [*, errW_none, errW_some] <;> rfl), by repeat (first | (with_reducible first | exact HB.out | apply zJ | apply zF | apply zI | refine zE ?_ GE110.out) | exact HB.out)⟩
def span_empty.f (a0_0 : Int) (a0_1 : Int) (a0_2 : Int) (a0_3 : Int) : Option (Bool) := if a0_3 = 1 then (some true) else (if a0_3 = 0 then (some (a0_2 == 0)) else (some false))
set_option maxHeartbeats 8000000 in
set_option maxRecDepth 100000 in
theorem span_empty.calls (a0_0 : Int) (a0_1 : Int) (a0_2 : Int) (a0_3 : Int) (r : Bool) (w : World) (h : span_empty.f a0_0 a0_1 a0_2 a0_3 = some r) :
    Calls Try.prog 47 #[.agg #[.int .i64 a0_0, .int .i64 a0_1, .int .i64 a0_2, .int .u8 a0_3]] w fun e w' => e = .returned (.bool r) ∧ Below w.heap.size w w' := by
  have hu62 := Try.underlying62; have HB := zD.mk (Below.refl w.heap.size w); have H : (if a0_3 = 1 then (some true) else (if a0_3 = 0 then (some (a0_2 == 0)) else (some false))) = some r := h
  clear h; by_cases c2 : a0_3 = 1
  · rw [if_pos c2] at H
    have c2b0 : (a0_3 == 1) = true := beq_iff_eq.mpr c2
    have c2b1 : (a0_3 != 1) = false := bne_eq_false_iff_eq.mpr c2
    clear c2; obtain rfl := Option.some.inj H
    go_enter Try.func47, Try.ntmps47
    go_wp2_with (first | ((with_reducible refine gate_dst (N := 1) rfl ?_); refine box_event ?hg (N := 1) ?hd (cs := #[.int .i64 a0_0, .int .i64 a0_1, .int .i64 a0_2, .int .u8 a0_3]) (t := 62) ?hr ?_; (case hd => rfl); (case hg => rfl); (case hr => first | (go_simp; done) | (go_simp; rfl)); intro gb111 hg w3 hbox hb; have n0_ := zD.mk (below_step (by repeat (first | (with_reducible first | exact HB.out | apply zJ | apply zF | apply zI) | exact HB.out)) hb); have n1_ := zD.mk (hbox); have n2_ := zD.mk ((by rw [hg]; exact (zM (by repeat (first | (with_reducible first | exact HB.out | apply zJ | apply zF | apply zI) | exact HB.out))) : w.heap.size ≤ gb111)); have n3_ := zD.mk ((by rw [hg]; exact (zM (by repeat (first | (with_reducible first | exact HB.out | apply zJ | apply zF | apply zI) | exact HB.out))) : w.heap.size ≤ gb111)); clear HB; have HB := n0_; have BK111 := n1_; have GW111 := n2_; have GE111 := n3_; clear n0_ n1_ n2_ n3_; clear hb hbox hg; have hcz4_0 : w3.cell? ⟨gb111, 0, none⟩ = some (.int .i64 a0_0) := (zH BK111.out 0).trans rfl; have hcz4_1 : w3.cell? ⟨gb111, 1, none⟩ = some (.int .i64 a0_1) := (zH BK111.out 1).trans rfl; have hcz4_2 : w3.cell? ⟨gb111, 2, none⟩ = some (.int .i64 a0_2) := (zH BK111.out 2).trans rfl; have hcz4_3 : w3.cell? ⟨gb111, 3, none⟩ = some (.int .u8 a0_3) := (zH BK111.out 3).trans rfl; have hfz4_0 := zG BK111.out 0; have hfz4_1 := zG BK111.out 1; have hfz4_2 := zG BK111.out 2; have hfz4_3 := zG BK111.out 3))
    go_ret
    exact ⟨by first | rfl | (simp [errW_none, errW_some] <;> rfl) | (simp [*, errW_none, errW_some] <;> rfl), by repeat (first | (with_reducible first | exact HB.out | apply zJ | apply zF | apply zI | refine zE ?_ GE111.out) | exact HB.out)⟩
  rw [if_neg c2] at H; have c2b0 : (a0_3 == 1) = false := beq_eq_false_iff_ne.mpr c2
  have c2b1 : (a0_3 != 1) = true := bne_iff_ne.mpr c2
  by_cases c5 : a0_3 = 0
  · rw [if_pos c5] at H
    have c5b0 : (a0_3 == 0) = true := beq_iff_eq.mpr c5
    have c5b1 : (a0_3 != 0) = false := bne_eq_false_iff_eq.mpr c5
    clear c5; obtain rfl := Option.some.inj H
    go_enter Try.func47, Try.ntmps47
    go_wp2_with (first | ((with_reducible refine gate_dst (N := 1) rfl ?_); refine box_event ?hg (N := 1) ?hd (cs := #[.int .i64 a0_0, .int .i64 a0_1, .int .i64 a0_2, .int .u8 a0_3]) (t := 62) ?hr ?_; (case hd => rfl); (case hg => rfl); (case hr => first | (go_simp; done) | (go_simp; rfl)); intro gb111 hg w6 hbox hb; have n0_ := zD.mk (below_step (by repeat (first | (with_reducible first | exact HB.out | apply zJ | apply zF | apply zI) | exact HB.out)) hb); have n1_ := zD.mk (hbox); have n2_ := zD.mk ((by rw [hg]; exact (zM (by repeat (first | (with_reducible first | exact HB.out | apply zJ | apply zF | apply zI) | exact HB.out))) : w.heap.size ≤ gb111)); have n3_ := zD.mk ((by rw [hg]; exact (zM (by repeat (first | (with_reducible first | exact HB.out | apply zJ | apply zF | apply zI) | exact HB.out))) : w.heap.size ≤ gb111)); clear HB; have HB := n0_; have BK111 := n1_; have GW111 := n2_; have GE111 := n3_; clear n0_ n1_ n2_ n3_; clear hb hbox hg; have hcz7_0 : w6.cell? ⟨gb111, 0, none⟩ = some (.int .i64 a0_0) := (zH BK111.out 0).trans rfl; have hcz7_1 : w6.cell? ⟨gb111, 1, none⟩ = some (.int .i64 a0_1) := (zH BK111.out 1).trans rfl; have hcz7_2 : w6.cell? ⟨gb111, 2, none⟩ = some (.int .i64 a0_2) := (zH BK111.out 2).trans rfl; have hcz7_3 : w6.cell? ⟨gb111, 3, none⟩ = some (.int .u8 a0_3) := (zH BK111.out 3).trans rfl; have hfz7_0 := zG BK111.out 0; have hfz7_1 := zG BK111.out 1; have hfz7_2 := zG BK111.out 2; have hfz7_3 := zG BK111.out 3))
    go_ret
    exact ⟨by first | rfl | (simp [errW_none, errW_some] <;> rfl) | (simp [*, errW_none, errW_some] <;> rfl), by repeat (first | (with_reducible first | exact HB.out | apply zJ | apply zF | apply zI | refine zE ?_ GE111.out) | exact HB.out)⟩
  rw [if_neg c5] at H; have c5b0 : (a0_3 == 0) = false := beq_eq_false_iff_ne.mpr c5
  have c5b1 : (a0_3 != 0) = true := bne_iff_ne.mpr c5
  obtain rfl := Option.some.inj H
  go_enter Try.func47, Try.ntmps47
  go_wp2_with (first | ((with_reducible refine gate_dst (N := 1) rfl ?_); refine box_event ?hg (N := 1) ?hd (cs := #[.int .i64 a0_0, .int .i64 a0_1, .int .i64 a0_2, .int .u8 a0_3]) (t := 62) ?hr ?_; (case hd => rfl); (case hg => rfl); (case hr => first | (go_simp; done) | (go_simp; rfl)); intro gb111 hg w8 hbox hb; have n0_ := zD.mk (below_step (by repeat (first | (with_reducible first | exact HB.out | apply zJ | apply zF | apply zI) | exact HB.out)) hb); have n1_ := zD.mk (hbox); have n2_ := zD.mk ((by rw [hg]; exact (zM (by repeat (first | (with_reducible first | exact HB.out | apply zJ | apply zF | apply zI) | exact HB.out))) : w.heap.size ≤ gb111)); have n3_ := zD.mk ((by rw [hg]; exact (zM (by repeat (first | (with_reducible first | exact HB.out | apply zJ | apply zF | apply zI) | exact HB.out))) : w.heap.size ≤ gb111)); clear HB; have HB := n0_; have BK111 := n1_; have GW111 := n2_; have GE111 := n3_; clear n0_ n1_ n2_ n3_; clear hb hbox hg; have hcz9_0 : w8.cell? ⟨gb111, 0, none⟩ = some (.int .i64 a0_0) := (zH BK111.out 0).trans rfl; have hcz9_1 : w8.cell? ⟨gb111, 1, none⟩ = some (.int .i64 a0_1) := (zH BK111.out 1).trans rfl; have hcz9_2 : w8.cell? ⟨gb111, 2, none⟩ = some (.int .i64 a0_2) := (zH BK111.out 2).trans rfl; have hcz9_3 : w8.cell? ⟨gb111, 3, none⟩ = some (.int .u8 a0_3) := (zH BK111.out 3).trans rfl; have hfz9_0 := zG BK111.out 0; have hfz9_1 := zG BK111.out 1; have hfz9_2 := zG BK111.out 2; have hfz9_3 := zG BK111.out 3))
  go_ret
  exact ⟨by first | rfl | (simp [errW_none, errW_some] <;> rfl) | (simp [*, errW_none, errW_some] <;> rfl), by repeat (first | (with_reducible first | exact HB.out | apply zJ | apply zF | apply zI | refine zE ?_ GE111.out) | exact HB.out)⟩
end Go.Proofs.Ytlgclhhkgohanaa.F
end
section
namespace Go.Proofs.Ytlgclhhkgohanaa.F
open Go.RowKit Go.Proofs.YtlgclhhkgohanaaW.PrintWords Go.Proofs.YtlgclhhkgohanaaW.PrintLast Go.Proofs.YtlgclhhkgohanaaW.PrintMore
attribute [local go_sem] max2_int min2_int max_two min_two max_three min_three max_four min_four   -- for this text's walks alone
set_option linter.unusedVariables false
set_option linter.unusedSimpArgs false
def span_Trim.l0 : Nat → Int → Int → List (S62) → List Int → Option (Int)
  | 0, _, _, _, _ => none
  | k + 1, x1, x2, x113000, x113001 => if x2 > x1 then (if 0 ≤ (wrap64 (x2 - 1)) then (if (wrap64 (x2 - 1)) < (x113000.length : Int) then ((span_empty.f ((rd_T62 x113000 (wrap64 (x2 - 1))).f0) ((rd_T62 x113000 (wrap64 (x2 - 1))).f1) ((rd_T62 x113000 (wrap64 (x2 - 1))).f2) ((rd_T62 x113000 (wrap64 (x2 - 1))).f3)).bind fun t114 => (if t114 = true then (span_Trim.l0 k x1 (wrap64 (x2 - 1)) x113000 x113001) else (some x2))) else (none)) else (none)) else (some x2)
def span_Trim.f (k : Nat) (l0_0 : List (S62)) (l0_1 : List Int) (a1 : Int) (a2 : Int) : Option (Int) := span_Trim.l0 k a1 a2 l0_0 l0_1
theorem span_Trim.mono_l : ∀ k, (∀ y0 y1 y2 y3, LeO (span_Trim.l0 k y0 y1 y2 y3) (span_Trim.l0 (k + 1) y0 y1 y2 y3))
  | 0 => fun _ _ _ _ r h => by simp [span_Trim.l0] at h
  | k + 1 => by
    have ih0 := span_Trim.mono_l k
    · intro y0 y1 y2 y3
      unfold span_Trim.l0
      repeat' first
      | (with_reducible exact ih0 _ _ _ _)
      | (with_reducible exact LeO.refl _)
      | (with_reducible exact LeO.none _)
      | (with_reducible refine LeO.ite ?_ ?_)
      | (with_reducible refine LeO.bind ?_ (fun _ => ?_))
      | exact ih0 _ _ _ _
      | exact LeO.none _
      | refine LeO.ite ?_ ?_
      | refine LeO.bind ?_ (fun _ => ?_)
theorem span_Trim.mono : ∀ a0 a1 a2 a3 k, LeO (span_Trim.f k a0 a1 a2 a3) (span_Trim.f (k + 1) a0 a1 a2 a3) := by
  intro a0 a1 a2 a3 k
  have ih0 := span_Trim.mono_l k; unfold span_Trim.f
  repeat' first
      | (with_reducible exact ih0 _ _ _ _)
      | (with_reducible exact LeO.refl _)
      | (with_reducible exact LeO.none _)
      | (with_reducible refine LeO.ite ?_ ?_)
      | (with_reducible refine LeO.bind ?_ (fun _ => ?_))
      | exact ih0 _ _ _ _
      | exact LeO.none _
      | refine LeO.ite ?_ ?_
      | refine LeO.bind ?_ (fun _ => ?_)
set_option maxHeartbeats 8000000 in
set_option maxRecDepth 100000 in
theorem span_Trim.calls (k : Nat) (A0_0 : Option Addr) (c0_0 : Nat) (l0_0 : List (S62)) (A0_1 : Option Addr) (c0_1 : Nat) (l0_1 : List Int) (a1 : Int) (a2 : Int) (r : Int) (w : World) (hr0_0 : Kd.C k62 w A0_0 l0_0.length l0_0) (hc0_0 : l0_0.length ≤ c0_0) (hr0_1 : Kd.C (Kd.int .u8) w A0_1 l0_1.length l0_1) (hc0_1 : l0_1.length ≤ c0_1) (h : span_Trim.f k l0_0 l0_1 a1 a2 = some r) :
    Calls Try.prog 38 #[.agg #[.slice A0_0 l0_0.length c0_0, .slice A0_1 l0_1.length c0_1], .int .i64 a1, .int .i64 a2] w fun e w' => e = .returned (.int .i64 r) ∧ Below w.heap.size w w' := by
  have hu31 := Try.underlying31; have hu62 := Try.underlying62; have HR0_0 := zD.mk hr0_0; have HC0_0 := zD.mk hc0_0; clear hr0_0 hc0_0; have HR0_1 := zD.mk hr0_1; have HC0_1 := zD.mk hc0_1; clear hr0_1 hc0_1; have HB := zD.mk (Below.refl w.heap.size w); have H : (span_Trim.l0 k a1 a2 l0_0 l0_1) = some r := h
  clear h; have H' := zD.mk H
  clear H; go_enter Try.func38, Try.ntmps38
  go_wp2_with (first | ((with_reducible refine gate_dst (N := 3) rfl ?_); refine box_event ?hg (N := 3) ?hd (cs := #[.slice A0_0 l0_0.length c0_0, .slice A0_1 l0_1.length c0_1]) (t := 31) ?hr ?_; (case hd => rfl); (case hg => rfl); (case hr => first | (go_simp; done) | (go_simp; rfl)); intro gb112 hg w4 hbox hb; have n0_ := zD.mk (below_step (by repeat (first | (with_reducible first | exact HB.out | apply zJ | apply zF | apply zI) | exact HB.out)) hb); have n1_ := zD.mk (hbox); have n2_ := zD.mk ((by rw [hg]; exact (zM (by repeat (first | (with_reducible first | exact HB.out | apply zJ | apply zF | apply zI) | exact HB.out))) : w.heap.size ≤ gb112)); have n3_ := zD.mk ((by rw [hg]; exact (zM (by repeat (first | (with_reducible first | exact HB.out | apply zJ | apply zF | apply zI) | exact HB.out))) : w.heap.size ≤ gb112)); clear HB; have HB := n0_; have BK112 := n1_; have GW112 := n2_; have GE112 := n3_; clear n0_ n1_ n2_ n3_; clear hb hbox hg))
  go_loopg [2] k (fun kq v2 w' => ∃ (x2_1 : Int), v2 = .int .i64 x2_1 ∧ zD (span_Trim.l0 kq a1 x2_1 l0_0 l0_1 = some r) ∧ zD (kq ≤ k) ∧ zD (w'.heap[gb112]? = some (.cells #[(.slice A0_0 l0_0.length c0_0), (.slice A0_1 l0_1.length c0_1)] 31 (0, 0))) ∧ zD (Below w.heap.size w w'))
  case atStart => exact ⟨(a2), (by first | rfl | (simp; done) | (simp [*]; done)), H', ⟨Nat.le_refl _⟩, ⟨by (with_reducible repeat (first | refine zB ?_ _ | refine zC ?_ | refine zA ?_ _)); exact BK112.out⟩, ⟨by repeat (first | (with_reducible first | exact HB.out | apply zJ | apply zF | apply zI | refine zE ?_ GE112.out) | exact HB.out)⟩⟩
  clear H'; try clear p2
  try clear c3
  obtain ⟨x2_1, rfl, HA, HK1, BK112, HB⟩ := hrel; cases gk with
  | zero => exact absurd HA.out (by simp [span_Trim.l0])
  | succ k1 =>
    have H := HA.out; clear HA; simp only [span_Trim.l0] at H; by_cases c5 : x2_1 > a1
    rotate_left
    · rw [if_neg c5] at H
      have c5b0 : decide (a1 < x2_1) = false := decide_eq_false c5
      clear c5; obtain rfl := Option.some.inj H
      go_wp2
      go_ret
      exact ⟨by first | rfl | (simp [errW_none, errW_some] <;> rfl) | (simp [*, errW_none, errW_some] <;> rfl), by repeat (first | (with_reducible first | exact HB.out | apply zJ | apply zF | apply zI | refine zE ?_ GE112.out) | exact HB.out)⟩
    rw [if_pos c5] at H; have c5b0 : decide (a1 < x2_1) = true := decide_eq_true c5
    clear c5; obtain ⟨ji6, hji6⟩ : ∃ j_ : Int, (wrap64 (x2_1 - 1)) = j_ := ⟨_, rfl⟩; replace H : (if 0 ≤ (ji6) then (if (ji6) < (l0_0.length : Int) then ((span_empty.f ((rd_T62 l0_0 (ji6)).f0) ((rd_T62 l0_0 (ji6)).f1) ((rd_T62 l0_0 (ji6)).f2) ((rd_T62 l0_0 (ji6)).f3)).bind fun t114 => (if t114 = true then (span_Trim.l0 k1 a1 ji6 l0_0 l0_1) else (some x2_1))) else (none)) else (none)) = some r := by first | (rw [hji6] at H; exact H) | (simp only [hji6] at H ⊢; exact H)
    have hji6w : (IntKind.i64.wrap (x2_1 - 1)) = ji6 := (i64_w _).trans hji6
    by_cases c7 : 0 ≤ (ji6)
    rotate_left
    · rw [if_neg c7] at H
      exact absurd H (by simp)
    rw [if_pos c7] at H; have c7b0 : decide (0 ≤ (ji6)) = true := decide_eq_true c7
    clear c7; by_cases c8 : (ji6) < (l0_0.length : Int)
    rotate_left
    · rw [if_neg c8] at H
      exact absurd H (by simp)
    rw [if_pos c8] at H; have c8b0 : decide ((ji6) < (l0_0.length : Int)) = true := decide_eq_true c8
    clear c8; replace H := Option.bind_eq_some_iff.mp H; obtain ⟨t114, A90, H⟩ := H; replace H : (if t114 = true then (span_Trim.l0 k1 a1 ji6 l0_0 l0_1) else (some x2_1)) = some r := H; have A9 := zD.mk A90; clear A90; by_cases c10 : t114 = true
    rotate_left
    · replace c10 := Bool.eq_false_iff.mpr c10
      subst c10; have H1 : (some x2_1) = some r := by rw [if_neg (show ¬ (false = true) by decide)] at H; exact H
      clear H; have H := H1; clear H1; obtain rfl := Option.some.inj H
      have hcz13_0 : wr.cell? ⟨gb112, 0, none⟩ = some (.slice A0_0 l0_0.length c0_0) := (zH BK112.out 0).trans rfl
      have hcz13_1 : wr.cell? ⟨gb112, 1, none⟩ = some (.slice A0_1 l0_1.length c0_1) := (zH BK112.out 1).trans rfl
      have hfz13_0 := zG BK112.out 0; have hfz13_1 := zG BK112.out 1; have p113 : 0 ≤ ((ji6) : Int) := of_decide_eq_true (by first | (with_reducible assumption) | assumption)
      have q113 : (ji6) < (l0_0.length : Int) := of_decide_eq_true (by first | (with_reducible assumption) | assumption)
      obtain ⟨ad113, e113, hx113_0, hx113_1, hx113_2, hx113_3⟩ := at_T62 HR0_0.out (ji6) p113 q113; cases e113
      replace hx113_0 := (HB.out.cell (World.block_lt_of_cell? w _ hx113_0)).trans hx113_0; replace hx113_1 := (HB.out.cell (World.block_lt_of_cell? w _ hx113_1)).trans hx113_1; replace hx113_2 := (HB.out.cell (World.block_lt_of_cell? w _ hx113_2)).trans hx113_2; replace hx113_3 := (HB.out.cell (World.block_lt_of_cell? w _ hx113_3)).trans hx113_3; replace p113 := eq_true p113; replace q113 := eq_true q113; go_wp2_with (first | (go_at_call 47; (with_reducible refine (span_empty.calls ((rd_T62 l0_0 (ji6)).f0) ((rd_T62 l0_0 (ji6)).f1) ((rd_T62 l0_0 (ji6)).f2) ((rd_T62 l0_0 (ji6)).f3) false _ A9.out).mono ?_); rintro e w14 ⟨rfl, hb⟩; have n0_ := zD.mk (zK (g := gb112) (o := .cells #[.slice (some ad113) l0_0.length c0_0, .slice A0_1 l0_1.length c0_1] 31 (0, 0)) (by (with_reducible repeat (first | refine zB ?_ _ | refine zC ?_ | refine zA ?_ _)); exact BK112.out) hb); have n1_ := zD.mk (below_step (by repeat (first | (with_reducible first | exact HB.out | apply zJ | apply zF | apply zI | refine zE ?_ GE112.out) | exact HB.out)) hb); clear BK112; clear HB; have BK112 := n0_; have HB := n1_; clear n0_ n1_; (try clear hb); (try clear hb2); (try clear hk); (try clear hi)))
      go_ret
      exact ⟨by first | rfl | (simp [errW_none, errW_some] <;> rfl) | (simp only [← hji6]; first | rfl | (simp [errW_none, errW_some] <;> rfl)) | (simp [*, errW_none, errW_some] <;> rfl), by repeat (first | (with_reducible first | exact HB.out | apply zJ | apply zF | apply zI | refine zE ?_ GE112.out) | exact HB.out)⟩
    subst c10; have H1 : (span_Trim.l0 k1 a1 ji6 l0_0 l0_1) = some r := by rw [if_pos rfl] at H; exact H
    clear H; have H := H1; clear H1; have H' := zD.mk H
    clear H; have hcz11_0 : wr.cell? ⟨gb112, 0, none⟩ = some (.slice A0_0 l0_0.length c0_0) := (zH BK112.out 0).trans rfl
    have hcz11_1 : wr.cell? ⟨gb112, 1, none⟩ = some (.slice A0_1 l0_1.length c0_1) := (zH BK112.out 1).trans rfl
    have hfz11_0 := zG BK112.out 0; have hfz11_1 := zG BK112.out 1; have p113 : 0 ≤ ((ji6) : Int) := of_decide_eq_true (by first | (with_reducible assumption) | assumption)
    have q113 : (ji6) < (l0_0.length : Int) := of_decide_eq_true (by first | (with_reducible assumption) | assumption)
    obtain ⟨ad113, e113, hx113_0, hx113_1, hx113_2, hx113_3⟩ := at_T62 HR0_0.out (ji6) p113 q113; cases e113
    replace hx113_0 := (HB.out.cell (World.block_lt_of_cell? w _ hx113_0)).trans hx113_0; replace hx113_1 := (HB.out.cell (World.block_lt_of_cell? w _ hx113_1)).trans hx113_1; replace hx113_2 := (HB.out.cell (World.block_lt_of_cell? w _ hx113_2)).trans hx113_2; replace hx113_3 := (HB.out.cell (World.block_lt_of_cell? w _ hx113_3)).trans hx113_3; replace p113 := eq_true p113; replace q113 := eq_true q113; go_wp2_with (first | (go_at_call 47; (with_reducible refine (span_empty.calls ((rd_T62 l0_0 (ji6)).f0) ((rd_T62 l0_0 (ji6)).f1) ((rd_T62 l0_0 (ji6)).f2) ((rd_T62 l0_0 (ji6)).f3) true _ A9.out).mono ?_); rintro e w12 ⟨rfl, hb⟩; have n0_ := zD.mk (zK (g := gb112) (o := .cells #[.slice (some ad113) l0_0.length c0_0, .slice A0_1 l0_1.length c0_1] 31 (0, 0)) (by (with_reducible repeat (first | refine zB ?_ _ | refine zC ?_ | refine zA ?_ _)); exact BK112.out) hb); have n1_ := zD.mk (below_step (by repeat (first | (with_reducible first | exact HB.out | apply zJ | apply zF | apply zI | refine zE ?_ GE112.out) | exact HB.out)) hb); clear BK112; clear HB; have BK112 := n0_; have HB := n1_; clear n0_ n1_; (try clear hb); (try clear hb2); (try clear hk); (try clear hi)))
    go_roundg k1
    case measure => have := HK1.out; omega
    case rel => exact ⟨(ji6), (by first | rfl | (simp; done) | (simp only [← hji6] <;> (first | rfl | simp)) | (simp [*]; done)), H', ⟨by have := HK1.out; omega⟩, ⟨by (with_reducible repeat (first | refine zB ?_ _ | refine zC ?_ | refine zA ?_ _)); exact BK112.out⟩, ⟨by repeat (first | (with_reducible first | exact HB.out | apply zJ | apply zF | apply zI | refine zE ?_ GE112.out) | exact HB.out)⟩⟩
end Go.Proofs.Ytlgclhhkgohanaa.F
end
