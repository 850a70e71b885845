/- Printed by a program: Lean functions that answer as the Go functions do, and the proofs of it. -/
import Derived.Test.YtigajcipjklknaaProg
import Derived.Below
import Derived.Deep.Draws
import Derived.Deep.AppendLies
import Derived.Maps.AppendAt
import Derived.OwnWalk
import Derived.Laws.BytesArg
import Derived.Laws.MakeOwn
import Derived.Laws.OwnMore
import Derived.Deep.OwnRows
import Derived.Tactics
import Derived.Lib.ConvBytes
import Derived.Laws.Slices
import Derived.WalkKit
import Derived.KernelRfl
import Derived.RowKit3
import Derived.Deep.LoopGhost
import Derived.Deep.QuietTactic
import Derived.BigQuiet
import Derived.WideLaws
import Derived.Deep.DeepCutAuto
import Derived.Deep.CutBlock
import Derived.Deep.RegionHeld3
import Derived.Laws.Rows
import Derived.Lib.AppendStr
import Derived.ArgAppend
import Derived.Laws.IdiomCopy
import Derived.OrdersHeld
import Derived.Laws.BitsLemmas
import Derived.RowKit
import Derived.Laws.FloatArith
import Derived.Laws.CopyOwn
import Derived.Deep.RegionLaw
import Derived.Laws.MathBits
import Derived.Test.YtigajcipjklknaaXItemsHyphens0
section
namespace Go.Proofs.Ytigajcipjklknaa.F
open Go.RowKit Go.Proofs.YtigajcipjklknaaW.PrintWords Go.Proofs.YtigajcipjklknaaW.PrintLast Go.Proofs.YtigajcipjklknaaW.PrintMore
attribute [local go_sem] max2_int min2_int max_two min_two max_three min_three max_four min_four   -- for this text's walks alone
set_option linter.unusedVariables false
set_option linter.unusedSimpArgs false
def errW : Option Int → Value
 | none => .nilIface
 | some c => .iface 0 (.int .i64 c)
theorem errW_none : errW none = .nilIface := rfl
theorem errW_some (c : Int) : errW (some c) = .iface 0 (.int .i64 c) := rfl
theorem info3 : (Try.prog.info? 3).map (fun i => (i.zero, i.size, i.bytes)) = some (some (.int .i64 0), 1, 8) := by kernel_rfl
theorem info4 : (Try.prog.info? 4).map (fun i => (i.zero, i.size, i.bytes)) = some (some (.bool false), 1, 1) := by kernel_rfl
theorem info5 : (Try.prog.info? 5).map (fun i => (i.zero, i.size, i.bytes)) = some (some (.int .u8 0), 1, 1) := by kernel_rfl
theorem info9 : (Try.prog.info? 9).map (fun i => (i.zero, i.size, i.bytes)) = some (some (.string ⟨#[]⟩), 1, 16) := by kernel_rfl
theorem info21 : (Try.prog.info? 21).map (fun i => (i.zero, i.size, i.bytes)) = some (some (.int .i32 0), 1, 4) := by kernel_rfl
theorem info48 : (Try.prog.info? 48).map (fun i => (i.zero, i.size, i.bytes)) = some (some (.agg #[(.int .i64 0), (.int .i64 0), (.int .i64 0), (.int .u8 0)]), 4, 32) := by kernel_rfl
theorem info50 : (Try.prog.info? 50).map (fun i => (i.zero, i.size, i.bytes)) = some (some (.agg #[(.int .i32 0), (.int .i64 0), (.int .i64 0)]), 3, 24) := by kernel_rfl
theorem info53 : (Try.prog.info? 53).map (fun i => (i.zero, i.size, i.bytes)) = some (some (.int .u8 0), 1, 1) := by kernel_rfl
structure S45 where
 f0 : Int
 f1 : Int
 f2 : Int
def z45 : S45 := ⟨(0 : Int), (0 : Int), (0 : Int)⟩
def k45 : Kd S45 := Kd.iso (Kd.pair (Kd.int .i32) (Kd.pair (Kd.int .i32) (Kd.int .i64))) (fun x : S45 => (x.f0, x.f1, x.f2))
theorem k45_open {w : World} {x : S45} {cs : List Value} (h : k45.K w x cs) : cs = [.int .i32 x.f0, .int .i32 x.f1, .int .i64 x.f2] := by
 obtain ⟨_, _, rfl, rfl, ⟨_, _, rfl, rfl, rfl⟩⟩ := h; exact rfl
theorem k45_openM {w : World} {base : Nat} {ok : Nat → Prop} {x : S45} {cs : List Value} (h : k45.M w base ok x cs) : cs = [.int .i32 x.f0, .int .i32 x.f1, .int .i64 x.f2] := by
 obtain ⟨_, _, rfl, rfl, ⟨_, _, rfl, rfl, rfl⟩⟩ := h; exact rfl
theorem k45_mk (w : World) (x : S45)  : k45.K w x [.int .i32 x.f0, .int .i32 x.f1, .int .i64 x.f2] := ⟨[.int .i32 x.f0], [.int .i32 x.f1, .int .i64 x.f2], rfl, rfl, ⟨[.int .i32 x.f1], [.int .i64 x.f2], rfl, rfl, rfl⟩⟩
theorem k45_mkM (w : World) (base : Nat) (ok : Nat → Prop) (x : S45)  : k45.M w base ok x [.int .i32 x.f0, .int .i32 x.f1, .int .i64 x.f2] := ⟨[.int .i32 x.f0], [.int .i32 x.f1, .int .i64 x.f2], rfl, rfl, ⟨[.int .i32 x.f1], [.int .i64 x.f2], rfl, rfl, rfl⟩⟩
def rd_T45 (xs : List S45) (i : Int) : S45 := xs.getD i.toNat z45
theorem at_T45 {w : World} {A : Option Addr} {n : Nat} {xs : List S45} (h : Kd.C k45 w A n xs) (i : Int) (h0 : 0 ≤ i) (h1 : i < n) : ∃ ad , A = some ad ∧ w.cell? (ad.add (i.toNat * 3)) = some (.int .i32 (rd_T45 xs i).f0) ∧ w.cell? ⟨(ad.add (i.toNat * 3)).block, (ad.add (i.toNat * 3)).off + 1, none⟩ = some (.int .i32 (rd_T45 xs i).f1) ∧ w.cell? ⟨(ad.add (i.toNat * 3)).block, (ad.add (i.toNat * 3)).off + 2, none⟩ = some (.int .i64 (rd_T45 xs i).f2) := by
 obtain ⟨ad, c, e, _, hK, hc0⟩ := Kd.C_get h z45 i h0 h1; have hc : ∀ j u, c[j]? = some u → w.cell? (ad.add (i.toNat * 3 + j)) = some u := hc0
 obtain rfl := k45_open hK
 exact ⟨ad, e, hc 0 _ rfl, by rw [← add_field _ _ 1 (by omega)]; exact hc 1 _ rfl, by rw [← add_field _ _ 2 (by omega)]; exact hc 2 _ rfl⟩
def rd_L3 (xs : List (List S45)) (i : Int) : (List S45) := xs.getD i.toNat ([] : List S45)
theorem at_L3 {w : World} {A : Option Addr} {n : Nat} {xs : List (List S45)} (h : Kd.C (Kd.slice 45 k45) w A n xs) (i : Int) (h0 : 0 ≤ i) (h1 : i < n) : ∃ ad A0 c0, A = some ad ∧ w.cell? (ad.add i.toNat) = some (.slice A0 (rd_L3 xs i).length c0) ∧ (rd_L3 xs i).length ≤ c0 ∧ k45.C w A0 (rd_L3 xs i).length (rd_L3 xs i) := by
 obtain ⟨ad, c, e, _, hK, hc0⟩ := Kd.C_get h ([] : List S45) i h0 h1; have hc : ∀ j u, c[j]? = some u → w.cell? (ad.add (i.toNat * 1 + j)) = some u := hc0
 obtain ⟨A0, c0, rfl, l0, g0⟩ := hK; exact ⟨ad, A0, c0, e, by have hq := hc 0 _ rfl; rwa [Nat.mul_one, Nat.add_zero] at hq, l0, g0⟩
structure S50 where
 f0 : Int
 f1 : Int
 f2 : Int
def z50 : S50 := ⟨(0 : Int), (0 : Int), (0 : Int)⟩
def k50 : Kd S50 := Kd.iso (Kd.pair (Kd.int .i32) (Kd.pair (Kd.int .i64) (Kd.int .i64))) (fun x : S50 => (x.f0, x.f1, x.f2))
theorem k50_open {w : World} {x : S50} {cs : List Value} (h : k50.K w x cs) : cs = [.int .i32 x.f0, .int .i64 x.f1, .int .i64 x.f2] := by
 obtain ⟨_, _, rfl, rfl, ⟨_, _, rfl, rfl, rfl⟩⟩ := h; exact rfl
theorem k50_openM {w : World} {base : Nat} {ok : Nat → Prop} {x : S50} {cs : List Value} (h : k50.M w base ok x cs) : cs = [.int .i32 x.f0, .int .i64 x.f1, .int .i64 x.f2] := by
 obtain ⟨_, _, rfl, rfl, ⟨_, _, rfl, rfl, rfl⟩⟩ := h; exact rfl
theorem k50_mk (w : World) (x : S50)  : k50.K w x [.int .i32 x.f0, .int .i64 x.f1, .int .i64 x.f2] := ⟨[.int .i32 x.f0], [.int .i64 x.f1, .int .i64 x.f2], rfl, rfl, ⟨[.int .i64 x.f1], [.int .i64 x.f2], rfl, rfl, rfl⟩⟩
theorem k50_mkM (w : World) (base : Nat) (ok : Nat → Prop) (x : S50)  : k50.M w base ok x [.int .i32 x.f0, .int .i64 x.f1, .int .i64 x.f2] := ⟨[.int .i32 x.f0], [.int .i64 x.f1, .int .i64 x.f2], rfl, rfl, ⟨[.int .i64 x.f1], [.int .i64 x.f2], rfl, rfl, rfl⟩⟩
def rd_T50 (xs : List S50) (i : Int) : S50 := xs.getD i.toNat z50
theorem at_T50 {w : World} {A : Option Addr} {n : Nat} {xs : List S50} (h : Kd.C k50 w A n xs) (i : Int) (h0 : 0 ≤ i) (h1 : i < n) : ∃ ad , A = some ad ∧ w.cell? (ad.add (i.toNat * 3)) = some (.int .i32 (rd_T50 xs i).f0) ∧ w.cell? ⟨(ad.add (i.toNat * 3)).block, (ad.add (i.toNat * 3)).off + 1, none⟩ = some (.int .i64 (rd_T50 xs i).f1) ∧ w.cell? ⟨(ad.add (i.toNat * 3)).block, (ad.add (i.toNat * 3)).off + 2, none⟩ = some (.int .i64 (rd_T50 xs i).f2) := by
 obtain ⟨ad, c, e, _, hK, hc0⟩ := Kd.C_get h z50 i h0 h1; have hc : ∀ j u, c[j]? = some u → w.cell? (ad.add (i.toNat * 3 + j)) = some u := hc0
 obtain rfl := k50_open hK
 exact ⟨ad, e, hc 0 _ rfl, by rw [← add_field _ _ 1 (by omega)]; exact hc 1 _ rfl, by rw [← add_field _ _ 2 (by omega)]; exact hc 2 _ rfl⟩
structure S48 where
 f0 : Int
 f1 : Int
 f2 : Int
 f3 : Int
def z48 : S48 := ⟨(0 : Int), (0 : Int), (0 : Int), (0 : Int)⟩
def k48 : Kd S48 := Kd.iso (Kd.pair (Kd.int .i64) (Kd.pair (Kd.int .i64) (Kd.pair (Kd.int .i64) (Kd.int .u8)))) (fun x : S48 => (x.f0, x.f1, x.f2, x.f3))
theorem k48_open {w : World} {x : S48} {cs : List Value} (h : k48.K w x cs) : cs = [.int .i64 x.f0, .int .i64 x.f1, .int .i64 x.f2, .int .u8 x.f3] := by
 obtain ⟨_, _, rfl, rfl, ⟨_, _, rfl, rfl, ⟨_, _, rfl, rfl, rfl⟩⟩⟩ := h; exact rfl
theorem k48_openM {w : World} {base : Nat} {ok : Nat → Prop} {x : S48} {cs : List Value} (h : k48.M w base ok x cs) : cs = [.int .i64 x.f0, .int .i64 x.f1, .int .i64 x.f2, .int .u8 x.f3] := by
 obtain ⟨_, _, rfl, rfl, ⟨_, _, rfl, rfl, ⟨_, _, rfl, rfl, rfl⟩⟩⟩ := h; exact rfl
theorem k48_mk (w : World) (x : S48)  : k48.K w x [.int .i64 x.f0, .int .i64 x.f1, .int .i64 x.f2, .int .u8 x.f3] := ⟨[.int .i64 x.f0], [.int .i64 x.f1, .int .i64 x.f2, .int .u8 x.f3], rfl, rfl, ⟨[.int .i64 x.f1], [.int .i64 x.f2, .int .u8 x.f3], rfl, rfl, ⟨[.int .i64 x.f2], [.int .u8 x.f3], rfl, rfl, rfl⟩⟩⟩
theorem k48_mkM (w : World) (base : Nat) (ok : Nat → Prop) (x : S48)  : k48.M w base ok x [.int .i64 x.f0, .int .i64 x.f1, .int .i64 x.f2, .int .u8 x.f3] := ⟨[.int .i64 x.f0], [.int .i64 x.f1, .int .i64 x.f2, .int .u8 x.f3], rfl, rfl, ⟨[.int .i64 x.f1], [.int .i64 x.f2, .int .u8 x.f3], rfl, rfl, ⟨[.int .i64 x.f2], [.int .u8 x.f3], rfl, rfl, rfl⟩⟩⟩
def rd_T48 (xs : List S48) (i : Int) : S48 := xs.getD i.toNat z48
theorem at_T48 {w : World} {A : Option Addr} {n : Nat} {xs : List S48} (h : Kd.C k48 w A n xs) (i : Int) (h0 : 0 ≤ i) (h1 : i < n) : ∃ ad , A = some ad ∧ w.cell? (ad.add (i.toNat * 4)) = some (.int .i64 (rd_T48 xs i).f0) ∧ w.cell? ⟨(ad.add (i.toNat * 4)).block, (ad.add (i.toNat * 4)).off + 1, none⟩ = some (.int .i64 (rd_T48 xs i).f1) ∧ w.cell? ⟨(ad.add (i.toNat * 4)).block, (ad.add (i.toNat * 4)).off + 2, none⟩ = some (.int .i64 (rd_T48 xs i).f2) ∧ w.cell? ⟨(ad.add (i.toNat * 4)).block, (ad.add (i.toNat * 4)).off + 3, none⟩ = some (.int .u8 (rd_T48 xs i).f3) := by
 obtain ⟨ad, c, e, _, hK, hc0⟩ := Kd.C_get h z48 i h0 h1; have hc : ∀ j u, c[j]? = some u → w.cell? (ad.add (i.toNat * 4 + j)) = some u := hc0
 obtain rfl := k48_open hK
 exact ⟨ad, e, hc 0 _ rfl, by rw [← add_field _ _ 1 (by omega)]; exact hc 1 _ rfl, by rw [← add_field _ _ 2 (by omega)]; exact hc 2 _ rfl, by rw [← add_field _ _ 3 (by omega)]; exact hc 3 _ rfl⟩
def rd_L9 (xs : List (List Int)) (i : Int) : (List Int) := xs.getD i.toNat ([] : List Int)
theorem at_L9 {w : World} {A : Option Addr} {n : Nat} {xs : List (List Int)} (h : Kd.C (Kd.slice 5 (Kd.int .u8)) w A n xs) (i : Int) (h0 : 0 ≤ i) (h1 : i < n) : ∃ ad A0 c0, A = some ad ∧ w.cell? (ad.add i.toNat) = some (.slice A0 (rd_L9 xs i).length c0) ∧ (rd_L9 xs i).length ≤ c0 ∧ (Kd.int .u8).C w A0 (rd_L9 xs i).length (rd_L9 xs i) := by
 obtain ⟨ad, c, e, _, hK, hc0⟩ := Kd.C_get h ([] : List Int) i h0 h1; have hc : ∀ j u, c[j]? = some u → w.cell? (ad.add (i.toNat * 1 + j)) = some u := hc0
 obtain ⟨A0, c0, rfl, l0, g0⟩ := hK; exact ⟨ad, A0, c0, e, by have hq := hc 0 _ rfl; rwa [Nat.mul_one, Nat.add_zero] at hq, l0, g0⟩
def rd_L10 (xs : List (List Bool)) (i : Int) : (List Bool) := xs.getD i.toNat ([] : List Bool)
theorem at_L10 {w : World} {A : Option Addr} {n : Nat} {xs : List (List Bool)} (h : Kd.C (Kd.slice 4 Kd.bool) w A n xs) (i : Int) (h0 : 0 ≤ i) (h1 : i < n) : ∃ ad A0 c0, A = some ad ∧ w.cell? (ad.add i.toNat) = some (.slice A0 (rd_L10 xs i).length c0) ∧ (rd_L10 xs i).length ≤ c0 ∧ Kd.bool.C w A0 (rd_L10 xs i).length (rd_L10 xs i) := by
 obtain ⟨ad, c, e, _, hK, hc0⟩ := Kd.C_get h ([] : List Bool) i h0 h1; have hc : ∀ j u, c[j]? = some u → w.cell? (ad.add (i.toNat * 1 + j)) = some u := hc0
 obtain ⟨A0, c0, rfl, l0, g0⟩ := hK; exact ⟨ad, A0, c0, e, by have hq := hc 0 _ rfl; rwa [Nat.mul_one, Nat.add_zero] at hq, l0, g0⟩
structure S58 where
 f0 : (List Int)
 f1 : (List Int)
 f2 : (List Int)
 f3 : (List Bool)
 f4 : (List S45)
def z58 : S58 := ⟨([] : List Int), ([] : List Int), ([] : List Int), ([] : List Bool), ([] : List S45)⟩
def k58 : Kd S58 := Kd.iso (Kd.pair (Kd.slice 5 (Kd.int .u8)) (Kd.pair (Kd.slice 5 (Kd.int .u8)) (Kd.pair (Kd.slice 5 (Kd.int .u8)) (Kd.pair (Kd.slice 4 Kd.bool) (Kd.slice 45 k45))))) (fun x : S58 => (x.f0, x.f1, x.f2, x.f3, x.f4))
theorem k58_open {w : World} {x : S58} {cs : List Value} (h : k58.K w x cs) : ∃ A0 c0 A1 c1 A2 c2 A3 c3 A4 c4, cs = [.slice A0 x.f0.length c0, .slice A1 x.f1.length c1, .slice A2 x.f2.length c2, .slice A3 x.f3.length c3, .slice A4 x.f4.length c4] ∧ x.f0.length ≤ c0 ∧ (Kd.int .u8).C w A0 x.f0.length x.f0 ∧ x.f1.length ≤ c1 ∧ (Kd.int .u8).C w A1 x.f1.length x.f1 ∧ x.f2.length ≤ c2 ∧ (Kd.int .u8).C w A2 x.f2.length x.f2 ∧ x.f3.length ≤ c3 ∧ Kd.bool.C w A3 x.f3.length x.f3 ∧ x.f4.length ≤ c4 ∧ k45.C w A4 x.f4.length x.f4 := by
 obtain ⟨_, _, rfl, ⟨A0, c0, rfl, l0, g0⟩, ⟨_, _, rfl, ⟨A1, c1, rfl, l1, g1⟩, ⟨_, _, rfl, ⟨A2, c2, rfl, l2, g2⟩, ⟨_, _, rfl, ⟨A3, c3, rfl, l3, g3⟩, ⟨A4, c4, rfl, l4, g4⟩⟩⟩⟩⟩ := h; exact ⟨A0, c0, A1, c1, A2, c2, A3, c3, A4, c4, rfl, l0, g0, l1, g1, l2, g2, l3, g3, l4, g4⟩
theorem k58_openM {w : World} {base : Nat} {ok : Nat → Prop} {x : S58} {cs : List Value} (h : k58.M w base ok x cs) : ∃ v0 v1 v2 v3 v4, cs = [v0, v1, v2, v3, v4] ∧ (Kd.int .u8).R 5 w base ok v0 x.f0 ∧ (Kd.int .u8).R 5 w base ok v1 x.f1 ∧ (Kd.int .u8).R 5 w base ok v2 x.f2 ∧ Kd.bool.R 4 w base ok v3 x.f3 ∧ k45.R 45 w base ok v4 x.f4 := by
 obtain ⟨_, _, rfl, ⟨v0, rfl, g0⟩, ⟨_, _, rfl, ⟨v1, rfl, g1⟩, ⟨_, _, rfl, ⟨v2, rfl, g2⟩, ⟨_, _, rfl, ⟨v3, rfl, g3⟩, ⟨v4, rfl, g4⟩⟩⟩⟩⟩ := h; exact ⟨v0, v1, v2, v3, v4, rfl, g0, g1, g2, g3, g4⟩
theorem k58_mk (w : World) (x : S58) {A0 : Option Addr} {c0 : Nat} (l0 : x.f0.length ≤ c0) (g0 : (Kd.int .u8).C w A0 x.f0.length x.f0) {A1 : Option Addr} {c1 : Nat} (l1 : x.f1.length ≤ c1) (g1 : (Kd.int .u8).C w A1 x.f1.length x.f1) {A2 : Option Addr} {c2 : Nat} (l2 : x.f2.length ≤ c2) (g2 : (Kd.int .u8).C w A2 x.f2.length x.f2) {A3 : Option Addr} {c3 : Nat} (l3 : x.f3.length ≤ c3) (g3 : Kd.bool.C w A3 x.f3.length x.f3) {A4 : Option Addr} {c4 : Nat} (l4 : x.f4.length ≤ c4) (g4 : k45.C w A4 x.f4.length x.f4) : k58.K w x [.slice A0 x.f0.length c0, .slice A1 x.f1.length c1, .slice A2 x.f2.length c2, .slice A3 x.f3.length c3, .slice A4 x.f4.length c4] := ⟨[.slice A0 x.f0.length c0], [.slice A1 x.f1.length c1, .slice A2 x.f2.length c2, .slice A3 x.f3.length c3, .slice A4 x.f4.length c4], rfl, ⟨A0, c0, rfl, l0, g0⟩, ⟨[.slice A1 x.f1.length c1], [.slice A2 x.f2.length c2, .slice A3 x.f3.length c3, .slice A4 x.f4.length c4], rfl, ⟨A1, c1, rfl, l1, g1⟩, ⟨[.slice A2 x.f2.length c2], [.slice A3 x.f3.length c3, .slice A4 x.f4.length c4], rfl, ⟨A2, c2, rfl, l2, g2⟩, ⟨[.slice A3 x.f3.length c3], [.slice A4 x.f4.length c4], rfl, ⟨A3, c3, rfl, l3, g3⟩, ⟨A4, c4, rfl, l4, g4⟩⟩⟩⟩⟩
theorem k58_mkM (w : World) (base : Nat) (ok : Nat → Prop) (x : S58) {v0 : Value} (g0 : (Kd.int .u8).R 5 w base ok v0 x.f0) {v1 : Value} (g1 : (Kd.int .u8).R 5 w base ok v1 x.f1) {v2 : Value} (g2 : (Kd.int .u8).R 5 w base ok v2 x.f2) {v3 : Value} (g3 : Kd.bool.R 4 w base ok v3 x.f3) {v4 : Value} (g4 : k45.R 45 w base ok v4 x.f4) : k58.M w base ok x [v0, v1, v2, v3, v4] := ⟨[v0], [v1, v2, v3, v4], rfl, ⟨v0, rfl, g0⟩, ⟨[v1], [v2, v3, v4], rfl, ⟨v1, rfl, g1⟩, ⟨[v2], [v3, v4], rfl, ⟨v2, rfl, g2⟩, ⟨[v3], [v4], rfl, ⟨v3, rfl, g3⟩, ⟨v4, rfl, g4⟩⟩⟩⟩⟩
def rd_T58 (xs : List S58) (i : Int) : S58 := xs.getD i.toNat z58
theorem at_T58 {w : World} {A : Option Addr} {n : Nat} {xs : List S58} (h : Kd.C k58 w A n xs) (i : Int) (h0 : 0 ≤ i) (h1 : i < n) : ∃ ad A0 c0 A1 c1 A2 c2 A3 c3 A4 c4, A = some ad ∧ w.cell? (ad.add (i.toNat * 5)) = some (.slice A0 (rd_T58 xs i).f0.length c0) ∧ w.cell? ⟨(ad.add (i.toNat * 5)).block, (ad.add (i.toNat * 5)).off + 1, none⟩ = some (.slice A1 (rd_T58 xs i).f1.length c1) ∧ w.cell? ⟨(ad.add (i.toNat * 5)).block, (ad.add (i.toNat * 5)).off + 2, none⟩ = some (.slice A2 (rd_T58 xs i).f2.length c2) ∧ w.cell? ⟨(ad.add (i.toNat * 5)).block, (ad.add (i.toNat * 5)).off + 3, none⟩ = some (.slice A3 (rd_T58 xs i).f3.length c3) ∧ w.cell? ⟨(ad.add (i.toNat * 5)).block, (ad.add (i.toNat * 5)).off + 4, none⟩ = some (.slice A4 (rd_T58 xs i).f4.length c4) ∧ (rd_T58 xs i).f0.length ≤ c0 ∧ (Kd.int .u8).C w A0 (rd_T58 xs i).f0.length (rd_T58 xs i).f0 ∧ (rd_T58 xs i).f1.length ≤ c1 ∧ (Kd.int .u8).C w A1 (rd_T58 xs i).f1.length (rd_T58 xs i).f1 ∧ (rd_T58 xs i).f2.length ≤ c2 ∧ (Kd.int .u8).C w A2 (rd_T58 xs i).f2.length (rd_T58 xs i).f2 ∧ (rd_T58 xs i).f3.length ≤ c3 ∧ Kd.bool.C w A3 (rd_T58 xs i).f3.length (rd_T58 xs i).f3 ∧ (rd_T58 xs i).f4.length ≤ c4 ∧ k45.C w A4 (rd_T58 xs i).f4.length (rd_T58 xs i).f4 := by
 obtain ⟨ad, c, e, _, hK, hc0⟩ := Kd.C_get h z58 i h0 h1; have hc : ∀ j u, c[j]? = some u → w.cell? (ad.add (i.toNat * 5 + j)) = some u := hc0
 obtain ⟨A0, c0, A1, c1, A2, c2, A3, c3, A4, c4, rfl, l0, g0, l1, g1, l2, g2, l3, g3, l4, g4⟩ := k58_open hK; exact ⟨ad, A0, c0, A1, c1, A2, c2, A3, c3, A4, c4, e, hc 0 _ rfl, by rw [← add_field _ _ 1 (by omega)]; exact hc 1 _ rfl, by rw [← add_field _ _ 2 (by omega)]; exact hc 2 _ rfl, by rw [← add_field _ _ 3 (by omega)]; exact hc 3 _ rfl, by rw [← add_field _ _ 4 (by omega)]; exact hc 4 _ rfl, l0, g0, l1, g1, l2, g2, l3, g3, l4, g4⟩
def prop_Check.l0 : Nat → Int → Int → List (S45) → Int → Int → Option (Bool)
 | 0, _, _, _, _, _ => none
 | k + 1, x1, x5, x11, x12, x13 => if x13 < x12 then (if 0 ≤ x13 then (if x13 < (x11.length : Int) then (if ((rd_T45 x11 x13).f0) ≤ x5 then (some false) else (if ((rd_T45 x11 x13).f1) < ((rd_T45 x11 x13).f0) then (some false) else (if ((rd_T45 x11 x13).f1) > 1114111 then (some false) else (if ((rd_T45 x11 x13).f2) < 0 then (some false) else (if ((rd_T45 x11 x13).f2) ≥ x1 then (some false) else (if ((rd_T45 x11 x13).f2) > 255 then (some false) else (prop_Check.l0 k x1 ((rd_T45 x11 x13).f1) x11 x12 (wrap64 (x13 + 1))))))))) else (none)) else (none)) else (some true)
def prop_Check.f (k : Nat) (l0 : List (S45)) (a1 : Int) : Option (Bool) := if (l0.length : Int) > 256 then (some false) else (prop_Check.l0 k a1 (-1) l0 (l0.length : Int) 0)
theorem prop_Check.mono_l : ∀ k, (∀ y0 y1 y2 y3 y4, LeO (prop_Check.l0 k y0 y1 y2 y3 y4) (prop_Check.l0 (k + 1) y0 y1 y2 y3 y4))
 | 0 => fun _ _ _ _ _ r h => by simp [prop_Check.l0] at h
 | k + 1 => by
  have ih0 := prop_Check.mono_l k
  ·intro y0 y1 y2 y3 y4
   unfold prop_Check.l0
   repeat' (with_reducible first | exact ih0 _ _ _ _ _ | exact LeO.refl _ | exact LeO.none _ | refine LeO.ite ?_ ?_ | refine LeO.bind ?_ (fun _ => ?_))
theorem prop_Check.mono : ∀ a0 a1 k, LeO (prop_Check.f k a0 a1) (prop_Check.f (k + 1) a0 a1) := by
 intro a0 a1 k
 have ih0 := prop_Check.mono_l k; unfold prop_Check.f
 repeat' (with_reducible first | exact ih0 _ _ _ _ _ | exact LeO.refl _ | exact LeO.none _ | refine LeO.ite ?_ ?_ | refine LeO.bind ?_ (fun _ => ?_))
set_option maxHeartbeats 8000000 in
set_option maxRecDepth 100000 in
theorem prop_Check.calls (k : Nat) (A0 : Option Addr) (c0 : Nat) (l0 : List (S45)) (a1 : Int) (r : Bool) (w : World) (hr0 : Kd.C k45 w A0 l0.length l0) (hc0 : l0.length ≤ c0) (h : prop_Check.f k l0 a1 = some r) :
  Calls Try.prog 33 #[.slice A0 l0.length c0, .int .i64 a1] w fun e w' => e = .returned (.bool r) ∧ Below w.heap.size w w' := by
 have hu45 := Try.underlying45; have HR0 := zA.mk hr0; have HC0 := zA.mk hc0; clear hr0 hc0; have HB := zA.mk (Below.refl w.heap.size w); have H : (if (l0.length : Int) > 256 then (some false) else (prop_Check.l0 k a1 (-1) l0 (l0.length : Int) 0)) = some r := h
 clear h; by_cases c3 : (l0.length : Int) > 256
 ·rw [if_pos c3] at H
  have c3b0 : decide (256 < (l0.length : Int)) = true := decide_eq_true c3
  have c3b1 : decide (256 < l0.length) = true := decide_eq_true (by omega)
  clear c3; obtain rfl := Option.some.inj H
  go_enter Try.func33, Try.ntmps33
  go_wp2
  go_ret
  exact ⟨aX, aL HB⟩
 rw [if_neg c3] at H; have c3b0 : decide (256 < (l0.length : Int)) = false := decide_eq_false c3
 have c3b1 : decide (256 < l0.length) = false := decide_eq_false (by omega)
 clear c3; have H' := zA.mk H
 clear H; go_enter Try.func33, Try.ntmps33
 go_wp2
 go_loopg [5, 13] k (fun kq v5 v13 w' => ∃ (x5_1 : Int) (x13_1 : Int), v5 = .int .i32 x5_1 ∧ v13 = .int .i64 x13_1 ∧ zA (prop_Check.l0 kq a1 x5_1 l0 (l0.length : Int) x13_1 = some r) ∧ zA (kq ≤ k) ∧ zA (Below w.heap.size w w'))
 case atStart => exact ⟨((-1)), (0), aZ, aZ, H', ⟨Nat.le_refl _⟩, ⟨aL HB⟩⟩
 clear H'; obtain ⟨x5_1, x13_1, rfl, rfl, HA, HK1, HB⟩ := hrel; cases gk with
 | zero => exact absurd HA.out (by simp [prop_Check.l0])
 | succ k1 =>
  have H := HA.out; clear HA; simp only [prop_Check.l0] at H; by_cases c4 : x13_1 < (l0.length : Int)
  rotate_left
  ·rw [if_neg c4] at H
   have c4b0 : decide (x13_1 < (l0.length : Int)) = false := decide_eq_false c4
   clear c4; obtain rfl := Option.some.inj H
   go_wp2
   go_ret
   exact ⟨aX, aL HB⟩
  rw [if_pos c4] at H; have c4b0 : decide (x13_1 < (l0.length : Int)) = true := decide_eq_true c4
  clear c4; by_cases c5 : 0 ≤ x13_1
  rotate_left
  ·rw [if_neg c5] at H
   exact absurd H (by simp)
  rw [if_pos c5] at H; have c5b0 : decide (0 ≤ x13_1) = true := decide_eq_true c5
  clear c5; by_cases c6 : x13_1 < (l0.length : Int)
  rotate_left
  ·rw [if_neg c6] at H
   exact absurd H (by simp)
  rw [if_pos c6] at H; have c6b0 : decide (x13_1 < (l0.length : Int)) = true := decide_eq_true c6
  clear c6; by_cases c7 : ((rd_T45 l0 x13_1).f0) ≤ x5_1
  ·rw [if_pos c7] at H
   have c7b0 : decide (((rd_T45 l0 x13_1).f0) ≤ x5_1) = true := decide_eq_true c7
   clear c7; obtain rfl := Option.some.inj H
   have p101 : 0 ≤ (x13_1 : Int) := aD
   have q101 : x13_1 < (l0.length : Int) := aD
   obtain ⟨ad101, e101, hx101_0, hx101_1, hx101_2⟩ := at_T45 HR0.out x13_1 p101 q101; cases e101
   replace hx101_0 := (HB.out.cell (World.block_lt_of_cell? w _ hx101_0)).trans hx101_0; replace hx101_1 := (HB.out.cell (World.block_lt_of_cell? w _ hx101_1)).trans hx101_1; replace hx101_2 := (HB.out.cell (World.block_lt_of_cell? w _ hx101_2)).trans hx101_2; replace p101 := eq_true p101; replace q101 := eq_true q101; go_wp2_with (first | ((with_reducible refine gate_dst (N := 7) rfl ?_); refine box_event ?hg (N := 7) ?hd (cs := #[.int .i32 0, .int .i32 0, .int .i64 0]) (t := 45) ?hr ?_; (case hd => rfl); (case hg => rfl); (case hr => first | (go_simp; done) | (go_simp; rfl)); intro gb102 hg w8 hbox hb; have BK102 := zA.mk (hbox); have GW102 := zA.mk ((by rw [hg]; exact (below_size (aL HB)) : w.heap.size ≤ gb102)); replace HB := zA.mk (below_step (aL HB) hb); have GE102 := GW102; clear hb hbox hg; obtain ⟨hcz9_0, hcz9_1, hcz9_2, hfz9_0, hfz9_1, hfz9_2⟩ := aC3 BK102) | ((with_reducible refine gate_store (t := 45) (p := 7) rfl ?_); refine store_event (t := 45) (p := 7) (v := ?vo_w10) (w1 := (((w8.setCell ⟨gb102, 0, none⟩ (.int .i32 ((rd_T45 l0 x13_1).f0))).setCell ⟨gb102, 1, none⟩ (.int .i32 ((rd_T45 l0 x13_1).f1))).setCell ⟨gb102, 2, none⟩ (.int .i64 ((rd_T45 l0 x13_1).f2)))) ?hg ?ho ?hn ?hr ?_; (case ho => rfl); (case hg => rfl); (case hn => rfl); (case hr => first | (go_simp; done) | (go_simp; rfl)); intro w10 hw; have n0_ : zA (w10.heap[gb102]? = some (.cells #[.int .i32 ((rd_T45 l0 x13_1).f0), .int .i32 ((rd_T45 l0 x13_1).f1), .int .i64 ((rd_T45 l0 x13_1).f2)] 45 (0, 0))) := ⟨(by rw [hw]; exact (by (with_reducible repeat (first | refine zE ?_ _ | refine zD ?_ | refine zB ?_ _)); refine blk_put (cs := #[.int .i32 ((rd_T45 l0 x13_1).f0), .int .i32 ((rd_T45 l0 x13_1).f1), .int .i64 0]) ?_ 2 _ rfl; (with_reducible repeat (first | refine zE ?_ _ | refine zD ?_ | refine zB ?_ _)); refine blk_put (cs := #[.int .i32 ((rd_T45 l0 x13_1).f0), .int .i32 0, .int .i64 0]) ?_ 1 _ rfl; (with_reducible repeat (first | refine zE ?_ _ | refine zD ?_ | refine zB ?_ _)); refine blk_put (cs := #[.int .i32 0, .int .i32 0, .int .i64 0]) ?_ 0 _ rfl; (with_reducible repeat (first | refine zE ?_ _ | refine zD ?_ | refine zB ?_ _)); exact BK102.out))⟩; have n1_ : zA (Below w.heap.size w w10) := ⟨(by rw [hw]; exact (aL HB))⟩; clear hw; clear BK102; clear HB; have BK102 := n0_; have HB := n1_; clear n0_ n1_; obtain ⟨hcz11_0, hcz11_1, hcz11_2, hfz11_0, hfz11_1, hfz11_2⟩ := aC3 BK102))
   go_ret
   exact ⟨aX, aL HB⟩
  rw [if_neg c7] at H; have c7b0 : decide (((rd_T45 l0 x13_1).f0) ≤ x5_1) = false := decide_eq_false c7
  clear c7; by_cases c12 : ((rd_T45 l0 x13_1).f1) < ((rd_T45 l0 x13_1).f0)
  ·rw [if_pos c12] at H
   have c12b0 : decide (((rd_T45 l0 x13_1).f1) < ((rd_T45 l0 x13_1).f0)) = true := decide_eq_true c12
   clear c12; obtain rfl := Option.some.inj H
   have p101 : 0 ≤ (x13_1 : Int) := aD
   have q101 : x13_1 < (l0.length : Int) := aD
   obtain ⟨ad101, e101, hx101_0, hx101_1, hx101_2⟩ := at_T45 HR0.out x13_1 p101 q101; cases e101
   replace hx101_0 := (HB.out.cell (World.block_lt_of_cell? w _ hx101_0)).trans hx101_0; replace hx101_1 := (HB.out.cell (World.block_lt_of_cell? w _ hx101_1)).trans hx101_1; replace hx101_2 := (HB.out.cell (World.block_lt_of_cell? w _ hx101_2)).trans hx101_2; replace p101 := eq_true p101; replace q101 := eq_true q101; go_wp2_with (first | ((with_reducible refine gate_dst (N := 7) rfl ?_); refine box_event ?hg (N := 7) ?hd (cs := #[.int .i32 0, .int .i32 0, .int .i64 0]) (t := 45) ?hr ?_; (case hd => rfl); (case hg => rfl); (case hr => first | (go_simp; done) | (go_simp; rfl)); intro gb102 hg w13 hbox hb; have BK102 := zA.mk (hbox); have GW102 := zA.mk ((by rw [hg]; exact (below_size (aL HB)) : w.heap.size ≤ gb102)); replace HB := zA.mk (below_step (aL HB) hb); have GE102 := GW102; clear hb hbox hg; obtain ⟨hcz14_0, hcz14_1, hcz14_2, hfz14_0, hfz14_1, hfz14_2⟩ := aC3 BK102) | ((with_reducible refine gate_store (t := 45) (p := 7) rfl ?_); refine store_event (t := 45) (p := 7) (v := ?vo_w15) (w1 := (((w13.setCell ⟨gb102, 0, none⟩ (.int .i32 ((rd_T45 l0 x13_1).f0))).setCell ⟨gb102, 1, none⟩ (.int .i32 ((rd_T45 l0 x13_1).f1))).setCell ⟨gb102, 2, none⟩ (.int .i64 ((rd_T45 l0 x13_1).f2)))) ?hg ?ho ?hn ?hr ?_; (case ho => rfl); (case hg => rfl); (case hn => rfl); (case hr => first | (go_simp; done) | (go_simp; rfl)); intro w15 hw; have n0_ : zA (w15.heap[gb102]? = some (.cells #[.int .i32 ((rd_T45 l0 x13_1).f0), .int .i32 ((rd_T45 l0 x13_1).f1), .int .i64 ((rd_T45 l0 x13_1).f2)] 45 (0, 0))) := ⟨(by rw [hw]; exact (by (with_reducible repeat (first | refine zE ?_ _ | refine zD ?_ | refine zB ?_ _)); refine blk_put (cs := #[.int .i32 ((rd_T45 l0 x13_1).f0), .int .i32 ((rd_T45 l0 x13_1).f1), .int .i64 0]) ?_ 2 _ rfl; (with_reducible repeat (first | refine zE ?_ _ | refine zD ?_ | refine zB ?_ _)); refine blk_put (cs := #[.int .i32 ((rd_T45 l0 x13_1).f0), .int .i32 0, .int .i64 0]) ?_ 1 _ rfl; (with_reducible repeat (first | refine zE ?_ _ | refine zD ?_ | refine zB ?_ _)); refine blk_put (cs := #[.int .i32 0, .int .i32 0, .int .i64 0]) ?_ 0 _ rfl; (with_reducible repeat (first | refine zE ?_ _ | refine zD ?_ | refine zB ?_ _)); exact BK102.out))⟩; have n1_ : zA (Below w.heap.size w w15) := ⟨(by rw [hw]; exact (aL HB))⟩; clear hw; clear BK102; clear HB; have BK102 := n0_; have HB := n1_; clear n0_ n1_; obtain ⟨hcz16_0, hcz16_1, hcz16_2, hfz16_0, hfz16_1, hfz16_2⟩ := aC3 BK102))
   go_ret
   exact ⟨aX, aL HB⟩
  rw [if_neg c12] at H; have c12b0 : decide (((rd_T45 l0 x13_1).f1) < ((rd_T45 l0 x13_1).f0)) = false := decide_eq_false c12
  clear c12; by_cases c17 : ((rd_T45 l0 x13_1).f1) > 1114111
  ·rw [if_pos c17] at H
   have c17b0 : decide (1114111 < ((rd_T45 l0 x13_1).f1)) = true := decide_eq_true c17
   clear c17; obtain rfl := Option.some.inj H
   have p101 : 0 ≤ (x13_1 : Int) := aD
   have q101 : x13_1 < (l0.length : Int) := aD
   obtain ⟨ad101, e101, hx101_0, hx101_1, hx101_2⟩ := at_T45 HR0.out x13_1 p101 q101; cases e101
   replace hx101_0 := (HB.out.cell (World.block_lt_of_cell? w _ hx101_0)).trans hx101_0; replace hx101_1 := (HB.out.cell (World.block_lt_of_cell? w _ hx101_1)).trans hx101_1; replace hx101_2 := (HB.out.cell (World.block_lt_of_cell? w _ hx101_2)).trans hx101_2; replace p101 := eq_true p101; replace q101 := eq_true q101; go_wp2_with (first | ((with_reducible refine gate_dst (N := 7) rfl ?_); refine box_event ?hg (N := 7) ?hd (cs := #[.int .i32 0, .int .i32 0, .int .i64 0]) (t := 45) ?hr ?_; (case hd => rfl); (case hg => rfl); (case hr => first | (go_simp; done) | (go_simp; rfl)); intro gb102 hg w18 hbox hb; have BK102 := zA.mk (hbox); have GW102 := zA.mk ((by rw [hg]; exact (below_size (aL HB)) : w.heap.size ≤ gb102)); replace HB := zA.mk (below_step (aL HB) hb); have GE102 := GW102; clear hb hbox hg; obtain ⟨hcz19_0, hcz19_1, hcz19_2, hfz19_0, hfz19_1, hfz19_2⟩ := aC3 BK102) | ((with_reducible refine gate_store (t := 45) (p := 7) rfl ?_); refine store_event (t := 45) (p := 7) (v := ?vo_w20) (w1 := (((w18.setCell ⟨gb102, 0, none⟩ (.int .i32 ((rd_T45 l0 x13_1).f0))).setCell ⟨gb102, 1, none⟩ (.int .i32 ((rd_T45 l0 x13_1).f1))).setCell ⟨gb102, 2, none⟩ (.int .i64 ((rd_T45 l0 x13_1).f2)))) ?hg ?ho ?hn ?hr ?_; (case ho => rfl); (case hg => rfl); (case hn => rfl); (case hr => first | (go_simp; done) | (go_simp; rfl)); intro w20 hw; have n0_ : zA (w20.heap[gb102]? = some (.cells #[.int .i32 ((rd_T45 l0 x13_1).f0), .int .i32 ((rd_T45 l0 x13_1).f1), .int .i64 ((rd_T45 l0 x13_1).f2)] 45 (0, 0))) := ⟨(by rw [hw]; exact (by (with_reducible repeat (first | refine zE ?_ _ | refine zD ?_ | refine zB ?_ _)); refine blk_put (cs := #[.int .i32 ((rd_T45 l0 x13_1).f0), .int .i32 ((rd_T45 l0 x13_1).f1), .int .i64 0]) ?_ 2 _ rfl; (with_reducible repeat (first | refine zE ?_ _ | refine zD ?_ | refine zB ?_ _)); refine blk_put (cs := #[.int .i32 ((rd_T45 l0 x13_1).f0), .int .i32 0, .int .i64 0]) ?_ 1 _ rfl; (with_reducible repeat (first | refine zE ?_ _ | refine zD ?_ | refine zB ?_ _)); refine blk_put (cs := #[.int .i32 0, .int .i32 0, .int .i64 0]) ?_ 0 _ rfl; (with_reducible repeat (first | refine zE ?_ _ | refine zD ?_ | refine zB ?_ _)); exact BK102.out))⟩; have n1_ : zA (Below w.heap.size w w20) := ⟨(by rw [hw]; exact (aL HB))⟩; clear hw; clear BK102; clear HB; have BK102 := n0_; have HB := n1_; clear n0_ n1_; obtain ⟨hcz21_0, hcz21_1, hcz21_2, hfz21_0, hfz21_1, hfz21_2⟩ := aC3 BK102))
   go_ret
   exact ⟨aX, aL HB⟩
  rw [if_neg c17] at H; have c17b0 : decide (1114111 < ((rd_T45 l0 x13_1).f1)) = false := decide_eq_false c17
  clear c17; by_cases c22 : ((rd_T45 l0 x13_1).f2) < 0
  ·rw [if_pos c22] at H
   have c22b0 : decide (((rd_T45 l0 x13_1).f2) < 0) = true := decide_eq_true c22
   clear c22; obtain rfl := Option.some.inj H
   have p101 : 0 ≤ (x13_1 : Int) := aD
   have q101 : x13_1 < (l0.length : Int) := aD
   obtain ⟨ad101, e101, hx101_0, hx101_1, hx101_2⟩ := at_T45 HR0.out x13_1 p101 q101; cases e101
   replace hx101_0 := (HB.out.cell (World.block_lt_of_cell? w _ hx101_0)).trans hx101_0; replace hx101_1 := (HB.out.cell (World.block_lt_of_cell? w _ hx101_1)).trans hx101_1; replace hx101_2 := (HB.out.cell (World.block_lt_of_cell? w _ hx101_2)).trans hx101_2; replace p101 := eq_true p101; replace q101 := eq_true q101; go_wp2_with (first | ((with_reducible refine gate_dst (N := 7) rfl ?_); refine box_event ?hg (N := 7) ?hd (cs := #[.int .i32 0, .int .i32 0, .int .i64 0]) (t := 45) ?hr ?_; (case hd => rfl); (case hg => rfl); (case hr => first | (go_simp; done) | (go_simp; rfl)); intro gb102 hg w23 hbox hb; have BK102 := zA.mk (hbox); have GW102 := zA.mk ((by rw [hg]; exact (below_size (aL HB)) : w.heap.size ≤ gb102)); replace HB := zA.mk (below_step (aL HB) hb); have GE102 := GW102; clear hb hbox hg; obtain ⟨hcz24_0, hcz24_1, hcz24_2, hfz24_0, hfz24_1, hfz24_2⟩ := aC3 BK102) | ((with_reducible refine gate_store (t := 45) (p := 7) rfl ?_); refine store_event (t := 45) (p := 7) (v := ?vo_w25) (w1 := (((w23.setCell ⟨gb102, 0, none⟩ (.int .i32 ((rd_T45 l0 x13_1).f0))).setCell ⟨gb102, 1, none⟩ (.int .i32 ((rd_T45 l0 x13_1).f1))).setCell ⟨gb102, 2, none⟩ (.int .i64 ((rd_T45 l0 x13_1).f2)))) ?hg ?ho ?hn ?hr ?_; (case ho => rfl); (case hg => rfl); (case hn => rfl); (case hr => first | (go_simp; done) | (go_simp; rfl)); intro w25 hw; have n0_ : zA (w25.heap[gb102]? = some (.cells #[.int .i32 ((rd_T45 l0 x13_1).f0), .int .i32 ((rd_T45 l0 x13_1).f1), .int .i64 ((rd_T45 l0 x13_1).f2)] 45 (0, 0))) := ⟨(by rw [hw]; exact (by (with_reducible repeat (first | refine zE ?_ _ | refine zD ?_ | refine zB ?_ _)); refine blk_put (cs := #[.int .i32 ((rd_T45 l0 x13_1).f0), .int .i32 ((rd_T45 l0 x13_1).f1), .int .i64 0]) ?_ 2 _ rfl; (with_reducible repeat (first | refine zE ?_ _ | refine zD ?_ | refine zB ?_ _)); refine blk_put (cs := #[.int .i32 ((rd_T45 l0 x13_1).f0), .int .i32 0, .int .i64 0]) ?_ 1 _ rfl; (with_reducible repeat (first | refine zE ?_ _ | refine zD ?_ | refine zB ?_ _)); refine blk_put (cs := #[.int .i32 0, .int .i32 0, .int .i64 0]) ?_ 0 _ rfl; (with_reducible repeat (first | refine zE ?_ _ | refine zD ?_ | refine zB ?_ _)); exact BK102.out))⟩; have n1_ : zA (Below w.heap.size w w25) := ⟨(by rw [hw]; exact (aL HB))⟩; clear hw; clear BK102; clear HB; have BK102 := n0_; have HB := n1_; clear n0_ n1_; obtain ⟨hcz26_0, hcz26_1, hcz26_2, hfz26_0, hfz26_1, hfz26_2⟩ := aC3 BK102))
   go_ret
   exact ⟨aX, aL HB⟩
  rw [if_neg c22] at H; have c22b0 : decide (((rd_T45 l0 x13_1).f2) < 0) = false := decide_eq_false c22
  clear c22; by_cases c27 : ((rd_T45 l0 x13_1).f2) ≥ a1
  ·rw [if_pos c27] at H
   have c27b0 : decide (a1 ≤ ((rd_T45 l0 x13_1).f2)) = true := decide_eq_true c27
   clear c27; obtain rfl := Option.some.inj H
   have p101 : 0 ≤ (x13_1 : Int) := aD
   have q101 : x13_1 < (l0.length : Int) := aD
   obtain ⟨ad101, e101, hx101_0, hx101_1, hx101_2⟩ := at_T45 HR0.out x13_1 p101 q101; cases e101
   replace hx101_0 := (HB.out.cell (World.block_lt_of_cell? w _ hx101_0)).trans hx101_0; replace hx101_1 := (HB.out.cell (World.block_lt_of_cell? w _ hx101_1)).trans hx101_1; replace hx101_2 := (HB.out.cell (World.block_lt_of_cell? w _ hx101_2)).trans hx101_2; replace p101 := eq_true p101; replace q101 := eq_true q101; go_wp2_with (first | ((with_reducible refine gate_dst (N := 7) rfl ?_); refine box_event ?hg (N := 7) ?hd (cs := #[.int .i32 0, .int .i32 0, .int .i64 0]) (t := 45) ?hr ?_; (case hd => rfl); (case hg => rfl); (case hr => first | (go_simp; done) | (go_simp; rfl)); intro gb102 hg w28 hbox hb; have BK102 := zA.mk (hbox); have GW102 := zA.mk ((by rw [hg]; exact (below_size (aL HB)) : w.heap.size ≤ gb102)); replace HB := zA.mk (below_step (aL HB) hb); have GE102 := GW102; clear hb hbox hg; obtain ⟨hcz29_0, hcz29_1, hcz29_2, hfz29_0, hfz29_1, hfz29_2⟩ := aC3 BK102) | ((with_reducible refine gate_store (t := 45) (p := 7) rfl ?_); refine store_event (t := 45) (p := 7) (v := ?vo_w30) (w1 := (((w28.setCell ⟨gb102, 0, none⟩ (.int .i32 ((rd_T45 l0 x13_1).f0))).setCell ⟨gb102, 1, none⟩ (.int .i32 ((rd_T45 l0 x13_1).f1))).setCell ⟨gb102, 2, none⟩ (.int .i64 ((rd_T45 l0 x13_1).f2)))) ?hg ?ho ?hn ?hr ?_; (case ho => rfl); (case hg => rfl); (case hn => rfl); (case hr => first | (go_simp; done) | (go_simp; rfl)); intro w30 hw; have n0_ : zA (w30.heap[gb102]? = some (.cells #[.int .i32 ((rd_T45 l0 x13_1).f0), .int .i32 ((rd_T45 l0 x13_1).f1), .int .i64 ((rd_T45 l0 x13_1).f2)] 45 (0, 0))) := ⟨(by rw [hw]; exact (by (with_reducible repeat (first | refine zE ?_ _ | refine zD ?_ | refine zB ?_ _)); refine blk_put (cs := #[.int .i32 ((rd_T45 l0 x13_1).f0), .int .i32 ((rd_T45 l0 x13_1).f1), .int .i64 0]) ?_ 2 _ rfl; (with_reducible repeat (first | refine zE ?_ _ | refine zD ?_ | refine zB ?_ _)); refine blk_put (cs := #[.int .i32 ((rd_T45 l0 x13_1).f0), .int .i32 0, .int .i64 0]) ?_ 1 _ rfl; (with_reducible repeat (first | refine zE ?_ _ | refine zD ?_ | refine zB ?_ _)); refine blk_put (cs := #[.int .i32 0, .int .i32 0, .int .i64 0]) ?_ 0 _ rfl; (with_reducible repeat (first | refine zE ?_ _ | refine zD ?_ | refine zB ?_ _)); exact BK102.out))⟩; have n1_ : zA (Below w.heap.size w w30) := ⟨(by rw [hw]; exact (aL HB))⟩; clear hw; clear BK102; clear HB; have BK102 := n0_; have HB := n1_; clear n0_ n1_; obtain ⟨hcz31_0, hcz31_1, hcz31_2, hfz31_0, hfz31_1, hfz31_2⟩ := aC3 BK102))
   go_ret
   exact ⟨aX, aL HB⟩
  rw [if_neg c27] at H; have c27b0 : decide (a1 ≤ ((rd_T45 l0 x13_1).f2)) = false := decide_eq_false c27
  clear c27; by_cases c32 : ((rd_T45 l0 x13_1).f2) > 255
  ·rw [if_pos c32] at H
   have c32b0 : decide (255 < ((rd_T45 l0 x13_1).f2)) = true := decide_eq_true c32
   clear c32; obtain rfl := Option.some.inj H
   have p101 : 0 ≤ (x13_1 : Int) := aD
   have q101 : x13_1 < (l0.length : Int) := aD
   obtain ⟨ad101, e101, hx101_0, hx101_1, hx101_2⟩ := at_T45 HR0.out x13_1 p101 q101; cases e101
   replace hx101_0 := (HB.out.cell (World.block_lt_of_cell? w _ hx101_0)).trans hx101_0; replace hx101_1 := (HB.out.cell (World.block_lt_of_cell? w _ hx101_1)).trans hx101_1; replace hx101_2 := (HB.out.cell (World.block_lt_of_cell? w _ hx101_2)).trans hx101_2; replace p101 := eq_true p101; replace q101 := eq_true q101; go_wp2_with (first | ((with_reducible refine gate_dst (N := 7) rfl ?_); refine box_event ?hg (N := 7) ?hd (cs := #[.int .i32 0, .int .i32 0, .int .i64 0]) (t := 45) ?hr ?_; (case hd => rfl); (case hg => rfl); (case hr => first | (go_simp; done) | (go_simp; rfl)); intro gb102 hg w33 hbox hb; have BK102 := zA.mk (hbox); have GW102 := zA.mk ((by rw [hg]; exact (below_size (aL HB)) : w.heap.size ≤ gb102)); replace HB := zA.mk (below_step (aL HB) hb); have GE102 := GW102; clear hb hbox hg; obtain ⟨hcz34_0, hcz34_1, hcz34_2, hfz34_0, hfz34_1, hfz34_2⟩ := aC3 BK102) | ((with_reducible refine gate_store (t := 45) (p := 7) rfl ?_); refine store_event (t := 45) (p := 7) (v := ?vo_w35) (w1 := (((w33.setCell ⟨gb102, 0, none⟩ (.int .i32 ((rd_T45 l0 x13_1).f0))).setCell ⟨gb102, 1, none⟩ (.int .i32 ((rd_T45 l0 x13_1).f1))).setCell ⟨gb102, 2, none⟩ (.int .i64 ((rd_T45 l0 x13_1).f2)))) ?hg ?ho ?hn ?hr ?_; (case ho => rfl); (case hg => rfl); (case hn => rfl); (case hr => first | (go_simp; done) | (go_simp; rfl)); intro w35 hw; have n0_ : zA (w35.heap[gb102]? = some (.cells #[.int .i32 ((rd_T45 l0 x13_1).f0), .int .i32 ((rd_T45 l0 x13_1).f1), .int .i64 ((rd_T45 l0 x13_1).f2)] 45 (0, 0))) := ⟨(by rw [hw]; exact (by (with_reducible repeat (first | refine zE ?_ _ | refine zD ?_ | refine zB ?_ _)); refine blk_put (cs := #[.int .i32 ((rd_T45 l0 x13_1).f0), .int .i32 ((rd_T45 l0 x13_1).f1), .int .i64 0]) ?_ 2 _ rfl; (with_reducible repeat (first | refine zE ?_ _ | refine zD ?_ | refine zB ?_ _)); refine blk_put (cs := #[.int .i32 ((rd_T45 l0 x13_1).f0), .int .i32 0, .int .i64 0]) ?_ 1 _ rfl; (with_reducible repeat (first | refine zE ?_ _ | refine zD ?_ | refine zB ?_ _)); refine blk_put (cs := #[.int .i32 0, .int .i32 0, .int .i64 0]) ?_ 0 _ rfl; (with_reducible repeat (first | refine zE ?_ _ | refine zD ?_ | refine zB ?_ _)); exact BK102.out))⟩; have n1_ : zA (Below w.heap.size w w35) := ⟨(by rw [hw]; exact (aL HB))⟩; clear hw; clear BK102; clear HB; have BK102 := n0_; have HB := n1_; clear n0_ n1_; obtain ⟨hcz36_0, hcz36_1, hcz36_2, hfz36_0, hfz36_1, hfz36_2⟩ := aC3 BK102))
   go_ret
   exact ⟨aX, aL HB⟩
  rw [if_neg c32] at H; have c32b0 : decide (255 < ((rd_T45 l0 x13_1).f2)) = false := decide_eq_false c32
  clear c32; have H' := zA.mk H
  clear H; have p101 : 0 ≤ (x13_1 : Int) := aD
  have q101 : x13_1 < (l0.length : Int) := aD
  obtain ⟨ad101, e101, hx101_0, hx101_1, hx101_2⟩ := at_T45 HR0.out x13_1 p101 q101; cases e101
  replace hx101_0 := (HB.out.cell (World.block_lt_of_cell? w _ hx101_0)).trans hx101_0; replace hx101_1 := (HB.out.cell (World.block_lt_of_cell? w _ hx101_1)).trans hx101_1; replace hx101_2 := (HB.out.cell (World.block_lt_of_cell? w _ hx101_2)).trans hx101_2; replace p101 := eq_true p101; replace q101 := eq_true q101; go_wp2_with (first | ((with_reducible refine gate_dst (N := 7) rfl ?_); refine box_event ?hg (N := 7) ?hd (cs := #[.int .i32 0, .int .i32 0, .int .i64 0]) (t := 45) ?hr ?_; (case hd => rfl); (case hg => rfl); (case hr => first | (go_simp; done) | (go_simp; rfl)); intro gb102 hg w37 hbox hb; have BK102 := zA.mk (hbox); have GW102 := zA.mk ((by rw [hg]; exact (below_size (aL HB)) : w.heap.size ≤ gb102)); replace HB := zA.mk (below_step (aL HB) hb); have GE102 := GW102; clear hb hbox hg; obtain ⟨hcz38_0, hcz38_1, hcz38_2, hfz38_0, hfz38_1, hfz38_2⟩ := aC3 BK102) | ((with_reducible refine gate_store (t := 45) (p := 7) rfl ?_); refine store_event (t := 45) (p := 7) (v := ?vo_w39) (w1 := (((w37.setCell ⟨gb102, 0, none⟩ (.int .i32 ((rd_T45 l0 x13_1).f0))).setCell ⟨gb102, 1, none⟩ (.int .i32 ((rd_T45 l0 x13_1).f1))).setCell ⟨gb102, 2, none⟩ (.int .i64 ((rd_T45 l0 x13_1).f2)))) ?hg ?ho ?hn ?hr ?_; (case ho => rfl); (case hg => rfl); (case hn => rfl); (case hr => first | (go_simp; done) | (go_simp; rfl)); intro w39 hw; have n0_ : zA (w39.heap[gb102]? = some (.cells #[.int .i32 ((rd_T45 l0 x13_1).f0), .int .i32 ((rd_T45 l0 x13_1).f1), .int .i64 ((rd_T45 l0 x13_1).f2)] 45 (0, 0))) := ⟨(by rw [hw]; exact (by (with_reducible repeat (first | refine zE ?_ _ | refine zD ?_ | refine zB ?_ _)); refine blk_put (cs := #[.int .i32 ((rd_T45 l0 x13_1).f0), .int .i32 ((rd_T45 l0 x13_1).f1), .int .i64 0]) ?_ 2 _ rfl; (with_reducible repeat (first | refine zE ?_ _ | refine zD ?_ | refine zB ?_ _)); refine blk_put (cs := #[.int .i32 ((rd_T45 l0 x13_1).f0), .int .i32 0, .int .i64 0]) ?_ 1 _ rfl; (with_reducible repeat (first | refine zE ?_ _ | refine zD ?_ | refine zB ?_ _)); refine blk_put (cs := #[.int .i32 0, .int .i32 0, .int .i64 0]) ?_ 0 _ rfl; (with_reducible repeat (first | refine zE ?_ _ | refine zD ?_ | refine zB ?_ _)); exact BK102.out))⟩; have n1_ : zA (Below w.heap.size w w39) := ⟨(by rw [hw]; exact (aL HB))⟩; clear hw; clear BK102; clear HB; have BK102 := n0_; have HB := n1_; clear n0_ n1_; obtain ⟨hcz40_0, hcz40_1, hcz40_2, hfz40_0, hfz40_1, hfz40_2⟩ := aC3 BK102))
  go_roundg k1
  case measure => have := HK1.out; omega
  case rel => exact ⟨((rd_T45 l0 x13_1).f1), (wrap64 (x13_1 + 1)), aZ, aZ, H', ⟨by have := HK1.out; omega⟩, ⟨aL HB⟩⟩
def bcs (b : List Int) : List Value := b.map (Value.int .u8)
def bag (b : List Int) : Value := .agg (bcs b).toArray
def Byt (b : List Int) : Prop := b.length = 256 ∧ ∀ c ∈ b, 0 ≤ c ∧ c ≤ 255
theorem mapM_some {α β : Type} {f : α → Option β} {g : α → β} : ∀ l : List α, (∀ x ∈ l, f x = some (g x)) → l.mapM f = some (l.map g)
 | [], _ => rfl
 | x :: l, h => by
  rw [List.mapM_cons, h x (by simp), mapM_some l (fun y hy => h y (by simp [hy]))]
  rfl
theorem bcs_len (b : List Int) : (bcs b).length = b.length := by unfold bcs; rw [List.length_map]
theorem bcs_get (b : List Int) (i : Nat) (h : i < (bcs b).length) : (bcs b)[i] = Value.int .u8 (b.getD i 0) := by
 have h2 : i < b.length := by rw [bcs_len] at h; exact h
 have : (b.map (Value.int .u8))[i]'(by rw [List.length_map]; exact h2) = Value.int .u8 (b.getD i 0) := by
  rw [List.getElem_map, List.getD_eq_getElem?_getD, List.getElem?_eq_getElem h2]; rfl
 exact this
theorem bag_inj {a b : List Int} (h : bag a = bag b) : a = b := by
 unfold bag bcs at h
 injection h with h
 have h2 := congrArg Array.toList h; simp only at h2
 exact (List.map_inj_right (fun x y hxy => by injection hxy)).1 h2
theorem prop_Make.hkey {b : List Int} (h : Byt b) : ∃ kl, keyOf Try.prog 82 (bag b) = some kl := by
 obtain ⟨d, hd⟩ : ∃ d, Try.prog.types.size = d + 1 := ⟨Try.prog.types.size - 1, by have : 0 < Try.prog.types.size := of_decide_eq_true (by kernel_rfl); omega⟩
 have hc : Try.prog.cellsOf 82 = 256 := by kernel_rfl
 have hc5 : Try.prog.cellsOf 5 = 1 := by kernel_rfl
 have hk : Try.prog.keyType 82 = true := by kernel_rfl
 have hf : (bag b).formed Try.prog 82 = true := by
  unfold Value.formed bag
  simp only [Try.underlying82, hc, List.size_toArray, bcs_len, h.1]; rfl
 have hl : Try.prog.keyLits (Try.prog.types.size + 1) 82 (bag b).cells.toList = some (((List.range 256).map fun i => [Lit.int .u8 (b.getD i 0)]).flatten) := by
  rw [hd]; have hcells : (bag b).cells.toList = bcs b := rfl
  rw [hcells]; unfold Program.keyLits
  simp only [Try.underlying82, hc, bcs_len, h.1, if_true, hc5, Nat.mul_one]; rw [mapM_some (g := fun i => [Lit.int .u8 (b.getD i 0)]) (List.range 256)]
  ·rfl
  ·intro i hi
   have hi' : i < 256 := List.mem_range.1 hi
   have hb : i < (bcs b).length := by rw [bcs_len, h.1]; exact hi'
   have e : ((bcs b).drop i).take 1 = [Value.int .u8 (b.getD i 0)] := by
    rw [List.drop_eq_getElem_cons hb]; rw [bcs_get b i hb]; rfl
   rw [e]; have hw : (Lit.int .u8 (b.getD i 0)).wf = true := by
    have hm := h.2 (b.getD i 0) (by
     rw [List.getD_eq_getElem?_getD, List.getElem?_eq_getElem (show i < b.length by rw [h.1]; exact hi')]
     exact List.getElem_mem _)
    exact WalkArith.wf_u8 hm
   unfold Program.keyLits
   simp only [Try.underlying5, hw, and_self, if_true]
 refine ⟨.string (keyBytes (((List.range 256).map fun i => [Lit.int .u8 (b.getD i 0)]).flatten)), ?_⟩
 unfold keyOf
 simp only [Try.underlying82, hk, hf, Bool.and_self, if_true, hl, Option.map_some]
theorem prop_Make.laidOut : laidOutB Try.prog = true := by kernel_rfl
theorem prop_Make.wide : (match Try.prog.underlying 82 with | some (.array _ _) | some (.struct _) => true | _ => false) = true := by rw [Try.underlying82]
theorem prop_Make.law : Maps.Keyed Try.prog 82 := Maps.Keyed.of_law (deep_law_laid prop_Make.laidOut (m := 2) (by omega) (of_decide_eq_true (by kernel_rfl)) (by kernel_rfl) prop_Make.wide)
theorem prop_Make.zeroE (w : World) : (zeroValue 3).run Try.prog w = .ok (.int .i64 0) w := by kernel_rfl
theorem prop_Make.eq_run (w : World) {a b : List Int} (ha : Byt a) (hb : Byt b) : (Op.equal 82 (bag a) (bag b)).run Try.prog w = .ok (decide (a = b)) w := by
 obtain ⟨ka, hka⟩ := prop_Make.hkey ha; obtain ⟨kb, hkb⟩ := prop_Make.hkey hb; obtain ⟨r, hr, hiff⟩ := run_equal_deep (P := Try.prog) w (m := 2) (by omega) (k := 82) (by kernel_rfl) prop_Make.wide hka hkb
 rw [hr]; congr 1
 rw [Bool.eq_iff_iff, hiff, decide_eq_true_iff]; constructor
 ·rintro rfl; exact bag_inj (prop_Make.law.inj hka hkb)
 rintro rfl; rw [hka] at hkb; exact Option.some.inj hkb
def SeenR (P : Program) (K : TypeId) (D : DataW Unit) (bs : List (List Int)) : Prop :=
 ∀ (x : List Int) (kl : Lit), Byt x → keyOf P K (bag x) = some kl → Maps.has D kl = decide (x ∈ bs ∧ x ≠ zerosR) ∧ (x ∈ bs → x ≠ zerosR → ∀ z, D.atKey kl z = .lit (.int .i64 (bs.idxOf x : Int)))
theorem SeenR.start : SeenR Try.prog 82 (.map []) [zerosR] := by
 intro x kl hx hk
 refine ⟨?_, fun h1 h2 => absurd (List.mem_singleton.1 h1) h2⟩
 have : ¬ (x ∈ [zerosR] ∧ x ≠ zerosR) := fun h => h.2 (List.mem_singleton.1 h.1)
 rw [decide_eq_false this]; rfl
theorem SeenR.put {D : DataW Unit} {bs : List (List Int)} (h : SeenR Try.prog 82 D bs) (hm : Maps.IsMap D) (hz : zerosR ∈ bs) {y : List Int} {ky : Lit} (hy : Byt y) (hky : keyOf Try.prog 82 (bag y) = some ky) (hny : y ∉ bs) :
  SeenR Try.prog 82 (D.put ky (.lit (.int .i64 (bs.length : Int)))) (bs ++ [y]) := by
 have hyz : y ≠ zerosR := fun e => hny (e ▸ hz)
 intro x kl hx hk
 by_cases e : x = y
 ·subst e
  obtain rfl : kl = ky := by rw [hk] at hky; exact Option.some.inj hky
  refine ⟨?_, fun _ _ z => ?_⟩
  ·rw [Maps.has_put_same hm (prop_Make.law.key hk), decide_eq_true ⟨by simp, hyz⟩]
  rw [Maps.atKey_put_same hm (prop_Make.law.key hk), List.idxOf_append, if_neg hny, List.idxOf_cons_self, Nat.zero_add]
 have hne : kl ≠ ky := by
  rintro rfl
  exact e (bag_inj (prop_Make.law.inj hk hky))
 obtain ⟨h1, h2⟩ := h x kl hx hk; have hmem : x ∈ bs ++ [y] ↔ x ∈ bs := by simp [e]
 refine ⟨?_, fun a b z => ?_⟩
 ·rw [Maps.has_put_other hne, h1]
  simp only [hmem]
 rw [Maps.atKey_put_other hne, h2 (hmem.1 a) b z, List.idxOf_append, if_pos (hmem.1 a)]
def prop_Make.t (x : S45) : Int × Int × Int := (x.f0, x.f1, x.f2)
def prop_Make.c (l : List S45) (m : Int) : Bool := chkR (l.map prop_Make.t) m
def prop_MakeY.f (l : List S45) (m : Int) : Option (Option (List (Int × Int × Int))) := if prop_Make.c l m = true then some (some (l.map prop_Make.t)) else none
def prop_MakeN.f (l : List S45) (m : Int) : Option Unit := if prop_Make.c l m = true then none else some ()
theorem prop_Make.loop (m : Int) (xs : List S45) (hn : xs.length ≤ 256) (d : Nat) : ∀ (k i : Nat) (last : Int), i ≤ xs.length → xs.length - i = d → d < k →
  prop_Check.l0 k m last xs (xs.length : Int) (i : Int) = some (chkGo m last ((xs.drop i).map prop_Make.t)) := by
 induction d with
 | zero =>
  intro k i last hi hd hk
  obtain ⟨k, rfl⟩ : ∃ m, k = m + 1 := ⟨k - 1, by omega⟩
  simp only [prop_Check.l0]; rw [if_neg (by omega), List.drop_eq_nil_of_le (by omega)]
  rfl
 | succ d ih =>
  intro k i last hi hd hk
  obtain ⟨k, rfl⟩ : ∃ m, k = m + 1 := ⟨k - 1, by omega⟩
  have hlt : i < xs.length := by omega
  have hrd : rd_T45 xs (i : Int) = xs[i] := by
   unfold rd_T45
   rw [List.getD_eq_getElem?_getD, Int.toNat_natCast, List.getElem?_eq_getElem hlt]; rfl
  simp only [prop_Check.l0]; rw [if_pos (by omega), if_pos (by omega), if_pos (by omega), hrd, List.drop_eq_getElem_cons hlt, List.map_cons]
  rw [show ∀ r, chkGo m last (prop_Make.t xs[i] :: r) = if (xs[i]).f0 ≤ last ∨ (xs[i]).f1 < (xs[i]).f0 ∨ (xs[i]).f1 > 1114111 ∨ (xs[i]).f2 < 0 ∨ (xs[i]).f2 ≥ m ∨ (xs[i]).f2 > 255 then false else chkGo m (xs[i]).f1 r from fun _ => rfl]
  rw [show wrap64 ((i : Int) + 1) = ((i + 1 : Nat) : Int) by unfold wrap64; omega]
  have := ih k (i + 1) (xs[i]).f1 (by omega) (by omega) (by omega)
  by_cases c1 : (xs[i]).f0 ≤ last
  ·rw [if_pos c1, if_pos (by omega)]
  rw [if_neg c1]; by_cases c2 : (xs[i]).f1 < (xs[i]).f0
  ·rw [if_pos c2, if_pos (by omega)]
  rw [if_neg c2]; by_cases c3 : (xs[i]).f1 > 1114111
  ·rw [if_pos c3, if_pos (by omega)]
  rw [if_neg c3]; by_cases c4 : (xs[i]).f2 < 0
  ·rw [if_pos c4, if_pos (by omega)]
  rw [if_neg c4]; by_cases c5 : (xs[i]).f2 ≥ m
  ·rw [if_pos c5, if_pos (by omega)]
  rw [if_neg c5]; by_cases c6 : (xs[i]).f2 > 255
  ·rw [if_pos c6, if_pos (by omega)]
  rw [if_neg c6, if_neg (by omega)]
  exact this
theorem prop_Make.check (l : List S45) (m : Int) : ∃ k, prop_Check.f k l m = some (prop_Make.c l m) := by
 refine ⟨l.length + 1, ?_⟩
 unfold prop_Check.f prop_Make.c chkR
 rw [List.length_map]; by_cases h : (l.length : Int) > 256
 ·rw [if_pos h, if_pos h]
 rw [if_neg h, if_neg h]; have := prop_Make.loop m l (by omega) l.length (l.length + 1) 0 (-1) (by omega) (by omega) (by omega)
 simpa using this
set_option maxHeartbeats 400000 in
theorem prop_MakeN.calls (A0 : Option Addr) (c0 : Nat) (l0 : List S45) (a1 : Int) (w : World) (hr0 : Kd.C k45 w A0 l0.length l0) (hc0 : l0.length ≤ c0) (h : prop_MakeN.f l0 a1 = some ()) :
  Calls Try.prog 14 #[.slice A0 l0.length c0, .int .i64 a1] w fun e w' => e = .returned (.tuple #[.pointer none, .int .i64 10]) ∧ Below w.heap.size w w' := by
 obtain ⟨k, hk⟩ := prop_Make.check l0 a1; have hf : prop_Make.c l0 a1 = false := by
  unfold prop_MakeN.f at h
  split at h
  ·cases h
  ·simpa using (by assumption : ¬ prop_Make.c l0 a1 = true)
 rw [hf] at hk; clear h hf; go_enter Try.func14, Try.ntmps14
 go_wp2_with (go_at_call 33; refine (prop_Check.calls k A0 c0 l0 a1 false w hr0 hc0 hk).mono ?_; rintro e w1 ⟨rfl, hb⟩)
 go_ret2
 exact ⟨rfl, hb⟩
def tcs (f : Nat → Int) (v : Value) : List Value := (List.range 4352).map (fun i => .int .i64 (f i)) ++ [v]
theorem prop_Make.run_make : ∀ w : World, (Instr.makeSlice 76 (.int .i64 1) (.int .i64 1)).run Try.prog w = .ok (.slice (some ⟨w.heap.size, 0, none⟩) 1 1) (w.alloc (.cells (bcs zerosR).toArray 82)) := fun w => by kernel_rfl
theorem prop_Make.run_build (a : Option Addr) (n c : Nat) : ∀ w : World, (Instr.build 79 #[(1, .slice a n c)]).run Try.prog w = .ok (.agg (tcs (fun _ => 0) (.slice a n c)).toArray) w := fun w => by kernel_rfl
theorem prop_Make.run_zv : ∀ w : World, (zeroValue 82).run Try.prog w = .ok (bag zerosR) w := fun w => by kernel_rfl
theorem prop_Make.run_zero : ∀ w : World, (Instr.build 82 #[]).run Try.prog w = .ok (.agg (bcs zerosR).toArray) w := fun w => by kernel_rfl
theorem tcs_get (f : Nat → Int) (v : Value) (j : Nat) (h : j < 4352) : (tcs f v)[j]? = some (.int .i64 (f j)) := by
 unfold tcs
 rw [List.getElem?_append_left (by rw [List.length_map, List.length_range]; exact h), List.getElem?_map, List.getElem?_range h]
 rfl
theorem tcs_len (f : Nat → Int) (v : Value) : (tcs f v).length = 4353 := by
 unfold tcs
 rw [List.length_append, List.length_map, List.length_range]; rfl
theorem tcs_last (f : Nat → Int) (v : Value) : (tcs f v)[4352]? = some v := by
 unfold tcs
 rw [List.getElem?_append_right (by rw [List.length_map, List.length_range]; exact Nat.le_refl _), List.length_map, List.length_range]
 rfl
theorem tcs_out (f : Nat → Int) (v : Value) (j : Nat) (h : 4352 < j) : (tcs f v)[j]? = none := List.getElem?_eq_none (by rw [tcs_len]; exact h)
theorem tcs_ext {f g : Nat → Int} (v : Value) (h : ∀ m, m < 4352 → f m = g m) : tcs f v = tcs g v := by
 unfold tcs
 rw [List.map_congr_left (fun m hm => by rw [h m (List.mem_range.1 hm)])]
theorem tcs_set (f : Nat → Int) (v : Value) (i : Nat) (hi : i < 4352) (x : Int) : (tcs f v).set i (.int .i64 x) = tcs (fun m => if m = i then x else f m) v := by
 apply List.ext_getElem?
 intro j
 rw [List.getElem?_set]; by_cases e : i = j
 ·subst e
  rw [if_pos rfl, if_pos (by rw [tcs_len]; omega), tcs_get _ _ _ hi, if_pos rfl]
 rw [if_neg e]; rcases Nat.lt_trichotomy j 4352 with h | h | h
 ·rw [tcs_get _ _ _ h, tcs_get _ _ _ h, if_neg (fun x => e x.symm)]
 ·subst h; rw [tcs_last, tcs_last]
 rw [tcs_out _ _ _ h, tcs_out _ _ _ h]
theorem tcs_setv (f : Nat → Int) (v u : Value) : (tcs f v).set 4352 u = tcs f u := by
 apply List.ext_getElem?
 intro j
 rw [List.getElem?_set]; by_cases e : 4352 = j
 ·subst e
  rw [if_pos rfl, if_pos (by rw [tcs_len]; omega), tcs_last]
 rw [if_neg e]; rcases Nat.lt_trichotomy j 4352 with h | h | h
 ·rw [tcs_get _ _ _ h, tcs_get _ _ _ h]
 ·exact absurd h.symm e
 rw [tcs_out _ _ _ h, tcs_out _ _ _ h]
theorem grown_setCell (w : World) (a : Addr) (u : Value) : w.grownBy (w.setCell a u) (some a.block) :=
 ⟨rfl, rfl, rfl, by simp [World.setCell], fun k _ hne => heap_setCell_other w a k u (fun e => hne (by rw [e]))⟩
structure PI (w : World) (gt gm : Nat) (f : Nat → Int) (v vr : Value) (bs : List (List Int)) (n : Nat) (D : DataW Unit) (W : World) : Prop where
 tab : W.heap[gt]? = some (.cells (tcs f v).toArray 79)
 row : W.ownsRow w.heap.size 82 256 vr bs.length (bs.flatMap bcs)
 map : W.ownsMap Try.prog 82 (plainElem Try.prog 3) gm n D
 bel : Below w.heap.size w W
 gtb : w.heap.size ≤ gt
 gmb : w.heap.size ≤ gm
section
variable {w : World} {gt gm : Nat} {f : Nat → Int} {v vr : Value} {bs : List (List Int)} {n : Nat} {D : DataW Unit} {W : World}
theorem PI.gt_lt (h : PI w gt gm f v vr bs n D W) : gt < W.heap.size := (Array.getElem?_eq_some_iff.1 h.tab).1
theorem PI.gm_lt (h : PI w gt gm f v vr bs n D W) : gm < W.heap.size := h.map.lt
theorem PI.gm_ne (h : PI w gt gm f v vr bs n D W) : gm ≠ gt := by
 rintro rfl
 obtain ⟨es, c, hb, _⟩ := h.map; rw [h.tab] at hb; cases hb
theorem PI.row_ne (h : PI w gt gm f v vr bs n D W) : vr.ownBlock ≠ some gt := by
 intro e
 obtain ⟨cs, hc⟩ := own_typed h.row gt e; rw [h.tab] at hc; injection hc with hc
 injection hc with _ ht
 exact absurd ht (by decide)
theorem PI.row_ne2 (h : PI w gt gm f v vr bs n D W) : vr.ownBlock ≠ some gm := by
 intro e
 obtain ⟨cs, hc⟩ := own_typed h.row gm e; obtain ⟨es, c, hb, _⟩ := h.map; rw [hb] at hc; cases hc
theorem PI.grown (h : PI w gt gm f v vr bs n D W) {W' : World} {g : Nat} (hg : W.grownBy W' (some g)) (h1 : g ≠ gt) (h2 : g ≠ gm) (h3 : vr.ownBlock ≠ some g) (h4 : w.heap.size ≤ g) : PI w gt gm f v vr bs n D W' :=
 ⟨(hg.block gt h.gt_lt (fun e => h1 (Option.some.inj e).symm)).trans h.tab, h.row.kept hg (.inr h3), h.map.kept hg (fun e => h2 (Option.some.inj e).symm), pw_below_grown h.bel _ h.bel.size hg (fun k e => by obtain rfl := Option.some.inj e; exact h4), h.gtb, h.gmb⟩
theorem PI.fresh (h : PI w gt gm f v vr bs n D W) {W' : World} {g : Nat} (hg : W.grownBy W' (some g)) (hn : W.heap.size ≤ g) : PI w gt gm f v vr bs n D W' :=
 h.grown hg (fun e => by have := h.gt_lt; omega) (fun e => by have := h.gm_lt; omega) (fun e => by have := own_lt h.row _ e; omega) (Nat.le_trans h.bel.size hn)
theorem PI.alloc (h : PI w gt gm f v vr bs n D W) (o : Obj) : PI w gt gm f v vr bs n D (W.alloc o) := h.fresh (World.grownBy_alloc W o _) (Nat.le_refl _)
theorem PI.drewN (h : PI w gt gm f v vr bs n D W) (m : Nat) : PI w gt gm f v vr bs n D (W.drewN m) := ⟨h.tab, h.row, h.map, pw_below_drewN h.bel m, h.gtb, h.gmb⟩
theorem PI.drew (h : PI w gt gm f v vr bs n D W) : PI w gt gm f v vr bs n D W.drew := ⟨h.tab, h.row, h.map, below_drew h.bel, h.gtb, h.gmb⟩
theorem PI.setf (h : PI w gt gm f v vr bs n D W) (i : Nat) (hi : i < 4352) (x : Int) : PI w gt gm (fun m => if m = i then x else f m) v vr bs n D (W.setCell ⟨gt, i, none⟩ (.int .i64 x)) :=
 have hg := grown_setCell W ⟨gt, i, none⟩ (.int .i64 x)
 ⟨(heap_setCell_same W gt i _ 79 _ h.tab).trans (by rw [List.setIfInBounds_toArray, tcs_set f v i hi x]), h.row.kept hg (.inr h.row_ne), h.map.kept hg (fun e => h.gm_ne (Option.some.inj e)), pw_below_grown h.bel _ h.bel.size hg (fun k e => by obtain rfl := Option.some.inj e; exact h.gtb), h.gtb, h.gmb⟩
theorem PI.setv (h : PI w gt gm f v vr bs n D W) : PI w gt gm f vr vr bs n D (W.setCell ⟨gt, 4352, none⟩ vr) :=
 have hg := grown_setCell W ⟨gt, 4352, none⟩ vr
 ⟨(heap_setCell_same W gt 4352 _ 79 _ h.tab).trans (by rw [List.setIfInBounds_toArray, tcs_setv]), h.row.kept hg (.inr h.row_ne), h.map.kept hg (fun e => h.gm_ne (Option.some.inj e)), pw_below_grown h.bel _ h.bel.size hg (fun k e => by obtain rfl := Option.some.inj e; exact h.gtb), h.gtb, h.gmb⟩
theorem PI.append (h : PI w gt gm f v vr bs n D W) {W' : World} {vn : Value} {b : List Int} (hg : W.grownBy W' vr.ownBlock) (ho : W'.ownsRow w.heap.size 82 256 vn (bs ++ [b]).length ((bs ++ [b]).flatMap bcs)) : PI w gt gm f v vn (bs ++ [b]) n D W' :=
 ⟨(hg.block gt h.gt_lt (fun e => h.row_ne e.symm)).trans h.tab, ho, h.map.kept hg (fun e => h.row_ne2 e.symm), pw_below_grown h.bel _ h.bel.size hg (fun k e => own_base h.row k e), h.gtb, h.gmb⟩
theorem PI.put (h : PI w gt gm f v vr bs n D W) {W' : World} {n' : Nat} {D' : DataW Unit} (hg : W.grownBy W' (some gm)) (hm : W'.ownsMap Try.prog 82 (plainElem Try.prog 3) gm n' D') : PI w gt gm f v vr bs n' D' W' :=
 ⟨(hg.block gt h.gt_lt (fun e => h.gm_ne (Option.some.inj e).symm)).trans h.tab, h.row.kept hg (.inr h.row_ne2), hm, pw_below_grown h.bel _ h.bel.size hg (fun k e => by obtain rfl := Option.some.inj e; exact h.gmb), h.gtb, h.gmb⟩
theorem PI.more (h : PI w gt gm f v vr bs n D W) {m : Nat} (hm : n ≤ m) : PI w gt gm f v vr bs m D W := ⟨h.tab, h.row, h.map.mono hm, h.bel, h.gtb, h.gmb⟩
theorem PI.ext (h : PI w gt gm f v vr bs n D W) {g : Nat → Int} (e : ∀ m, m < 4352 → f m = g m) : PI w gt gm g v vr bs n D W := ⟨by rw [← tcs_ext v e]; exact h.tab, h.row, h.map, h.bel, h.gtb, h.gmb⟩
end
theorem prop_Make.infoB : (Try.prog.info? 82).map (fun i => (i.zero, i.size, i.bytes)) = some (some (bag zerosR), 256, 256) := by kernel_rfl
theorem prop_Make.run_slice (w : World) {b : List Int} (hb : b.length = 256) : (Instr.buildSlice 76 1 #[(0, bag b)]).run Try.prog w = .ok (.slice (some ⟨w.heap.size, 0, none⟩) 1 1) (w.alloc (.cells (bcs b).toArray 82)) := by
 obtain ⟨i0, hi, hz0, hz1, hz2⟩ := info_parts prop_Make.infoB; have hbs : (bag b).cells.size = 256 := by unfold bag; show (bcs b).toArray.size = 256; rw [List.size_toArray, bcs_len, hb]
 refine run_buildSlice (P := Try.prog) w 76 82 1 #[(0, bag b)] (bcs b).toArray i0 (bag zerosR) Try.underlying76 hi hz0 (by rw [hz1]; decide) (by rw [hz1]; decide) ?_
 rw [hz1]; have h := Great.fill_whole (s := 256) (by decide) [bag b] ((Array.range (1 * 256)).map ((bag zerosR).cells[· % (bag zerosR).cells.size]!)) (fun v hv => by rw [List.mem_singleton.1 hv]; exact hbs) (by simp)
 refine h.trans ?_
 simp [bag, Value.cells]
section
variable {P : Program} {ops : Array Oper} {o : Oper} {a : Act} {Q : Exit → Act → World → Prop} {K : Act → World → Prop}
theorem load_run {w : World} (ty : TypeId) (x : Operand) (ho : o.op = .load ty x) (g : Nat) (hx : a.eval x = .pointer (some ⟨g, 0, none⟩)) (t : TypeId) (cs : Array Value) (fr : Nat × Nat) (d : TypeDesc) (hg : w.heap[g]? = some (.cells cs t fr))
  (hu : P.underlying ty = some d) (hd : (match d with | .struct _ | .array _ _ => true | _ => false) = true) (hi : (P.info? ty).map (·.size) = some cs.size) : (execOp a.eval o).run P w = .ok (.value (.agg cs)) w := by
 unfold execOp
 simp only [ho, hx, Instr.loadAt, Instr.sureAddr, Sem.run_bind, Sem.run_pure, Result.andThen_ok, run_loadVar_row w g t ty cs fr d hg hu hd hi]
theorem slice_run {w : World} {v r : Value} {w1 : World} (t : TypeId) (x : Operand) (ho : o.op = .buildSlice t 1 #[(0, x)]) (hx : a.eval x = v) (h : (Instr.buildSlice t 1 #[(0, v)]).run P w = .ok r w1) : (execOp a.eval o).run P w = .ok (.value r) w1 := by
 unfold execOp
 simp only [ho, List.map_toArray, List.map_cons, List.map_nil, Sem.run_bind, hx, h]; rfl
theorem step_append_cb {w0 W : World} {cb : Array Value} {ys : List Value} (hcb : cb = ys.toArray) (base : Nat) (hw : Region.wanted o (yielded ops a.tmps) = true) (s x : Operand) (t e : TypeId) (z : Value) (size bytes : Nat)
  (ho : o.op = .call { callee := .builtin .append, args := #[s, x], argTypes := #[t, t] })
  (ht : P.underlying t = some (.slice e)) (hinfo : (P.info? e).map (fun i => (i.zero, i.size, i.bytes)) = some (some z, size, bytes)) (hz : z.cells.size = size) (hs0 : 0 < size) (hb0 : 0 < bytes)
  (v : Value) (n : Nat) (xs : List Value) (hs : a.eval s = v) (hx : a.eval x = .slice (some ⟨W.heap.size, 0, none⟩) 1 1) (hys : ys.length = size) (h1 : ∀ u ∈ ys, u.oneCell' = true)
  (HO : W.ownsRow base e size v n xs) (HB : Below base w0 W) (hbase : base ≤ W.heap.size) (hl : (n + 1) * bytes ≤ 140737488355328)
  (h : ∀ v1 w1, w1.ownsRow base e size v1 (n + 1) (xs ++ ys) → Below base w0 w1 → W.grownBy w1 v.ownBlock → (v1.ownBlock = v.ownBlock ∨ ∃ b, v1.ownBlock = some b ∧ W.heap.size ≤ b) → K (a.put o.dst v1) w1) :
  if Region.wanted o (yielded ops a.tmps) = true then Oper.wp P o a (W.alloc (.cells cb e)) K Q else K (a.put o.dst undef) (W.alloc (.cells cb e)) := by
 subst hcb; exact step_append_cells base hw s x t e z size bytes ho ht hinfo hz hs0 hb0 v n xs ys hs hx hys h1 HO HB hbase hl h
end
theorem bcs_one (b : List Int) : ∀ u ∈ bcs b, u.oneCell' = true := by
 intro u hu
 obtain ⟨x, _, rfl⟩ := List.mem_map.1 hu; rfl
theorem bcs_snoc (bs : List (List Int)) (b : List Int) : bs.flatMap bcs ++ bcs b = (bs ++ [b]).flatMap bcs := by rw [List.flatMap_append, List.flatMap_singleton]
theorem grown_refl (w : World) (row : Option Nat) : w.grownBy w row := ⟨rfl, rfl, rfl, Nat.le_refl _, fun _ _ _ => rfl⟩
def preR (L : List (Int × Int × Int)) (i n : Nat) : List Int := (List.range 256).map fun (j : Nat) => ofR (L.take n) ((i : Int) * 256 + (j : Int))
def midR (L : List (Int × Int × Int)) (i n : Nat) (lo hi tv r : Int) : List Int := (List.range 256).map fun (j : Nat) => if lo ≤ (i : Int) * 256 + (j : Int) ∧ (i : Int) * 256 + (j : Int) < r ∧ (i : Int) * 256 + (j : Int) ≤ hi then tv else ofR (L.take n) ((i : Int) * 256 + (j : Int))
theorem map_range_congr {f g : Nat → Int} (h : ∀ j, j < 256 → f j = g j) : (List.range 256).map f = (List.range 256).map g := List.map_congr_left (fun j hj => h j (List.mem_range.1 hj))
theorem preR_zero {L : List (Int × Int × Int)} {i k : Nat} (h : ∀ m y, m < k → L[m]? = some y → y.2.1 < (i : Int) * 256) : preR L i k = zerosR := by
 have e : zerosR = (List.range 256).map fun _ => 0 := by unfold zerosR; rw [List.map_const', List.length_range]
 rw [e]; refine map_range_congr fun j hj => ofR_none _ fun y hy => ?_
 obtain ⟨m, hm⟩ := List.mem_iff_getElem?.1 hy; rw [List.getElem?_take] at hm; split at hm
 ·have := h m y (by assumption) hm
  omega
 cases hm
theorem preR_len {L : List (Int × Int × Int)} {i n : Nat} (h : L.length = n) : preR L i n = rowR L i := by
 unfold preR rowR
 rw [List.take_of_length_le (by omega)]
theorem preR_stop {L : List (Int × Int × Int)} {i n : Nat} {most : Int} {y : Int × Int × Int} (hc : chkGo most (-1) L = true) (hy : L[n]? = some y) (h : (i : Int) * 256 + 255 < y.1) : preR L i n = rowR L i := by
 refine map_range_congr fun j hj => (ofR_stop _ fun m z hm hz => ?_).symm
 have h1 := chkGo_get hc m z hz; rcases Nat.eq_or_lt_of_le hm with e | e
 ·subst e
  rw [hy] at hz; obtain rfl := Option.some.inj hz
  omega
 have h2 := chkGo_lt hc n m y z e hy hz; have h3 := chkGo_get hc n y hy; omega
theorem midR_start {L : List (Int × Int × Int)} {i n : Nat} {lo hi tv r : Int} (h : r ≤ lo ∨ r ≤ (i : Int) * 256) : midR L i n lo hi tv r = preR L i n := map_range_congr fun j hj => if_neg (by omega)
theorem midR_end {L : List (Int × Int × Int)} {i n : Nat} {lo hi tv r : Int} (hy : L[n]? = some (lo, hi, tv)) (h : hi < r ∨ (i : Int) * 256 + 255 < r) : midR L i n lo hi tv r = preR L i (n + 1) :=
 map_range_congr fun j hj => by
  rw [ofR_take hy]; by_cases e : lo ≤ (i : Int) * 256 + (j : Int) ∧ (i : Int) * 256 + (j : Int) ≤ hi
  ·rw [if_pos ⟨e.1, by omega, e.2⟩, if_pos e]
  ·rw [if_neg (fun h => e ⟨h.1, h.2.2⟩), if_neg e]
theorem midR_set {L : List (Int × Int × Int)} {i n : Nat} {lo hi tv r : Int} (h1 : lo ≤ r) (h2 : (i : Int) * 256 ≤ r) (h3 : r ≤ hi) (h4 : r ≤ (i : Int) * 256 + 255) : (midR L i n lo hi tv r).set (r - (i : Int) * 256).toNat tv = midR L i n lo hi tv (r + 1) := by
 apply List.ext_getElem?
 intro j
 unfold midR
 rw [List.getElem?_set, List.length_map, List.length_range]; by_cases hj : j < 256
 rotate_left
 ·rw [List.getElem?_eq_none (l := List.map _ _) (by rw [List.length_map, List.length_range]; omega), List.getElem?_eq_none (l := List.map _ _) (by rw [List.length_map, List.length_range]; omega)]
  split
  ·split
   ·omega
   rfl
  rfl
 rw [List.getElem?_map, List.getElem?_map, List.getElem?_range hj]; simp only [Option.map_some]; by_cases e : (r - (i : Int) * 256).toNat = j
 ·rw [if_pos e, if_pos (by omega), if_pos (by omega)]
 rw [if_neg e]; congr 1
 by_cases e2 : lo ≤ (i : Int) * 256 + (j : Int) ∧ (i : Int) * 256 + (j : Int) < r ∧ (i : Int) * 256 + (j : Int) ≤ hi
 ·rw [if_pos e2, if_pos (by omega)]
 rw [if_neg e2, if_neg (by omega)]
theorem midR_len (L : List (Int × Int × Int)) (i n : Nat) (lo hi tv r : Int) : (midR L i n lo hi tv r).length = 256 := by unfold midR; rw [List.length_map, List.length_range]
theorem bcs_set (b : List Int) (q : Nat) (x : Int) : (bcs b).set q (.int .u8 x) = bcs (b.set q x) := by unfold bcs; rw [List.map_set]
theorem to_lt {a b : Int} (h : a < b) (h0 : 0 < b) : a.toNat < b.toNat := by omega
theorem rowR_byt {L : List (Int × Int × Int)} {most last : Int} (h : chkGo most last L = true) (i : Nat) : Byt (rowR L i) := ⟨rowR_len L i, fun c hc => by
 obtain ⟨j, _, rfl⟩ := List.mem_map.1 hc; exact ofR_byte h _⟩
theorem zerosR_byt : Byt zerosR := ⟨zerosR_len, fun c hc => by rw [List.eq_of_mem_replicate hc]; omega⟩
theorem prop_Make.guard (x y : Operand) (a b : Array Value) (w : World) : (eqGuard .eql 82 x y (.agg a) (.agg b)).run Try.prog w = .ok () w := by
 have h : Try.prog.eqGuardType Try.prog.depth 82 = false := by kernel_rfl
 unfold eqGuard
 simp [Sem.run_bind, h]
theorem prop_Make.eql (x y : Operand) {a b : List Int} (ha : Byt a) (hb : Byt b) (w : World) : (do eqGuard .eql 82 x y (bag a) (bag b); binOp .eql 82 (bag a) (bag b) : Sem Value).run Try.prog w = .ok (.bool (decide (a = b))) w := by
 rw [Sem.run_bind, show Sem.run Try.prog (eqGuard .eql 82 x y (bag a) (bag b)) w = .ok () w from prop_Make.guard ..]; show ((do pure (.bool (← Op.equal 82 (bag a) (bag b))) : Sem Value).run Try.prog w) = _
 rw [Sem.run_bind, prop_Make.eq_run w ha hb]; rfl
theorem zerosR_mem (L : List (Int × Int × Int)) (i : Nat) : zerosR ∈ blR L i := by
 obtain ⟨t, ht⟩ := blR_head L i; rw [ht]; simp
theorem ixR_skip {L : List (Int × Int × Int)} {i m : Nat} (hz : rowR L i = zerosR) : (if m < i then (ixR L m : Int) else 0) = if m < i + 1 then (ixR L m : Int) else 0 := by
 by_cases h : m < i
 ·rw [if_pos h, if_pos (by omega)]
 by_cases h2 : m = i
 ·subst h2
  rw [if_neg h, if_pos (by omega), ixR_zero hz]
  rfl
 rw [if_neg h, if_neg (by omega)]
theorem ixR_step {L : List (Int × Int × Int)} {i m : Nat} {x : Int} (hx : (ixR L i : Int) = x) : (if m = i then x else if m < i then (ixR L m : Int) else 0) = if m < i + 1 then (ixR L m : Int) else 0 := by
 by_cases h : m < i
 ·rw [if_neg (by omega), if_pos h, if_pos (by omega)]
 by_cases h2 : m = i
 ·subst h2
  rw [if_pos rfl, if_pos (by omega), hx]
 rw [if_neg h2, if_neg h, if_neg (by omega)]
theorem bag_size : (bag zerosR).cells.size = 256 := by
 show (bcs zerosR).toArray.size = 256
 rw [List.size_toArray, bcs_len, zerosR_len]
theorem flat_get : ∀ (bs : List (List Int)), (∀ b ∈ bs, b.length = 256) → ∀ (j q : Nat), j < bs.length → q < 256 → (bs.flatMap bcs)[j * 256 + q]? = some (.int .u8 ((bs.getD j []).getD q 0))
 | [], _, j, _, hj, _ => by simp at hj
 | b :: bs, h, j, q, hj, hq => by
  have hb := h b (by simp)
  rw [List.flatMap_cons]; cases j with
  | zero =>
   have hl : q < (bcs b).length := by rw [bcs_len, hb]; exact hq
   rw [Nat.zero_mul, Nat.zero_add, List.getElem?_append_left hl, List.getElem?_eq_getElem hl, bcs_get b q hl]; rfl
  | succ j =>
   rw [List.getElem?_append_right (by rw [bcs_len, hb]; omega), bcs_len, hb, show (j + 1) * 256 + q - 256 = j * 256 + q by omega, flat_get bs (fun b hb => h b (by simp [hb])) j q (by simpa using hj) hq]
   rfl
theorem PI.start {w w1 w2 : World} {zb : Array Value} {tc : Value → Array Value} {gt : Nat} (hzb : zb = (bcs zerosR).toArray) (htc : ∀ v, (tcs (fun _ => 0) v).toArray = tc v) (hb1 : Below w.heap.size w w1) (hgt : gt = (w1.alloc (.cells zb 82)).heap.size)
  (hc : w2.heap[gt]? = some (.cells (tc (.slice (some ⟨w1.heap.size, 0, none⟩) 1 1)) 79)) (hbt : Below (w1.alloc (.cells zb 82)).heap.size (w1.alloc (.cells zb 82)) w2) :
  PI w gt w2.heap.size (fun _ => 0) (.slice (some ⟨w1.heap.size, 0, none⟩) 1 1) (.slice (some ⟨w1.heap.size, 0, none⟩) 1 1) [zerosR] 0 (.map []) (w2.alloc (.map #[] 0)) := by
 have hb2 : Below w.heap.size w w2 := below_then (below_alloc hb1 _) (Nat.le_trans hb1.size (by simp)) hbt
 have hr : (w1.alloc (.cells zb 82)).ownsRow w.heap.size 82 256 (.slice (some ⟨w1.heap.size, 0, none⟩) 1 1) [zerosR].length ([zerosR].flatMap bcs) := by
  have := World.ownsRow_lit (base := w.heap.size) (e := 82) (size := 256) w1 zb 1 hb1.size (by decide) (by rw [hzb, List.size_toArray, bcs_len]; exact zerosR_len)
  rw [hzb] at this ⊢; simpa using this
 refine ⟨?_, (pw_own_below hr hbt).alloc _, World.ownsMap_made _ _ _ _, below_alloc hb2 _, by rw [hgt]; exact Nat.le_trans hb1.size (by simp), hb2.size⟩
 rw [htc]; exact (heap_alloc_old w2 (.map #[] 0) (Array.getElem?_eq_some_iff.1 hc).1).trans hc
theorem PI.done {w : World} {gt gm : Nat} {L : List (Int × Int × Int)} {v : Value} {D : DataW Unit} {W : World} {m : Int} (hm : chkGo m (-1) L = true) (h : PI w gt gm (fun m => if m < 4352 then (ixR L m : Int) else 0) v v (blR L 4352) 4352 D W) :
  ∃ (g1 : Nat) (o1 : Obj) (g2 : Nat) (o2 : Obj), (Ending.returned (.tuple #[.pointer (some ⟨gt, 0, none⟩), .int .i64 0])) = .returned (.tuple #[.pointer (some ⟨g1, 0, none⟩), .int .i64 0]) ∧ W.heap[g1]? = some o1 ∧ W.heap[g2]? = some o2 ∧ w.heap.size ≤ g1 ∧ w.heap.size ≤ g2 ∧ g1 ≠ g2 ∧ TabO (.pointer (some ⟨g1, 0, none⟩)) g1 o1 g2 o2 (some L) ∧ Below w.heap.size w W := by
 rcases h.row.2 with ⟨_, h0⟩ | ⟨g, cap, cur, rfl, hb, hg, hle, _, hsz, htake⟩
 ·have := blR_ne L 4352
  omega
 refine ⟨gt, _, g, _, rfl, h.tab, hg, h.gtb, hb, fun e => h.row_ne (by rw [e]; rfl), ⟨L, rfl, rfl, 79, 82, (0, 0), (0, 0), (tcs (fun m => if m < 4352 then (ixR L m : Int) else 0) (.slice (some ⟨g, 0, none⟩) (blR L 4352).length cap)).toArray, cur, cap, rfl, rfl, ?_, ?_, ?_, fun r => ofR_byte hm r⟩, h.bel⟩
 ·intro i hi
  rw [List.getElem?_toArray, tcs_get _ _ _ hi, if_pos hi]
 ·rw [List.getElem?_toArray, tcs_last]
 intro j q hj hq
 have h1 : (cur.toList.take ((blR L 4352).length * 256))[j * 256 + q]? = ((blR L 4352).flatMap bcs)[j * 256 + q]? := by rw [htake]
 have hlt : j * 256 + q < (blR L 4352).length * 256 := by
  have : (j + 1) * 256 ≤ (blR L 4352).length * 256 := Nat.mul_le_mul_right _ hj
  omega
 rw [List.getElem?_take, if_pos hlt, Array.getElem?_toList] at h1; rw [h1, flat_get (blR L 4352) (blR_256 L 4352) j q hj hq]
theorem prop_Make.at (l : List S45) (m : Nat) (h : m < l.length) : (l.map prop_Make.t)[m]? = some ((rd_T45 l (m : Int)).f0, (rd_T45 l (m : Int)).f1, (rd_T45 l (m : Int)).f2) := by
 unfold rd_T45
 rw [List.getElem?_map, List.getElem?_eq_getElem h, List.getD_eq_getElem?_getD, Int.toNat_natCast, List.getElem?_eq_getElem h]; rfl
set_option maxHeartbeats 400000 in
set_option maxRecDepth 100000 in
theorem prop_MakeY.calls (A0 : Option Addr) (c0 : Nat) (l0 : List S45) (a1 : Int) (r : Option (List (Int × Int × Int))) (w : World) (hr0 : Kd.C k45 w A0 l0.length l0) (hc0 : l0.length ≤ c0) (h : prop_MakeY.f l0 a1 = some r) :
  Calls Try.prog 14 #[.slice A0 l0.length c0, .int .i64 a1] w fun e w' => ∃ (g1 : Nat) (o1 : Obj) (g2 : Nat) (o2 : Obj), e = .returned (.tuple #[.pointer (some ⟨g1, 0, none⟩), .int .i64 0]) ∧ w'.heap[g1]? = some o1 ∧ w'.heap[g2]? = some o2 ∧ w.heap.size ≤ g1 ∧ w.heap.size ≤ g2 ∧ g1 ≠ g2 ∧ TabO (.pointer (some ⟨g1, 0, none⟩)) g1 o1 g2 o2 r ∧ Below w.heap.size w w' := by
 obtain ⟨k, hk⟩ := prop_Make.check l0 a1; have hf : prop_Make.c l0 a1 = true ∧ r = some (l0.map prop_Make.t) := by
  unfold prop_MakeY.f at h
  split at h
  ·exact ⟨by assumption, (Option.some.inj h).symm⟩
  ·cases h
 obtain ⟨hf, rfl⟩ := hf; rw [hf] at hk; have HF : zA (chkGo a1 (-1) (l0.map prop_Make.t) = true) := ⟨chkR_go hf⟩
 have HLEN : zA (l0.length ≤ 256) := ⟨by have := chkR_len hf; rwa [List.length_map] at this⟩
 clear h hf; obtain ⟨L, hL⟩ : ∃ L, L = l0.map prop_Make.t := ⟨_, rfl⟩; rw [← hL] at HF ⊢; have HL : zA (∀ m, m < l0.length → L[m]? = some ((rd_T45 l0 (m : Int)).f0, (rd_T45 l0 (m : Int)).f1, (rd_T45 l0 (m : Int)).f2)) := ⟨fun m hm => by rw [hL]; exact prop_Make.at l0 m hm⟩
 have HLL : zA (L.length = l0.length) := ⟨by rw [hL, List.length_map]⟩
 clear hL; have HR0 := zA.mk hr0; clear hr0; have hmm := @run_makeMap Try.prog; have hR1 := prop_Make.run_make; have hR2 := prop_Make.run_build; have hR3 := prop_Make.run_zv; have hR4 := prop_Make.run_zero; obtain ⟨zb, hzb⟩ : ∃ zb, zb = (bcs zerosR).toArray := ⟨_, rfl⟩; obtain ⟨tc, htc⟩ : ∃ tc : Value → Array Value, ∀ v, (tcs (fun _ => 0) v).toArray = tc v := ⟨_, fun _ => rfl⟩
 rw [show bag zerosR = .agg (bcs zerosR).toArray from rfl] at hR3; rw [← hzb] at hR1 hR3 hR4; replace hR2 : ∀ (a : Option Addr) (n c : Nat) (w : World), (Instr.build 79 #[(1, .slice a n c)]).run Try.prog w = .ok (.agg (tc (.slice a n c))) w := fun a n c w => by rw [← htc]; exact hR2 a n c w
 have HZB := zA.mk hzb; have HTC := zA.mk htc; clear hzb htc; go_enter Try.func14, Try.ntmps14
 go_wp2_with (first | (go_at_call 33; refine (prop_Check.calls k A0 c0 l0 a1 true w HR0.out hc0 hk).mono ?_; rintro e w1 ⟨rfl, hb1⟩) | ((with_reducible refine gate_dst (N := 21) rfl ?_); refine Kd.event_run rfl (v := .slice (some ⟨w1.heap.size, 0, none⟩) 1 1) (w1 := w1.alloc (.cells zb 82)) ?hr1 ?_; (case hr1 => show (Sem.run Try.prog (do pure (Next.value (← Instr.makeSlice 76 (.int .i64 1) (.int .i64 1)))) _) = _; rw [Sem.run_bind, hR1]; rfl)) | ((with_reducible refine gate_dst (N := 22) rfl ?_); refine Kd.event_run rfl (v := .agg (tc (.slice (some ⟨w1.heap.size, 0, none⟩) 1 1))) (w1 := w1.alloc (.cells zb 82)) ?hr2 ?_; (case hr2 => simp only [execOp, List.map_toArray, List.map_cons, List.map_nil, Sem.run_bind]; rw [show Act.eval _ (Operand.tmp 21) = Value.slice (some ⟨w1.heap.size, 0, none⟩) 1 1 from rfl, hR2]; rfl)) | ((with_reducible refine gate_dst (N := 23) rfl ?_); refine box_event rfl (N := 23) rfl (cs := tc (.slice (some ⟨w1.heap.size, 0, none⟩) 1 1)) (t := 79) ?hr3 ?_; (case hr3 => first | (go_simp; done) | (go_simp; rfl)); intro gt hgt w2 hgt2 hbt; have HP := zA.mk (PI.start HZB.out HTC.out hb1 hgt hgt2 hbt); clear hgt hgt2 hbt hb1))
 clear hR1 hR2 hmm HTC hk hc0; generalize w2.alloc (Obj.map #[] 0) = W0 at HP ⊢
 generalize w2.heap.size = gm at HP ⊢
 go_loopw [8, 25] (fun v8 v25 wr => ∃ (i k : Nat) (v : Value) (D : DataW Unit), v25 = .int .i64 (i : Int) ∧ v8 = .int .i64 (k : Int) ∧ i ≤ 4352 ∧ k ≤ l0.length ∧ zA (∀ m y, m < k → L[m]? = some y → y.2.1 < (i : Int) * 256) ∧ zA (PI w gt gm (fun m => if m < i then (ixR L m : Int) else 0) v v (blR L i) i D wr) ∧ zA (SeenR Try.prog 82 D (blR L i))) (fun _ v25 _ => 4352 - (intOf v25).toNat)
 case atStart => exact ⟨0, 0, _, _, rfl, rfl, by omega, by omega, ⟨fun m _ hm => by omega⟩, HP, ⟨SeenR.start⟩⟩
 obtain ⟨i, k, v, D, rfl, rfl, hi, hk, HK, HP2, HS⟩ := hrel; clear HP; by_cases hlt : i < 4352
 rotate_left
 ·obtain rfl : i = 4352 := by omega
  go_wp2
  go_ret2
  exact PI.done HF.out HP2.out
 have bi : decide ((i : Int) < 4352) = true := decide_eq_true (by omega)
 go_upto_block 2 with (first | ((with_reducible refine gate_dst (N := 12) rfl ?_); refine box_event rfl (N := 12) rfl (cs := zb) (t := 82) ?hr4 ?_; (case hr4 => first | (go_simp; done) | (go_simp; rfl)); intro gb hgb w3 hgb2 hb3; have HP3 := zA.mk (HP2.out.fresh (grown_of_below hb3 (some gb)) (by rw [hgb]; exact Nat.le_refl _)); have HGB := zA.mk hgb2; have HNB := zA.mk (show gb ≠ gt ∧ gb ≠ gm ∧ v.ownBlock ≠ some gb ∧ w.heap.size ≤ gb from ⟨fun e => by have := HP2.out.gt_lt; omega, fun e => by have := HP2.out.gm_lt; omega, fun e => by have := own_lt HP2.out.row _ e; omega, by rw [hgb]; exact HP2.out.bel.size⟩); clear hgb hgb2 hb3 HP2))
 (try simp only [Act.put, sA_, sB_, sC_])
 go_cut [8] (fun v8 wc => ∃ k : Nat, v8 = .int .i64 (k : Int) ∧ k ≤ l0.length ∧ zA (∀ m y, m < k → L[m]? = some y → y.2.1 < (i : Int) * 256) ∧ w3 = wc)
 case first =>
  go_wp2
  go_loop [8] (fun v8 => ∃ k : Nat, v8 = .int .i64 (k : Int) ∧ k ≤ l0.length ∧ zA (∀ m y, m < k → L[m]? = some y → y.2.1 < (i : Int) * 256)) (fun v8 => l0.length - (intOf v8).toNat)
  case atStart => exact ⟨k, rfl, hk, HK⟩
  clear hk HK; obtain ⟨k, rfl, hk, HK⟩ := hrel; by_cases hkl : k < l0.length
  rotate_left
  ·go_wp2
   go_meet
   case rel => exact ⟨k, rfl, hk, HK, rfl⟩
  obtain ⟨ad, rfl, x0, x1, x2⟩ := at_T45 (Kd.zM HR0.out HP3.out.bel) (k : Int) (by omega) (by omega)
  have hLk := zA.mk (HL.out k hkl); simp only [Int.toNat_natCast] at x0 x1 x2; generalize rd_T45 l0 (k : Int) = y at x0 x1 x2 hLk
  clear x0 x2; have hlen := HLEN.out; have b1 : decide ((k : Int) < (l0.length : Int)) = true := decide_eq_true (by omega)
  by_cases hh : y.f1 < (i : Int) * 256
  rotate_left
  ·have b2 : decide (y.f1 < (i : Int) * 256) = false := decide_eq_false hh
   go_wp2
   go_meet
   case rel => exact ⟨k, rfl, hk, HK, rfl⟩
  have b2 : decide (y.f1 < (i : Int) * 256) = true := decide_eq_true hh
  go_wp2
  go_round
  case rel => exact ⟨k + 1, by go_num, by omega, ⟨fun m z hm hz => by
   rcases Nat.lt_or_ge m k with h1 | h1
   ·exact HK.out m z h1 hz
   ·obtain rfl : m = k := by omega
    rw [hLk.out] at hz; obtain rfl := Option.some.inj hz
    exact hh⟩⟩
  case measure => simp [intOf]; omega
 clear hk HK; obtain ⟨k, rfl, hk, HK, rfl⟩ := hcut; go_upto_block 4 with (fail)
 (try simp only [Act.put, sA_, sB_, sC_])
 go_cut [] (fun wc => zA (w3.grownBy wc (some gb)) ∧ zA (wc.heap[gb]? = some (.cells (bcs (rowR L i)).toArray 82)))
 case first =>
  go_wp2
  go_loopw [13] (fun v13 wr => ∃ n : Nat, v13 = .int .i64 (n : Int) ∧ k ≤ n ∧ n ≤ l0.length ∧ zA (w3.grownBy wr (some gb)) ∧ zA (wr.heap[gb]? = some (.cells (bcs (preR L i n)).toArray 82))) (fun v13 _ => l0.length - (intOf v13).toNat)
  case atStart => exact ⟨k, rfl, Nat.le_refl _, hk, ⟨grown_refl _ _⟩, ⟨by rw [preR_zero HK.out, ← HZB.out]; exact HGB.out⟩⟩
  obtain ⟨n, rfl, hkn, hn, HG, HB⟩ := hrel; have HBL := zA.mk (pw_below_grown HP3.out.bel (some gb) HP3.out.bel.size HG.out (fun q e => by obtain rfl := Option.some.inj e; exact HNB.out.2.2.2))
  by_cases hnl : n < l0.length
  rotate_left
  ·obtain rfl : n = l0.length := by omega
   go_wp2
   go_meet
   case rel => exact ⟨HG, ⟨by rw [← preR_len HLL.out]; exact HB.out⟩⟩
  obtain ⟨ad, rfl, x0, x1, x2⟩ := at_T45 (Kd.zM HR0.out HBL.out) (n : Int) (by omega) (by omega)
  have hLn := zA.mk (HL.out n hnl); simp only [Int.toNat_natCast] at x0 x1 x2; have hch := chkGo_get HF.out n _ hLn.out; obtain ⟨y, hy⟩ : ∃ y, rd_T45 l0 (n : Int) = y := ⟨_, rfl⟩; rw [hy] at x0 x1 x2 hLn hch; have HY := zA.mk hy; clear hy; simp only at hch
  obtain ⟨hc1, hc2, hc3, hc4, _, hc5⟩ := hch; have hlen := HLEN.out; have b1 : decide ((n : Int) < (l0.length : Int)) = true := decide_eq_true (by omega)
  by_cases hh : y.f0 ≤ (i : Int) * 256 + 255
  rotate_left
  ·have b2 : decide (y.f0 ≤ (i : Int) * 256 + 255) = false := decide_eq_false hh
   clear x1 x2; go_wp2
   go_meet
   case rel => exact ⟨HG, ⟨by rw [← preR_stop HF.out hLn.out (by omega)]; exact HB.out⟩⟩
  have b2 : decide (y.f0 ≤ (i : Int) * 256 + 255) = true := decide_eq_true hh
  go_upto_block 5 with (fail)
  (try simp only [Act.put, sA_, sB_, sC_])
  go_cut [] (fun wc => zA (w3.grownBy wc (some gb)) ∧ zA (wc.heap[gb]? = some (.cells (bcs (preR L i (n + 1))).toArray 82)))
  case first =>
   obtain ⟨r0, hr0⟩ : ∃ r0, (if y.f0 < (i : Int) * 256 then (i : Int) * 256 else y.f0) = r0 := ⟨_, rfl⟩; go_wp2
   have hr1 : y.f0 ≤ r0 ∧ (i : Int) * 256 ≤ r0 ∧ (r0 ≤ y.f0 ∨ r0 ≤ (i : Int) * 256) ∧ r0 ≤ 1114112 := by rw [← hr0]; split <;> omega
   clear hr0 b1 b2 x0 x1 x2; obtain ⟨wo, rfl⟩ : ∃ wo : World, wo = wr := ⟨_, rfl⟩; go_loopw [14] (fun v14 wq => ∃ r : Int, v14 = .int .i32 r ∧ y.f0 ≤ r ∧ (i : Int) * 256 ≤ r ∧ r ≤ 1114112 ∧ zA (w3.grownBy wq (some gb)) ∧ zA (wq.heap[gb]? = some (.cells (bcs (midR L i n y.f0 y.f1 y.f2 r)).toArray 82))) (fun v14 _ => (1114112 - intOf v14).toNat)
   case atStart => exact ⟨r0, rfl, hr1.1, hr1.2.1, hr1.2.2.2, HG, ⟨by rw [midR_start hr1.2.2.1]; exact HB.out⟩⟩
   clear HG HB HBL hr1; obtain ⟨r, rfl, hr1, hr2, hr3, HG, HB⟩ := hrel; obtain ⟨m, rfl⟩ := Int.eq_ofNat_of_zero_le (show 0 ≤ r by omega)
   have HBL := zA.mk (pw_below_grown HP3.out.bel (some gb) HP3.out.bel.size HG.out (fun q e => by obtain rfl := Option.some.inj e; exact HNB.out.2.2.2))
   obtain ⟨ad', e', x0, x1, x2⟩ := at_T45 (Kd.zM HR0.out HBL.out) (n : Int) (by omega) (by omega)
   obtain rfl : ad = ad' := by injection e'
   simp only [Int.toNat_natCast] at x0 x1 x2; rw [HY.out] at x0 x1 x2; clear x0 e'; have b1 : decide ((n : Int) < (l0.length : Int)) = true := decide_eq_true (by omega)
   by_cases hq : (m : Int) ≤ y.f1 ∧ (m : Int) ≤ (i : Int) * 256 + 255
   rotate_left
   ·obtain ⟨mn, hmn⟩ : ∃ mn, (if (i : Int) * 256 + 255 < y.f1 then (i : Int) * 256 + 255 else y.f1) = mn := ⟨_, rfl⟩
    have hm2 : decide ((m : Int) ≤ mn) = false := decide_eq_false (by rw [← hmn]; split <;> omega)
    go_wp2
    go_meet
    case rel => exact ⟨HG, ⟨by rw [← midR_end hLn.out (show y.f1 < (m : Int) ∨ (i : Int) * 256 + 255 < (m : Int) by omega)]; exact HB.out⟩⟩
   obtain ⟨mn, hmn⟩ : ∃ mn, (if (i : Int) * 256 + 255 < y.f1 then (i : Int) * 256 + 255 else y.f1) = mn := ⟨_, rfl⟩; have hm2 : decide ((m : Int) ≤ mn) = true := decide_eq_true (by rw [← hmn]; split <;> omega)
   obtain ⟨q, hqq⟩ : ∃ q, q = m % 256 := ⟨_, rfl⟩; have hand := i32_and255 m (by omega)
   rw [← hqq] at hand; have hq1 : (q : Int) < 256 := by omega
   have hq3 : q = ((m : Int) - (i : Int) * 256).toNat := by omega
   clear hqq; have HC := zA.mk hq3; clear hq3; have hfz : wr.frozen? ⟨gb, q, none⟩ = false := frozen_of_row wr gb q _ 82 HB.out
   have hcc : wr.cell? ⟨gb, q, none⟩ = some (.int .u8 ((midR L i n y.f0 y.f1 y.f2 (m : Int)).getD q 0)) := by
    rw [cell_of_row wr gb q _ 82 _ HB.out, List.getElem?_toArray, List.getElem?_eq_getElem (by rw [bcs_len, midR_len]; omega), bcs_get]
   generalize (midR L i n y.f0 y.f1 y.f2 (m : Int)).getD q 0 = old at hcc
   go_wp2
   go_roundw
   case rel => exact ⟨(m : Int) + 1, by go_num, by omega, by omega, by omega, ⟨HG.out.trans (grown_setCell wr ⟨gb, q, none⟩ _)⟩, ⟨(heap_setCell_same wr gb q _ 82 _ HB.out).trans (by rw [List.setIfInBounds_toArray, bcs_set, HC.out, midR_set (by omega) (by omega) (by omega) (by omega)])⟩⟩
   case measure => exact to_lt (show (1114112 : Int) - ((m : Int) + 1) < 1114112 - (m : Int) by omega) (show (0 : Int) < 1114112 - (m : Int) by omega)
  clear HG HB HBL; obtain ⟨HG, HB⟩ := hcut; go_wp2
  go_roundw
  case rel => exact ⟨n + 1, by go_num, by omega, by omega, HG, HB⟩
  case measure => simp [intOf]; omega
 obtain ⟨HG, HB⟩ := hcut; have HP4 := zA.mk (HP3.out.grown HG.out HNB.out.1 HNB.out.2.1 HNB.out.2.2.1 HNB.out.2.2.2); clear HG HP3 HGB; have HBY : zA (Byt (rowR L i)) := ⟨rowR_byt HF.out i⟩
 obtain ⟨kl, hkl⟩ := prop_Make.hkey HBY.out; obtain ⟨cb, hcb⟩ : ∃ cb, cb = (bcs (rowR L i)).toArray := ⟨_, rfl⟩; rw [show bag (rowR L i) = .agg (bcs (rowR L i)).toArray from rfl, ← hcb] at hkl; rw [← hcb] at HB; have HSZ : zA ((Try.prog.info? 82).map (·.size) = some cb.size) := ⟨by rw [hcb, List.size_toArray, bcs_len, rowR_len]; kernel_rfl⟩
 have HCB := zA.mk hcb; have HKL := zA.mk hkl; clear hcb hkl; by_cases hz : rowR L i = zerosR
 ·have HZ := zA.mk hz
  clear hz; go_wp2_with (first | ((with_reducible refine gate_dst (N := 93) rfl ?_); refine wpList_load_row rfl 82 (.tmp 12) rfl gb rfl 82 cb (0, 0) (.array 256 5) HB.out Try.underlying82 rfl HSZ.out ?_) | ((with_reducible refine gate_dst (N := 95) rfl ?_); refine Kd.event_run rfl (v := .bool true) (w1 := wc) ?he ?_; (case he => have e1 := prop_Make.eql (.tmp 93) (.tmp 94) HBY.out zerosR_byt wc; rw [show bag (rowR L i) = .agg (bcs (rowR L i)).toArray from rfl, ← HCB.out, show bag zerosR = .agg (bcs zerosR).toArray from rfl, ← HZB.out, decide_eq_true HZ.out] at e1; simp only [execOp]; exact (show Sem.run Try.prog (do let r_ ← (do eqGuard .eql 82 (.tmp 93) (.tmp 94) (.agg cb) (.agg zb); binOp .eql 82 (.agg cb) (.agg zb)); pure (Next.value r_)) wc = _ from by rw [Sem.run_bind, e1]; rfl))))
  go_roundw
  case rel => exact ⟨i + 1, k, v, D, by go_num, rfl, by omega, hk, ⟨fun m y hm hy => by have := HK.out m y hm hy; omega⟩, ⟨by rw [blR_old (by rw [HZ.out]; exact zerosR_mem L i)]; exact (HP4.out.more (Nat.le_succ i)).ext (fun m hm => ixR_skip HZ.out)⟩, ⟨by rw [blR_old (by rw [HZ.out]; exact zerosR_mem L i)]; exact HS.out⟩⟩
  case measure => simp [intOf]; omega
 have HZ := zA.mk hz; clear hz; obtain ⟨hh1, hh2⟩ := HS.out (rowR L i) kl HBY.out (by rw [show bag (rowR L i) = .agg (bcs (rowR L i)).toArray from rfl, ← HCB.out]; exact HKL.out)
 have HHA := zA.mk hh1; have HHB := zA.mk hh2; clear hh1 hh2; by_cases hm : rowR L i ∈ blR L i
 ·have hha : Maps.has D kl = true := by rw [HHA.out, decide_eq_true ⟨hm, HZ.out⟩]
  have HM := zA.mk hm; clear hm; have hci : wc.cell? ⟨gt, i, none⟩ = some (.int .i64 0) := by rw [cell_of_row wc gt i _ 79 _ HP4.out.tab, List.getElem?_toArray, tcs_get _ _ _ hlt, if_neg (Nat.lt_irrefl _)]
  have hfi : wc.frozen? ⟨gt, i, none⟩ = false := frozen_of_row wc gt i _ 79 HP4.out.tab
  go_wp2_with (first | ((with_reducible refine gate_dst (N := 93) rfl ?_); refine wpList_load_row rfl 82 (.tmp 12) rfl gb rfl 82 cb (0, 0) (.array 256 5) HB.out Try.underlying82 rfl HSZ.out ?_) | ((with_reducible refine gate_dst (N := 95) rfl ?_); refine Kd.event_run rfl (v := .bool false) (w1 := wc) ?he ?_; (case he => have e1 := prop_Make.eql (.tmp 93) (.tmp 94) HBY.out zerosR_byt wc; rw [show bag (rowR L i) = .agg (bcs (rowR L i)).toArray from rfl, ← HCB.out, show bag zerosR = .agg (bcs zerosR).toArray from rfl, ← HZB.out, decide_eq_false HZ.out] at e1; simp only [execOp]; exact (show Sem.run Try.prog (do let r_ ← (do eqGuard .eql 82 (.tmp 93) (.tmp 94) (.agg cb) (.agg zb); binOp .eql 82 (.agg cb) (.agg zb)); pure (Next.value r_)) wc = _ from by rw [Sem.run_bind, e1]; rfl))) | ((with_reducible refine gate_dst (N := 98) rfl ?_); refine wpList_load_row rfl 82 (.tmp 12) rfl gb rfl 82 cb (0, 0) (.array 256 5) HB.out Try.underlying82 rfl HSZ.out ?_) | (at_lookup; refine wpList_lookup_own_ok_int _ rfl _ _ 80 rfl 82 3 .i64 prop_Make.law Try.underlying80 Try.underlying3 (prop_Make.zeroE _) gm i D rfl HP4.out.map (.agg cb) kl rfl HKL.out ?_; intro c hat hwc))
  have HCX := zA.mk (show (ixR L i : Int) = c by
   have h2 := (HHB.out HM.out HZ.out _).symm.trans hat; injection h2 with h2
   injection h2 with _ h2
   rw [ixR_old HM.out]; exact h2)
  clear hat hci hfi; go_roundw
  case rel => exact ⟨i + 1, k, v, D, by go_num, rfl, by omega, hk, ⟨fun m y hm hy => by have := HK.out m y hm hy; omega⟩, ⟨by rw [blR_old HM.out]; exact ((HP4.out.setf i hlt c).more (Nat.le_succ i)).ext (fun m hm => ixR_step HCX.out)⟩, ⟨by rw [blR_old HM.out]; exact HS.out⟩⟩
  case measure => simp [intOf]; omega
 have hha : Maps.has D kl = false := by rw [HHA.out, decide_eq_false (fun h => hm h.1)]
 have HM := zA.mk hm; clear hm; obtain ⟨g, cap, hv, hg1, hg2⟩ := HP4.out.row.form (blR_ne L i); subst hv; have hcv : wc.cell? ⟨gt, 4352, none⟩ = some (.slice (some ⟨g, 0, none⟩) (blR L i).length cap) := by rw [cell_of_row wc gt _ _ 79 _ HP4.out.tab, List.getElem?_toArray, tcs_last]
 have hfv : wc.frozen? ⟨gt, 4352, none⟩ = false := frozen_of_row wc gt _ _ 79 HP4.out.tab
 go_wp2_with (first | ((with_reducible refine gate_dst (N := 93) rfl ?_); refine wpList_load_row rfl 82 (.tmp 12) rfl gb rfl 82 cb (0, 0) (.array 256 5) HB.out Try.underlying82 rfl HSZ.out ?_) | ((with_reducible refine gate_dst (N := 95) rfl ?_); refine Kd.event_run rfl (v := .bool false) (w1 := wc) ?he ?_; (case he => have e1 := prop_Make.eql (.tmp 93) (.tmp 94) HBY.out zerosR_byt wc; rw [show bag (rowR L i) = .agg (bcs (rowR L i)).toArray from rfl, ← HCB.out, show bag zerosR = .agg (bcs zerosR).toArray from rfl, ← HZB.out, decide_eq_false HZ.out] at e1; simp only [execOp]; exact (show Sem.run Try.prog (do let r_ ← (do eqGuard .eql 82 (.tmp 93) (.tmp 94) (.agg cb) (.agg zb); binOp .eql 82 (.agg cb) (.agg zb)); pure (Next.value r_)) wc = _ from by rw [Sem.run_bind, e1]; rfl))) | ((with_reducible refine gate_dst (N := 98) rfl ?_); refine wpList_load_row rfl 82 (.tmp 12) rfl gb rfl 82 cb (0, 0) (.array 256 5) HB.out Try.underlying82 rfl HSZ.out ?_) | (at_lookup; refine wpList_lookup_own_ok_int _ rfl _ _ 80 rfl 82 3 .i64 prop_Make.law Try.underlying80 Try.underlying3 (prop_Make.zeroE _) gm i D rfl HP4.out.map (.agg cb) kl rfl HKL.out ?_; intro c hat hwc))
 have HN1 := zA.mk (show gb < wc.heap.size from (Array.getElem?_eq_some_iff.1 HB.out).1); refine start_ (n := 11) (S := fun w' => w'.cell? ⟨gt, 4352, none⟩ = some (.slice (some ⟨g, 0, none⟩) (blR L i).length cap) ∧ w'.heap[gb]? = some (.cells cb 82)) (ds := [7, 10]) #[false, false, false, false, false, false, false, false, false, false, false] (by kernel_rfl) rfl rfl ⟨hcv, HB.out⟩ (fun hHeld => ?_)
 have HP5 := zA.mk HP4.out.drew; have HB5 := zA.mk (show wc.drew.heap[gb]? = some (.cells cb 82) from HB.out); clear HP4 HB hcv hfv HN1; generalize wc.drew = wd at hHeld HP5 HB5 ⊢
 refine pure_ (i := 0) (N := some 109) (v := ?_) (a' := ?_) (tf_ 1 11) rfl rfl (by kernel_rfl) (fun _ _ _ h => h) (Or.inl ⟨by rfl, ?_⟩) ?_ ?_
 rotate_left
 ·intro w'
  go_simp
  with_reducible rfl
 rotate_left
 ·simp only [Act.put, sA_, sB_, sC_]
  rfl
 refine pure_ (i := 1) (N := some 110) (v := ?_) (a' := ?_) (tf_ 2 11) rfl rfl (by kernel_rfl) (fun _ _ _ h => h) (Or.inl ⟨by rfl, ?_⟩) ?_ ?_
 rotate_left
 ·intro w'
  go_simp
  with_reducible rfl
 rotate_left
 ·simp only [Act.put, sA_, sB_, sC_]
  rfl
 refine pure_ (i := 2) (N := some 111) (v := ?_) (a' := ?_) (tf_ 3 11) rfl rfl (by kernel_rfl) (fun _ _ _ h => h) (Or.inl ⟨by rfl, ?_⟩) ?_ ?_
 rotate_left
 ·intro w'
  go_simp
  with_reducible rfl
 rotate_left
 ·simp only [Act.put, sA_, sB_, sC_]
  rfl
 refine pure_ (i := 3) (N := some 112) (v := ?_) (a' := ?_) (tf_ 4 11) rfl rfl (by kernel_rfl) (fun _ _ _ h => h) (Or.inl ⟨by rfl, ?_⟩) ?_ ?_
 rotate_left
 ·intro w'
  go_simp
  with_reducible rfl
 rotate_left
 ·simp only [Act.put, sA_, sB_, sC_]
  rfl
 refine take_ (i := 4) (N := some 113) (v := ?_) (a' := ?_) (tf_ 5 11) rfl rfl (by kernel_rfl) (fun _ _ _ h => h) (Or.inl ⟨by rfl, ?_⟩) hHeld ?_ ?_
 rotate_left
 ·rintro w' ⟨s0, s1⟩
  go_simp
  with_reducible rfl
 rotate_left
 ·simp only [Act.put, sA_, sB_, sC_]
  rfl
 refine take_ (i := 5) (N := some 114) (v := .agg cb) (a' := ?_) (tf_ 6 11) rfl rfl (by kernel_rfl) (fun _ _ _ h => h) (Or.inl ⟨by rfl, ?_⟩) hHeld ?_ ?_
 ·rintro w' ⟨s0, s1⟩
  exact load_run 82 (.tmp 12) rfl gb rfl 82 cb (0, 0) (.array 256 5) s1 Try.underlying82 rfl HSZ.out
 rotate_left
 ·simp only [Act.put, sA_, sB_, sC_]
  rfl
 refine one_ (i := 6) (N := some 115) (tb_ 127 11) rfl rfl (by kernel_rfl) (by decide) (fun K hK => ?_)
 refine value_ (w1 := wd.alloc (.cells cb 82)) (v := .slice (some ⟨wd.heap.size, 0, none⟩) 1 1) (by rfl) rfl ?_ ?_
 ·have e1 := prop_Make.run_slice wd (rowR_len L i)
  rw [show bag (rowR L i) = .agg (bcs (rowR L i)).toArray from rfl, ← HCB.out] at e1; exact slice_run 76 (.tmp 114) rfl rfl e1
 refine hK.out _ _ ⟨(World.cell?_alloc_lt _ _ _ (World.block_lt_of_cell? _ _ hHeld.1)).trans hHeld.1, zB hHeld.2 _⟩ (fun hHeld => ?_)
 clear hK K; refine norm_ (a' := ?_) ?_ ?_
 rotate_left
 ·show Act.put _ (some 115) _ = _
  simp only [Act.put, sA_, sB_, sC_]; rfl
 refine last_ (i := 7) (N := some 116) (tb_ 255 11) rfl rfl (by kernel_rfl) (by decide) (fun K hK => ?_)
 refine step_append_cb HCB.out (w0 := w) w.heap.size (by rfl) (.tmp 113) (.tmp 115) 76 82 (bag zerosR) 256 256 rfl Try.underlying76 prop_Make.infoB bag_size (by decide) (by decide) (.slice (some ⟨g, 0, none⟩) (blR L i).length cap) (blR L i).length _ rfl rfl (by rw [bcs_len, rowR_len]) (bcs_one _) HP5.out.row HP5.out.bel HP5.out.bel.size (by have := blR_len L i; omega) ?_
 intro vn w5 hown hbn hgn _
 rw [bcs_snoc, show (blR L i).length + 1 = (blR L i ++ [rowR L i]).length by rw [List.length_append]; rfl] at hown
 have HP6 := zA.mk (HP5.out.append hgn hown); have HB6 := zA.mk ((hgn.block gb (Array.getElem?_eq_some_iff.1 HB5.out).1 (fun e => HNB.out.2.2.1 e.symm)).trans HB5.out)
 obtain ⟨g5, cap5, hv5, _, _⟩ := HP6.out.row.form (by rw [List.length_append]; exact Nat.succ_pos _)
 subst hv5; have hcv5 : w5.cell? ⟨gt, 4352, none⟩ = some (.slice (some ⟨g, 0, none⟩) (blR L i).length cap) := by rw [cell_of_row w5 gt _ _ 79 _ HP6.out.tab, List.getElem?_toArray, tcs_last]
 have hfv5 : w5.frozen? ⟨gt, 4352, none⟩ = false := frozen_of_row w5 gt _ _ 79 HP6.out.tab
 clear hown hbn hgn HP5 HB5 hHeld; refine hK.out _ _ ?_
 clear hK K; refine norm_ (a' := ?_) ?_ ?_
 rotate_left
 ·show Act.put _ (some 116) _ = _
  simp only [Act.put, sA_, sB_, sC_]; rfl
 refine pure_ (i := 8) (N := some 117) (v := ?_) (a' := ?_) (tf_ 9 11) rfl rfl (by kernel_rfl) (fun _ _ _ h => h) (Or.inl ⟨by rfl, ?_⟩) ?_ ?_
 rotate_left
 ·intro w'
  go_simp
  with_reducible rfl
 rotate_left
 ·simp only [Act.put, sA_, sB_, sC_]
  rfl
 refine pure_ (i := 9) (N := some 118) (v := ?_) (a' := ?_) (tf_ 10 11) rfl rfl (by kernel_rfl) (fun _ _ _ h => h) (Or.inl ⟨by rfl, ?_⟩) ?_ ?_
 rotate_left
 ·intro w'
  go_simp
  with_reducible rfl
 rotate_left
 ·simp only [Act.put, sA_, sB_, sC_]
  rfl
 refine last_ (i := 10) (N := none) (tb_ 2047 11) rfl rfl (by kernel_rfl) (by decide) (fun K hK => ?_)
 refine skip_ (w1 := w5.setCell ⟨gt, 4352, none⟩ (.slice (some ⟨g5, 0, none⟩) (blR L i ++ [rowR L i]).length cap5)) (by rfl) rfl ?_ ?_
 ·first | (go_simp; done) | (go_simp; rfl)
 refine hK.out _ _ ?_
 clear hK K; refine done_ (by kernel_rfl) ?_
 have HP7 := zA.mk HP6.out.setv; have HB7 := zA.mk ((heap_setCell_other w5 ⟨gt, 4352, none⟩ gb (.slice (some ⟨g5, 0, none⟩) (blR L i ++ [rowR L i]).length cap5) HNB.out.1).trans HB6.out); clear HP6 HB6 hcv5 hfv5; generalize w5.setCell ⟨gt, 4352, none⟩ (.slice (some ⟨g5, 0, none⟩) (blR L i ++ [rowR L i]).length cap5) = w6 at HP7 HB7 ⊢
 go_wp2_with (first | ((with_reducible refine gate_dst (N := 120) rfl ?_); refine wpList_load_row rfl 82 (.tmp 12) rfl gb rfl 82 cb (0, 0) (.array 256 5) HB7.out Try.underlying82 rfl HSZ.out ?_) | (at_mapUpdate; refine wpList_mapUpdate_own _ rfl _ _ _ 80 rfl 82 3 prop_Make.law Try.underlying80 _ gm i D rfl HP7.out.map (by unfold maxLen; omega) (.agg cb) (.int .i64 ((blR L i).length : Int)) kl rfl rfl HKL.out (.lit (.int .i64 ((blR L i).length : Int))) [] (plainElem_int Try.underlying3 (WalkArith.wf_i64 (by have := blR_len L i; omega))) ?_; intro w7 hown7 hgn7; have HP8 := zA.mk (HP7.out.put hgn7 hown7); have hci : w7.cell? ⟨gt, i, none⟩ = some (.int .i64 0) := (by rw [cell_of_row w7 gt i _ 79 _ HP8.out.tab, List.getElem?_toArray, tcs_get _ _ _ hlt, if_neg (Nat.lt_irrefl _)]); have hfi : w7.frozen? ⟨gt, i, none⟩ = false := frozen_of_row w7 gt i _ 79 HP8.out.tab; have HIM := zA.mk HP7.out.map.isMap; clear hown7 hgn7 HP7 HB7))
 clear hci hfi; go_roundw
 case rel => exact ⟨i + 1, k, _, _, by go_num, rfl, by omega, hk, ⟨fun m y hm hy => by have := HK.out m y hm hy; omega⟩, ⟨by rw [blR_new HM.out]; exact (HP8.out.setf i hlt ((blR L i).length : Int)).ext (fun m hm => ixR_step (by rw [ixR_new HM.out]))⟩, ⟨by rw [blR_new HM.out]; exact HS.out.put HIM.out (zerosR_mem L i) HBY.out (by rw [show bag (rowR L i) = .agg (bcs (rowR L i)).toArray from rfl, ← HCB.out]; exact HKL.out) HM.out⟩⟩
 case measure => simp [intOf]; omega
def h3_signs.f  : Option (List ByteArray) := some (([(⟨#[9]⟩ : ByteArray), (⟨#[10]⟩ : ByteArray), (⟨#[32]⟩ : ByteArray), (⟨#[45]⟩ : ByteArray), (⟨#[97]⟩ : ByteArray), (⟨#[98]⟩ : ByteArray), (⟨#[99]⟩ : ByteArray), (⟨#[195, 169]⟩ : ByteArray), (⟨#[204, 129]⟩ : ByteArray), (⟨#[226, 128, 141]⟩ : ByteArray), (⟨#[228, 184, 173]⟩ : ByteArray), (⟨#[240, 159, 152, 128]⟩ : ByteArray), (⟨#[255]⟩ : ByteArray), (⟨#[240, 159]⟩ : ByteArray)] : List ByteArray))
set_option maxHeartbeats 8000000 in
set_option maxRecDepth 100000 in
theorem h3_signs.calls  (r : List ByteArray) (w : World) (h : h3_signs.f  = some r) :
  Calls Try.prog 34 #[] w fun e w' => ∃ v0_ : Value, e = .returned (v0_) ∧ Kd.R Kd.string 9 w' w.heap.size (fun _ => True) v0_ r ∧ Below w.heap.size w w' := by
 have HB := zA.mk (Below.refl w.heap.size w); have H : (some (([(⟨#[9]⟩ : ByteArray), (⟨#[10]⟩ : ByteArray), (⟨#[32]⟩ : ByteArray), (⟨#[45]⟩ : ByteArray), (⟨#[97]⟩ : ByteArray), (⟨#[98]⟩ : ByteArray), (⟨#[99]⟩ : ByteArray), (⟨#[195, 169]⟩ : ByteArray), (⟨#[204, 129]⟩ : ByteArray), (⟨#[226, 128, 141]⟩ : ByteArray), (⟨#[228, 184, 173]⟩ : ByteArray), (⟨#[240, 159, 152, 128]⟩ : ByteArray), (⟨#[255]⟩ : ByteArray), (⟨#[240, 159]⟩ : ByteArray)] : List ByteArray))) = some r := h
 clear h; obtain ⟨y103, hy103⟩ : ∃ y_ : List ByteArray, y_ = (([(⟨#[9]⟩ : ByteArray), (⟨#[10]⟩ : ByteArray), (⟨#[32]⟩ : ByteArray), (⟨#[45]⟩ : ByteArray), (⟨#[97]⟩ : ByteArray), (⟨#[98]⟩ : ByteArray), (⟨#[99]⟩ : ByteArray), (⟨#[195, 169]⟩ : ByteArray), (⟨#[204, 129]⟩ : ByteArray), (⟨#[226, 128, 141]⟩ : ByteArray), (⟨#[228, 184, 173]⟩ : ByteArray), (⟨#[240, 159, 152, 128]⟩ : ByteArray), (⟨#[255]⟩ : ByteArray), (⟨#[240, 159]⟩ : ByteArray)] : List ByteArray)) := ⟨_, rfl⟩; replace H : (some y103) = some r := by first | (rw [hy103]; with_reducible exact H) | (have H2_ := (Option.bind_some _ _).symm.trans H; rw [hy103]; with_reducible exact H2_) | (have H2_ := (Option.bind_some _ _).symm.trans H; with_reducible exact H2_) | with_reducible exact H | (rw [hy103]; exact H) | exact H
 have Ny103 := zA.mk hy103; clear hy103; obtain rfl := Option.some.inj H
 go_enter Try.func34, Try.ntmps34
 go_wp2_with (first | ((with_reducible refine gate_dst (N := 1) rfl ?_); refine Kd.R_lit Kd.string _ 9 ?hg (N := 1) ?hd (xs := ([(⟨#[9]⟩ : ByteArray), (⟨#[10]⟩ : ByteArray), (⟨#[32]⟩ : ByteArray), (⟨#[45]⟩ : ByteArray), (⟨#[97]⟩ : ByteArray), (⟨#[98]⟩ : ByteArray), (⟨#[99]⟩ : ByteArray), (⟨#[195, 169]⟩ : ByteArray), (⟨#[204, 129]⟩ : ByteArray), (⟨#[226, 128, 141]⟩ : ByteArray), (⟨#[228, 184, 173]⟩ : ByteArray), (⟨#[240, 159, 152, 128]⟩ : ByteArray), (⟨#[255]⟩ : ByteArray), (⟨#[240, 159]⟩ : ByteArray)] : List ByteArray)) (inner := [.string (⟨#[9]⟩ : ByteArray), .string (⟨#[10]⟩ : ByteArray), .string (⟨#[32]⟩ : ByteArray), .string (⟨#[45]⟩ : ByteArray), .string (⟨#[97]⟩ : ByteArray), .string (⟨#[98]⟩ : ByteArray), .string (⟨#[99]⟩ : ByteArray), .string (⟨#[195, 169]⟩ : ByteArray), .string (⟨#[204, 129]⟩ : ByteArray), .string (⟨#[226, 128, 141]⟩ : ByteArray), .string (⟨#[228, 184, 173]⟩ : ByteArray), .string (⟨#[240, 159, 152, 128]⟩ : ByteArray), .string (⟨#[255]⟩ : ByteArray), .string (⟨#[240, 159]⟩ : ByteArray)]) (ok := fun _ => True) (okp := fun _ => True) ?hr ?hp (fun _ hk => hk) trivial (Below.refl _ _) (Nat.le_refl _) (by simp) ?_; (case hd => rfl); (case hg => rfl); (case hr => first | (go_simp; done) | (go_simp; rfl)); (case hp => exact (Reps.one (show Kd.M Kd.string _ _ _ (⟨#[9]⟩ : ByteArray) [.string (⟨#[9]⟩ : ByteArray)] from rfl) (Reps.one (show Kd.M Kd.string _ _ _ (⟨#[10]⟩ : ByteArray) [.string (⟨#[10]⟩ : ByteArray)] from rfl) (Reps.one (show Kd.M Kd.string _ _ _ (⟨#[32]⟩ : ByteArray) [.string (⟨#[32]⟩ : ByteArray)] from rfl) (Reps.one (show Kd.M Kd.string _ _ _ (⟨#[45]⟩ : ByteArray) [.string (⟨#[45]⟩ : ByteArray)] from rfl) (Reps.one (show Kd.M Kd.string _ _ _ (⟨#[97]⟩ : ByteArray) [.string (⟨#[97]⟩ : ByteArray)] from rfl) (Reps.one (show Kd.M Kd.string _ _ _ (⟨#[98]⟩ : ByteArray) [.string (⟨#[98]⟩ : ByteArray)] from rfl) (Reps.one (show Kd.M Kd.string _ _ _ (⟨#[99]⟩ : ByteArray) [.string (⟨#[99]⟩ : ByteArray)] from rfl) (Reps.one (show Kd.M Kd.string _ _ _ (⟨#[195, 169]⟩ : ByteArray) [.string (⟨#[195, 169]⟩ : ByteArray)] from rfl) (Reps.one (show Kd.M Kd.string _ _ _ (⟨#[204, 129]⟩ : ByteArray) [.string (⟨#[204, 129]⟩ : ByteArray)] from rfl) (Reps.one (show Kd.M Kd.string _ _ _ (⟨#[226, 128, 141]⟩ : ByteArray) [.string (⟨#[226, 128, 141]⟩ : ByteArray)] from rfl) (Reps.one (show Kd.M Kd.string _ _ _ (⟨#[228, 184, 173]⟩ : ByteArray) [.string (⟨#[228, 184, 173]⟩ : ByteArray)] from rfl) (Reps.one (show Kd.M Kd.string _ _ _ (⟨#[240, 159, 152, 128]⟩ : ByteArray) [.string (⟨#[240, 159, 152, 128]⟩ : ByteArray)] from rfl) (Reps.one (show Kd.M Kd.string _ _ _ (⟨#[255]⟩ : ByteArray) [.string (⟨#[255]⟩ : ByteArray)] from rfl) (Reps.one (show Kd.M Kd.string _ _ _ (⟨#[240, 159]⟩ : ByteArray) [.string (⟨#[240, 159]⟩ : ByteArray)] from rfl) (Reps.none _ _)))))))))))))))); intro v104 w1 ho2 hb hg_ hnew_; clear hg_ hnew_; (first | rw [← Ny103.out] at ho2 | (simp only [Int.reduceToNat] at ho2; rw [← Ny103.out] at ho2)); have HO105 := zA.mk (Kd.zR ho2 (below_size (aL HB))); replace HB := zA.mk (below_step (aL HB) hb); clear hb ho2))
 go_ret
 exact ⟨_, aX, aR HO105, aL HB⟩
def h3_Words.l0 : Nat → List Int → List Int → Int → Option (List Int)
 | 0, _, _, _ => none
 | k + 1, x0, x3, x4 => if x4 < (x0.length : Int) then ((h3_signs.f).bind fun t106 => (if 0 ≤ x4 then (if 0 ≤ (Int.tmod (wrap64 (rd x0 x4)) 14) then (if (Int.tmod (wrap64 (rd x0 x4)) 14) < (t106.length : Int) then (if x3.length + (rdOf ByteArray.empty t106 (Int.tmod (wrap64 (rd x0 x4)) 14)).size < 140737488355328 then (h3_Words.l0 k x0 (x3 ++ bytesOf (rdOf ByteArray.empty t106 (Int.tmod (wrap64 (rd x0 x4)) 14))) (wrap64 (x4 + 1))) else (none)) else (none)) else (none)) else (none))) else (some x3)
def h3_Words.f (k : Nat) (l0 : List Int) : Option (List Int) := h3_Words.l0 k l0 ([] : List Int) 0
theorem h3_Words.mono_l : ∀ k, (∀ y0 y1 y2, LeO (h3_Words.l0 k y0 y1 y2) (h3_Words.l0 (k + 1) y0 y1 y2))
 | 0 => fun _ _ _ r h => by simp [h3_Words.l0] at h
 | k + 1 => by
  have ih0 := h3_Words.mono_l k
  ·intro y0 y1 y2
   unfold h3_Words.l0
   repeat' (with_reducible first | exact ih0 _ _ _ | exact LeO.refl _ | exact LeO.none _ | refine LeO.ite ?_ ?_ | refine LeO.bind ?_ (fun _ => ?_))
theorem h3_Words.mono : ∀ a0 k, LeO (h3_Words.f k a0) (h3_Words.f (k + 1) a0) := by
 intro a0 k
 have ih0 := h3_Words.mono_l k; unfold h3_Words.f
 repeat' (with_reducible first | exact ih0 _ _ _ | exact LeO.refl _ | exact LeO.none _ | refine LeO.ite ?_ ?_ | refine LeO.bind ?_ (fun _ => ?_))
def h3_Words.T5 : Bool × List (List Nat × List Nat) := (true, [([], []), ([], []), ([], []), ([], []), ([2, 3], [2, 3]), ([4], [4]), ([5], [5]), ([6], [6]), ([1, 7], [1, 7]), ([8], [8]), ([0, 9, 1], [0, 9]), ([10, 10, 0, 1, 2, 3, 4, 5, 6, 7, 8, 9, 10], [0, 10])])
def h3_Words.B5 : List Nat := [0, 0, 0, 0, 12, 28, 60, 124, 254, 510, 1023, 2047]
theorem h3_Words.tab5 : rtab .any (opsOf Try.f15 5) = h3_Words.T5 := by kernel_rfl
theorem h3_Words.bits5 : waitsOk h3_Words.T5.2 h3_Words.B5 = true := by kernel_rfl
set_option maxHeartbeats 8000000 in
set_option maxRecDepth 100000 in
theorem h3_Words.calls (k : Nat) (A0 : Option Addr) (c0 : Nat) (l0 : List Int) (r : List Int) (w : World) (hr0 : Kd.C (Kd.int .u8) w A0 l0.length l0) (hc0 : l0.length ≤ c0) (h : h3_Words.f k l0 = some r) :
  Calls Try.prog 15 #[.slice A0 l0.length c0] w fun e w' => ∃ v0_ : Value, e = .returned (v0_) ∧ Kd.R (Kd.int .u8) 5 w' w.heap.size (fun _ => True) v0_ r ∧ Below w.heap.size w w' := by
 have HR0 := zA.mk hr0; have HC0 := zA.mk hc0; clear hr0 hc0; have HB := zA.mk (Below.refl w.heap.size w); have H : (h3_Words.l0 k l0 ([] : List Int) 0) = some r := h
 clear h; have H' := zA.mk H
 clear H; go_enter Try.func15, Try.ntmps15
 go_wp2
 go_loopg [3, 4] k (fun kq v3 v4 w' => ∃ (x3_1 : List Int) (x4_1 : Int), v4 = .int .i64 x4_1 ∧ zA (h3_Words.l0 kq l0 x3_1 x4_1 = some r) ∧ zA (kq ≤ k) ∧ zA (Kd.R (Kd.int .u8) 5 w' w.heap.size (fun _ => True) v3 x3_1) ∧ zA (Below w.heap.size w w'))
 case atStart => exact ⟨(([] : List Int)), (0), aZ, H', ⟨Nat.le_refl _⟩, ⟨by first | exact Kd.R_nil _ _ _ _ _ | exact Kd.N_nil _ _ _ _ _ | exact Kd.V_nil _ _ _ _ _ | exact Kd.Q_nil _ _ _ _ _ | exact Kd.S_nil _ _ _ _ _⟩, ⟨aL HB⟩⟩
 clear H'; obtain ⟨x3_1, x4_1, rfl, HA, HK1, HO_3, HB⟩ := hrel; cases gk with
 | zero => exact absurd HA.out (by simp [h3_Words.l0])
 | succ k1 =>
  have H := HA.out; clear HA; simp only [h3_Words.l0] at H; by_cases c2 : x4_1 < (l0.length : Int)
  rotate_left
  ·rw [if_neg c2] at H
   have c2b0 : decide (x4_1 < (l0.length : Int)) = false := decide_eq_false c2
   clear c2; obtain rfl := Option.some.inj H
   go_wp2
   go_ret
   exact ⟨_, aX, aR HO_3, aL HB⟩
  rw [if_pos c2] at H; have c2b0 : decide (x4_1 < (l0.length : Int)) = true := decide_eq_true c2
  clear c2; replace H := Option.bind_eq_some_iff.mp H; obtain ⟨t106, A30, H⟩ := H; replace H : (if 0 ≤ x4_1 then (if 0 ≤ (Int.tmod (wrap64 (rd l0 x4_1)) 14) then (if (Int.tmod (wrap64 (rd l0 x4_1)) 14) < (t106.length : Int) then (if x3_1.length + (rdOf ByteArray.empty t106 (Int.tmod (wrap64 (rd l0 x4_1)) 14)).size < 140737488355328 then (h3_Words.l0 k1 l0 (x3_1 ++ bytesOf (rdOf ByteArray.empty t106 (Int.tmod (wrap64 (rd l0 x4_1)) 14))) (wrap64 (x4_1 + 1))) else (none)) else (none)) else (none)) else (none)) = some r := H; have A3 := zA.mk A30; clear A30; by_cases c4 : 0 ≤ x4_1
  rotate_left
  ·rw [if_neg c4] at H
   exact absurd H (by simp)
  rw [if_pos c4] at H; have c4b0 : decide (0 ≤ x4_1) = true := decide_eq_true c4
  clear c4; obtain ⟨ji5, hji5⟩ : ∃ j_ : Int, (Int.tmod (wrap64 (rd l0 x4_1)) 14) = j_ := ⟨_, rfl⟩; replace H : (if 0 ≤ (ji5) then (if (ji5) < (t106.length : Int) then (if x3_1.length + (rdOf ByteArray.empty t106 (ji5)).size < 140737488355328 then (h3_Words.l0 k1 l0 (x3_1 ++ bytesOf (rdOf ByteArray.empty t106 (ji5))) (wrap64 (x4_1 + 1))) else (none)) else (none)) else (none)) = some r := by first | (rw [hji5] at H; exact H) | (simp only [hji5] at H ⊢; exact H)
  (try rw [hji5] at A3)
  by_cases c6 : 0 ≤ (ji5)
  rotate_left
  ·rw [if_neg c6] at H
   exact absurd H (by simp)
  rw [if_pos c6] at H; have c6b0 : decide (0 ≤ (ji5)) = true := decide_eq_true c6
  clear c6; by_cases c7 : (ji5) < (t106.length : Int)
  rotate_left
  ·rw [if_neg c7] at H
   exact absurd H (by simp)
  rw [if_pos c7] at H; have c7b0 : decide ((ji5) < (t106.length : Int)) = true := decide_eq_true c7
  clear c7; by_cases c8 : x3_1.length + (rdOf ByteArray.empty t106 (ji5)).size < 140737488355328
  rotate_left
  ·rw [if_neg c8] at H
   exact absurd H (by simp)
  rw [if_pos c8] at H; have LMc8 := zA.mk c8; clear c8; obtain ⟨y111, hy111⟩ : ∃ y_ : List Int, y_ = (x3_1 ++ bytesOf (rdOf ByteArray.empty t106 (ji5))) := ⟨_, rfl⟩; replace H : (h3_Words.l0 k1 l0 y111 (wrap64 (x4_1 + 1))) = some r := by first | (rw [hy111]; with_reducible exact H) | (have H2_ := (Option.bind_some _ _).symm.trans H; rw [hy111]; with_reducible exact H2_) | (have H2_ := (Option.bind_some _ _).symm.trans H; with_reducible exact H2_) | with_reducible exact H | (rw [hy111]; exact H) | exact H
  have Ny111 := zA.mk hy111; clear hy111; have H' := zA.mk H
  clear H; try go_wp2
  have pi110 : (0 ≤ ((ji5) : Int)) = True := eq_true (aD)
  have qi110 : ((ji5) < (t106.length : Int)) = True := eq_true (aD)
  replace HO_3 := zA.mk (Kd.zI HO_3.out); replace HB := zA.mk (below_drew1 HB.out); have p109 : 0 ≤ (x4_1 : Int) := aD
  have q109 : x4_1 < (l0.length : Int) := aD
  obtain ⟨ad109, e109, hx109_0⟩ := Kd.at_int HR0.out x4_1 p109 q109; have hw109_0 := hx109_0; cases e109
  replace hx109_0 := (HB.out.cell (World.block_lt_of_cell? w _ hx109_0)).trans hx109_0; replace p109 := eq_true p109; replace q109 := eq_true q109; refine start_ (n := 12) (S := fun w' => w'.cell? (ad109.add (x4_1).toNat) = some (.int .u8 (rd l0 x4_1))) (ds := []) #[false, false, false, false, false, false, false, false, false, false, false, false] (by kernel_rfl) rfl rfl (((HB.out.cell (World.block_lt_of_cell? w _ hw109_0)).trans hw109_0)) (fun hHeld => ?_); refine with_tabW h3_Words.tab5 h3_Words.bits5 (fun HT_ HW_ => ?_)
  generalize wr.drew = w9 at HO_3 HB hx109_0 hHeld ⊢
  refine aP 0 (some 11) (tf_ 1 12) HT_ ?_
  refine aP 2 (some 13) (tb_ 5 12) HT_ ?_
  refine aP 3 (some 14) (tb_ 13 12) HT_ ?_
  refine aP 4 (some 15) (tb_ 29 12) HT_ ?_
  refine take_ (i := 5) (N := some 16) (v := ?_) (a' := ?_) (tb_ 61 12) rfl rfl (take_ofW HT_.out HW_.out (by kernel_rfl)) (fun _ _ _ h => h) (Or.inl ⟨by rfl, ?_⟩) hHeld ?_ ?_
  rotate_left
  ·intro w' s0
   go_simp
   with_reducible rfl
  rotate_left
  ·simp only [Act.put, sA_, sB_, sC_, i64_w, i32_w]
   rfl
  refine aP 6 (some 17) (tb_ 125 12) HT_ ?_
  refine aP 7 (some 18) (tb_ 253 12) HT_ ?_
  refine one_ (i := 1) (N := some 12) (tb_ 255 12) rfl rfl (one_of HT_.out (by kernel_rfl)) (by decide) (fun K hK => ?_)
  refine goes_ Try.func34 (by kernel_rfl) rfl #[] (by rfl) rfl rfl aT ?_
  with_reducible refine (h3_signs.calls  t106 _ A3.out).mono ?_
  rintro e w10 ⟨v107, rfl, ho0, hb⟩
  refine ⟨_, rfl, ?_⟩
  replace HO_3 := zA.mk (Kd.zO (aR HO_3) hb); have HO108 := zA.mk (Kd.zR ho0 (below_size (aL HB))); replace HB := zA.mk (below_step (aL HB) hb); (try clear hb)
  (try clear hb2)
  (try clear hk)
  (try clear hi)
  (try clear ho0)
  obtain ⟨Ao11, co11, eo11⟩ := Kd.zQ HO108.out; subst eo11; obtain ⟨ado11, fo11, _⟩ := Kd.at_string (Kd.zN HO108.out).2.2 0 (by decide) (by have h1_ := of_eq_true pi110; have h2_ := of_eq_true qi110; omega)
  cases fo11
  refine hK.out _ _ (((HB.out.cell (World.block_lt_of_cell? w _ hw109_0)).trans hw109_0)) (fun hHeld => ?_)
  clear hK K; refine norm_ (a' := ?_) ?_ ?_
  rotate_left
  ·show Act.put _ (some 12) _ = _
   simp only [Act.put, sA_, sB_, sC_, i64_w, i32_w]; rfl
  refine aP 8 (some 19) (tf_ 9 12) HT_ ?_
  refine one_ (i := 9) (N := some 20) (tb_ 1023 12) rfl rfl (one_of HT_.out (by kernel_rfl)) (by decide) (fun K hK => ?_)
  (have p110 : 0 ≤ ((ji5) : Int) := aD; have q110 : (ji5) < (t106.length : Int) := aD; obtain ⟨ad110, e110, hx110_0⟩ := Kd.at_string (Kd.zN HO108.out).2.2 (ji5) p110 q110; obtain rfl : ado11 = ad110 := (by injection e110))
  refine value_ (w1 := ?_) (v := ?_) (by rfl) rfl ?_ ?_
  rotate_left 2
  ·go_simp
   constructor
   ·rfl
   rfl
  clear hx110_0; refine hK.out _ _ (((HB.out.cell (World.block_lt_of_cell? w _ hw109_0)).trans hw109_0)) (fun hHeld => ?_)
  clear hK K; refine norm_ (a' := ?_) ?_ ?_
  rotate_left
  ·show Act.put _ (some 20) _ = _
   simp only [Act.put, sA_, sB_, sC_, i64_w, i32_w]; rfl
  refine one_ (i := 10) (N := some 21) (tb_ 2047 12) rfl rfl (one_of HT_.out (by kernel_rfl)) (by decide) (fun K hK => ?_)
  refine print_append_str_step (w0 := w) w.heap.size (by rfl) (.tmp 11) _ 22 9 5 rfl Try.underlying22 Try.underlying9 info5 u3 x3_1 (rdOf ByteArray.empty t106 (ji5)) rfl rfl ?aO ?aB ?aS ?aL ?_
  (case aB => exact (aL HB))
  (case aO => exact (Kd.own_of_R (aR HO_3)))
  (case aS => exact (below_size (aL HB)))
  (case aL => have := LMc8.out; omega)
  intro v112 w12 ho0 hb hg
  have ho := Kd.R_of_own (h1 := fun _ => rfl) (ok := fun _ => True) ho0 (fun _ _ => trivial)
  clear ho0; have hat := True.intro; rw [← Ny111.out] at ho; change Kd.R (Kd.int .u8) 5 w12 w.heap.size (fun _ => True) v112 y111 at ho
  replace HO108 := zA.mk (Kd.R_over' (aR HO108) (Kd.R_typed (aR HO_3)) (by decide) hg)
  replace HB := zA.mk (hb); have HO113 := zA.mk (ho); clear HO_3; clear ho hb hg hat; refine hK.out _ _ (((HB.out.cell (World.block_lt_of_cell? w _ hw109_0)).trans hw109_0)) (fun hHeld => ?_)
  clear hK K; refine norm_ (a' := ?_) ?_ ?_
  rotate_left
  ·show Act.put _ (some 21) _ = _
   simp only [Act.put, sA_, sB_, sC_, i64_w, i32_w]; rfl
  refine aP 11 (some 3) (tb_ 4095 12) HT_ ?_
  refine done_ (done_of HT_.out (by kernel_rfl)) ?_
  try go_wp2
  go_roundg k1
  case measure => have := HK1.out; omega
  case rel => exact ⟨(y111), (wrap64 (x4_1 + 1)), aZ, H', ⟨by have := HK1.out; omega⟩, ⟨aR HO113⟩, ⟨aL HB⟩⟩
mutual
def stanzaref01_length.j0 : Nat → Int → Bool → Option (Int)
 | 0, _, _ => none
 | k + 1, x0, x6 => if x6 = true then (some 2) else (if x0 ≥ 224 then (stanzaref01_length.j1 k x0 (decide (x0 ≤ 239))) else (stanzaref01_length.j1 k x0 false))
def stanzaref01_length.j1 : Nat → Int → Bool → Option (Int)
 | 0, _, _ => none
 | k + 1, x0, x13 => if x13 = true then (some 3) else (if x0 ≥ 240 then (if x0 ≤ 244 then (some 4) else (some 0)) else (some 0))
end
def stanzaref01_length.f (k : Nat) (a0 : Int) : Option (Int) := if a0 < 128 then (some 1) else (if a0 ≥ 194 then (stanzaref01_length.j0 k a0 (decide (a0 ≤ 223))) else (stanzaref01_length.j0 k a0 false))
theorem stanzaref01_length.mono_l : ∀ k, (∀ y0 y1, LeO (stanzaref01_length.j0 k y0 y1) (stanzaref01_length.j0 (k + 1) y0 y1)) ∧ (∀ y0 y1, LeO (stanzaref01_length.j1 k y0 y1) (stanzaref01_length.j1 (k + 1) y0 y1))
 | 0 => ⟨fun _ _ r h => by simp [stanzaref01_length.j0] at h, fun _ _ r h => by simp [stanzaref01_length.j1] at h⟩
 | k + 1 => by
  obtain ⟨ih0, ih1⟩ := stanzaref01_length.mono_l k; refine ⟨?_, ?_⟩
  ·intro y0 y1
   unfold stanzaref01_length.j0
   repeat' (with_reducible first | exact ih0 _ _ | exact ih1 _ _ | exact LeO.refl _ | exact LeO.none _ | refine LeO.ite ?_ ?_ | refine LeO.bind ?_ (fun _ => ?_))
  ·intro y0 y1
   unfold stanzaref01_length.j1
   repeat' (with_reducible first | exact ih0 _ _ | exact ih1 _ _ | exact LeO.refl _ | exact LeO.none _ | refine LeO.ite ?_ ?_ | refine LeO.bind ?_ (fun _ => ?_))
theorem stanzaref01_length.mono : ∀ a0 k, LeO (stanzaref01_length.f k a0) (stanzaref01_length.f (k + 1) a0) := by
 intro a0 k
 obtain ⟨ih0, ih1⟩ := stanzaref01_length.mono_l k; unfold stanzaref01_length.f
 repeat' (with_reducible first | exact ih0 _ _ | exact ih1 _ _ | exact LeO.refl _ | exact LeO.none _ | refine LeO.ite ?_ ?_ | refine LeO.bind ?_ (fun _ => ?_))
set_option maxHeartbeats 8000000 in
set_option maxRecDepth 100000 in
theorem stanzaref01_length.calls (k : Nat) (a0 : Int) (r : Int) (w : World) (h : stanzaref01_length.f k a0 = some r) :
  Calls Try.prog 39 #[.int .u8 a0] w fun e w' => e = .returned (.int .i64 r) ∧ Drawn0 w w' := by
 have H : (if a0 < 128 then (some 1) else (if a0 ≥ 194 then (stanzaref01_length.j0 k a0 (decide (a0 ≤ 223))) else (stanzaref01_length.j0 k a0 false))) = some r := h
 clear h; by_cases c2 : a0 < 128
 ·rw [if_pos c2] at H
  have c2b0 : decide (a0 < 128) = true := decide_eq_true c2
  clear c2; obtain rfl := Option.some.inj H
  go_enter Try.func39, Try.ntmps39
  go_wp2
  go_ret
  exact ⟨by first | rfl | (simp; done) | (simp [*]; done), by repeat (first | exact Drawn0.refl _ | apply Drawn0.step)⟩
 rw [if_neg c2] at H; have c2b0 : decide (a0 < 128) = false := decide_eq_false c2
 clear c2; have HC3 := zA.mk H; clear H; go_enter Try.func39, Try.ntmps39
 go_upto_region 3 with (fail)
 go_cut [6] (fun v6 wc => ∃ (kq : Nat) (x6_2 : Bool), v6 = .bool x6_2 ∧ zA (stanzaref01_length.j0 kq a0 x6_2 = some r) ∧ zA (kq ≤ k) ∧ Drawn0 w wc)
 case first =>
  have H := HC3.out; clear HC3; by_cases c4 : a0 ≥ 194
  ·rw [if_pos c4] at H
   have c4b0 : decide (194 ≤ a0) = true := decide_eq_true c4
   clear c4; (first | rw [c4b0] | (simp only [i64_w, i32_w]; rw [c4b0]) | skip)
   have H' := zA.mk H
   clear H; go_wp2
   go_meet
   case rel => exact ⟨_, (decide (a0 ≤ 223)), aZ, H', ⟨by first | omega | exact Nat.le_refl _⟩, by repeat (first | exact Drawn0.refl _ | apply Drawn0.step)⟩
  rw [if_neg c4] at H; have c4b0 : decide (194 ≤ a0) = false := decide_eq_false c4
  clear c4; (first | rw [c4b0] | (simp only [i64_w, i32_w]; rw [c4b0]) | skip)
  have H' := zA.mk H
  clear H; go_wp2
  go_meet
  case rel => exact ⟨_, (false), aZ, H', ⟨by first | omega | exact Nat.le_refl _⟩, by repeat (first | exact Drawn0.refl _ | apply Drawn0.step)⟩
 clear HC3; obtain ⟨kq, x6_2, rfl, HA, HJ2, ⟨mc2, rfl⟩⟩ := hcut; cases kq with
 | zero => exact absurd HA.out (by simp [stanzaref01_length.j0])
 | succ kj2 =>
  have H := HA.out; clear HA; simp only [stanzaref01_length.j0] at H; by_cases c5 : x6_2 = true
  ·subst c5
   have H1 : (some 2) = some r := by rw [if_pos rfl] at H; exact H
   clear H; have H := H1; clear H1; obtain rfl := Option.some.inj H
   go_wp2
   go_ret
   exact ⟨by first | rfl | (simp; done) | (simp [*]; done), by repeat (first | exact Drawn0.refl _ | apply Drawn0.step)⟩
  replace c5 := Bool.eq_false_iff.mpr c5; subst c5; have H1 : (if a0 ≥ 224 then (stanzaref01_length.j1 kj2 a0 (decide (a0 ≤ 239))) else (stanzaref01_length.j1 kj2 a0 false)) = some r := by rw [if_neg (show ¬ (false = true) by decide)] at H; exact H
  clear H; have H := H1; clear H1; have HC6 := zA.mk H; clear H; go_upto_region 5 with (fail)
  go_cut [13] (fun v13 wc => ∃ (kq : Nat) (x13_5 : Bool), v13 = .bool x13_5 ∧ zA (stanzaref01_length.j1 kq a0 x13_5 = some r) ∧ zA (kq ≤ kj2) ∧ Drawn0 w wc)
  case first =>
   have H := HC6.out; clear HC6; by_cases c7 : a0 ≥ 224
   ·rw [if_pos c7] at H
    have c7b0 : decide (224 ≤ a0) = true := decide_eq_true c7
    clear c7; (first | rw [c7b0] | (simp only [i64_w, i32_w]; rw [c7b0]) | skip)
    have H' := zA.mk H
    clear H; go_wp2
    go_meet
    case rel => exact ⟨_, (decide (a0 ≤ 239)), aZ, H', ⟨by have := HJ2.out; first | omega | exact Nat.le_refl _⟩, by repeat (first | exact Drawn0.refl _ | apply Drawn0.step)⟩
   rw [if_neg c7] at H; have c7b0 : decide (224 ≤ a0) = false := decide_eq_false c7
   clear c7; (first | rw [c7b0] | (simp only [i64_w, i32_w]; rw [c7b0]) | skip)
   have H' := zA.mk H
   clear H; go_wp2
   go_meet
   case rel => exact ⟨_, (false), aZ, H', ⟨by have := HJ2.out; first | omega | exact Nat.le_refl _⟩, by repeat (first | exact Drawn0.refl _ | apply Drawn0.step)⟩
  clear HC6; obtain ⟨kq, x13_5, rfl, HA, HJ5, ⟨mc5, rfl⟩⟩ := hcut; cases kq with
  | zero => exact absurd HA.out (by simp [stanzaref01_length.j1])
  | succ kj5 =>
   have H := HA.out; clear HA; simp only [stanzaref01_length.j1] at H; by_cases c8 : x13_5 = true
   ·subst c8
    have H1 : (some 3) = some r := by rw [if_pos rfl] at H; exact H
    clear H; have H := H1; clear H1; obtain rfl := Option.some.inj H
    go_wp2
    go_ret
    exact ⟨by first | rfl | (simp; done) | (simp [*]; done), by repeat (first | exact Drawn0.refl _ | apply Drawn0.step)⟩
   replace c8 := Bool.eq_false_iff.mpr c8; subst c8; have H1 : (if a0 ≥ 240 then (if a0 ≤ 244 then (some 4) else (some 0)) else (some 0)) = some r := by rw [if_neg (show ¬ (false = true) by decide)] at H; exact H
   clear H; have H := H1; clear H1; by_cases c9 : a0 ≥ 240
   rotate_left
   ·rw [if_neg c9] at H
    have c9b0 : decide (240 ≤ a0) = false := decide_eq_false c9
    clear c9; obtain rfl := Option.some.inj H
    go_wp2
    go_ret
    exact ⟨by first | rfl | (simp; done) | (simp [*]; done), by repeat (first | exact Drawn0.refl _ | apply Drawn0.step)⟩
   rw [if_pos c9] at H; have c9b0 : decide (240 ≤ a0) = true := decide_eq_true c9
   clear c9; by_cases c10 : a0 ≤ 244
   ·rw [if_pos c10] at H
    have c10b0 : decide (a0 ≤ 244) = true := decide_eq_true c10
    clear c10; obtain rfl := Option.some.inj H
    go_wp2
    go_ret
    exact ⟨by first | rfl | (simp; done) | (simp [*]; done), by repeat (first | exact Drawn0.refl _ | apply Drawn0.step)⟩
   rw [if_neg c10] at H; have c10b0 : decide (a0 ≤ 244) = false := decide_eq_false c10
   clear c10; obtain rfl := Option.some.inj H
   go_wp2
   go_ret
   exact ⟨by first | rfl | (simp; done) | (simp [*]; done), by repeat (first | exact Drawn0.refl _ | apply Drawn0.step)⟩
mutual
def stanzaref01_Begins.j0 : Nat → List Int → Bool → Option (Bool)
 | 0, _, _ => none
 | k + 1, x0, x15 => if x15 = true then (some false) else (stanzaref01_Begins.l0 k x0 1)
def stanzaref01_Begins.l0 : Nat → List Int → Int → Option (Bool)
 | 0, _, _ => none
 | k + 1, x0, x3 => if x3 < (x0.length : Int) then (if 0 ≤ x3 then (if (rd x0 x3) < 128 then (some false) else (if (rd x0 x3) > 191 then (some false) else (stanzaref01_Begins.l0 k x0 (wrap64 (x3 + 1))))) else (none)) else (if (x0.length : Int) = 1 then (some true) else (if 0 < (x0.length : Int) then (if (rd x0 0) = 224 then (if 1 < (x0.length : Int) then (some (decide ((rd x0 1) ≥ 160))) else (none)) else (if (rd x0 0) = 237 then (if 1 < (x0.length : Int) then (some (decide ((rd x0 1) < 160))) else (none)) else (if (rd x0 0) = 240 then (if 1 < (x0.length : Int) then (some (decide ((rd x0 1) ≥ 144))) else (none)) else (if (rd x0 0) = 244 then (if 1 < (x0.length : Int) then (some (decide ((rd x0 1) < 144))) else (none)) else (some true))))) else (none)))
end
def stanzaref01_Begins.f (k : Nat) (l0 : List Int) : Option (Bool) := if (l0.length : Int) = 0 then (stanzaref01_Begins.j0 k l0 true) else (if 0 < (l0.length : Int) then ((stanzaref01_length.f k (rd l0 0)).bind fun t115 => (stanzaref01_Begins.j0 k l0 (decide ((l0.length : Int) > t115)))) else (none))
theorem stanzaref01_Begins.mono_l : ∀ k, (∀ y0 y1, LeO (stanzaref01_Begins.j0 k y0 y1) (stanzaref01_Begins.j0 (k + 1) y0 y1)) ∧ (∀ y0 y1, LeO (stanzaref01_Begins.l0 k y0 y1) (stanzaref01_Begins.l0 (k + 1) y0 y1))
 | 0 => ⟨fun _ _ r h => by simp [stanzaref01_Begins.j0] at h, fun _ _ r h => by simp [stanzaref01_Begins.l0] at h⟩
 | k + 1 => by
  obtain ⟨ih0, ih1⟩ := stanzaref01_Begins.mono_l k; refine ⟨?_, ?_⟩
  ·intro y0 y1
   unfold stanzaref01_Begins.j0
   repeat' (with_reducible first | exact ih0 _ _ | exact ih1 _ _ | exact stanzaref01_length.mono _ _ | exact LeO.refl _ | exact LeO.none _ | refine LeO.ite ?_ ?_ | refine LeO.bind ?_ (fun _ => ?_))
  ·intro y0 y1
   unfold stanzaref01_Begins.l0
   repeat' (with_reducible first | exact ih0 _ _ | exact ih1 _ _ | exact stanzaref01_length.mono _ _ | exact LeO.refl _ | exact LeO.none _ | refine LeO.ite ?_ ?_ | refine LeO.bind ?_ (fun _ => ?_))
theorem stanzaref01_Begins.mono : ∀ a0 k, LeO (stanzaref01_Begins.f k a0) (stanzaref01_Begins.f (k + 1) a0) := by
 intro a0 k
 obtain ⟨ih0, ih1⟩ := stanzaref01_Begins.mono_l k; unfold stanzaref01_Begins.f
 repeat' (with_reducible first | exact ih0 _ _ | exact ih1 _ _ | exact stanzaref01_length.mono _ _ | exact LeO.refl _ | exact LeO.none _ | refine LeO.ite ?_ ?_ | refine LeO.bind ?_ (fun _ => ?_))
set_option maxHeartbeats 8000000 in
set_option maxRecDepth 100000 in
theorem stanzaref01_Begins.calls (k : Nat) (A0 : Option Addr) (c0 : Nat) (l0 : List Int) (r : Bool) (w : World) (hr0 : Kd.C (Kd.int .u8) w A0 l0.length l0) (hc0 : l0.length ≤ c0) (h : stanzaref01_Begins.f k l0 = some r) :
  Calls Try.prog 38 #[.slice A0 l0.length c0] w fun e w' => e = .returned (.bool r) ∧ Drawn0 w w' := by
 have HR0 := zA.mk hr0; have HC0 := zA.mk hc0; clear hr0 hc0; have H : (if (l0.length : Int) = 0 then (stanzaref01_Begins.j0 k l0 true) else (if 0 < (l0.length : Int) then ((stanzaref01_length.f k (rd l0 0)).bind fun t115 => (stanzaref01_Begins.j0 k l0 (decide ((l0.length : Int) > t115)))) else (none))) = some r := h
 clear h; have HC2 := zA.mk H; clear H; go_enter Try.func38, Try.ntmps38
 go_upto_region 1 with (fail)
 go_cut [15] (fun v15 wc => ∃ (kq : Nat) (x15_1 : Bool), v15 = .bool x15_1 ∧ zA (stanzaref01_Begins.j0 kq l0 x15_1 = some r) ∧ zA (kq ≤ k) ∧ Drawn0 w wc)
 case first =>
  have H := HC2.out; clear HC2; by_cases c3 : (l0.length : Int) = 0
  ·rw [if_pos c3] at H
   have c3b0 : ((l0.length : Int) == 0) = true := beq_iff_eq.mpr c3
   have c3b1 : ((l0.length : Int) != 0) = false := bne_eq_false_iff_eq.mpr c3
   clear c3; (first | rw [c3b0] | (simp only [i64_w, i32_w]; rw [c3b0]) | skip)
   have H' := zA.mk H
   clear H; go_wp2
   go_meet
   case rel => exact ⟨_, (true), aZ, H', ⟨by first | omega | exact Nat.le_refl _⟩, by repeat (first | exact Drawn0.refl _ | apply Drawn0.step)⟩
  rw [if_neg c3] at H; have c3b0 : ((l0.length : Int) == 0) = false := beq_eq_false_iff_ne.mpr c3
  have c3b1 : ((l0.length : Int) != 0) = true := bne_iff_ne.mpr c3
  have c3b2 : ¬ (l0 = []) := fun h_ => c3 (by rw [h_]; rfl)
  (first | rw [c3b0] | (simp only [i64_w, i32_w]; rw [c3b0]) | skip)
  by_cases c4 : 0 < (l0.length : Int)
  rotate_left
  ·rw [if_neg c4] at H
   exact absurd H (by simp)
  rw [if_pos c4] at H; have c4b0 : decide (0 < (l0.length : Int)) = true := decide_eq_true c4
  have c4b1 : decide (0 < l0.length) = true := decide_eq_true (by omega)
  clear c4; replace H := Option.bind_eq_some_iff.mp H; obtain ⟨t115, A50, H⟩ := H; replace H : (stanzaref01_Begins.j0 k l0 (decide ((l0.length : Int) > t115))) = some r := H; have A5 := zA.mk A50; clear A50; have H' := zA.mk H
  clear H; have p114 : 0 ≤ (0 : Int) := (by omega)
  have q114 : 0 < (l0.length : Int) := aD
  obtain ⟨ad114, e114, hx114_0⟩ := Kd.at_int HR0.out 0 p114 q114; cases e114
  have qi114 : (0 < l0.length) = True := eq_true (by omega)
  (try rw [show ((0 : Int)).toNat = 0 from rfl] at hx114_0)
  (try rw [Addr.add_zero'] at hx114_0)
  replace p114 := eq_true p114; replace q114 := eq_true q114; go_wp2_with (first | (go_at_call 39; (with_reducible refine (stanzaref01_length.calls k (rd l0 0) t115 _ A5.out).mono ?_); rintro e w' ⟨rfl, ⟨nd, rfl⟩⟩))
  go_meet
  case rel => exact ⟨_, (decide ((l0.length : Int) > t115)), aZ, H', ⟨by first | omega | exact Nat.le_refl _⟩, by repeat (first | exact Drawn0.refl _ | apply Drawn0.step)⟩
 clear HC2; obtain ⟨kq, x15_1, rfl, HA, HJ1, ⟨mc1, rfl⟩⟩ := hcut; cases kq with
 | zero => exact absurd HA.out (by simp [stanzaref01_Begins.j0])
 | succ kj1 =>
  have H := HA.out; clear HA; simp only [stanzaref01_Begins.j0] at H; by_cases c6 : x15_1 = true
  ·subst c6
   have H1 : (some false) = some r := by rw [if_pos rfl] at H; exact H
   clear H; have H := H1; clear H1; obtain rfl := Option.some.inj H
   go_wp2
   go_ret
   exact ⟨by first | rfl | (simp; done) | (simp [*]; done), by repeat (first | exact Drawn0.refl _ | apply Drawn0.step)⟩
  replace c6 := Bool.eq_false_iff.mpr c6; subst c6; have H1 : (stanzaref01_Begins.l0 kj1 l0 1) = some r := by rw [if_neg (show ¬ (false = true) by decide)] at H; exact H
  clear H; have H := H1; clear H1; have H' := zA.mk H
  clear H; go_wp2
  go_loopg [3] kj1 (fun kq v3 w' => ∃ (x3_2 : Int), v3 = .int .i64 x3_2 ∧ zA (stanzaref01_Begins.l0 kq l0 x3_2 = some r) ∧ zA (kq ≤ kj1) ∧ Drawn0 w w')
  case atStart => exact ⟨(1), aZ, H', ⟨Nat.le_refl _⟩, by repeat (first | exact Drawn0.refl _ | apply Drawn0.step)⟩
  clear H'; obtain ⟨x3_2, rfl, HA, HK2, ⟨m2, rfl⟩⟩ := hrel; cases gk with
  | zero => exact absurd HA.out (by simp [stanzaref01_Begins.l0])
  | succ k2 =>
   have H := HA.out; clear HA; simp only [stanzaref01_Begins.l0] at H; by_cases c7 : x3_2 < (l0.length : Int)
   ·rw [if_pos c7] at H
    have c7b0 : decide (x3_2 < (l0.length : Int)) = true := decide_eq_true c7
    clear c7; by_cases c8 : 0 ≤ x3_2
    rotate_left
    ·rw [if_neg c8] at H
     exact absurd H (by simp)
    rw [if_pos c8] at H; have c8b0 : decide (0 ≤ x3_2) = true := decide_eq_true c8
    clear c8; by_cases c9 : (rd l0 x3_2) < 128
    ·rw [if_pos c9] at H
     have c9b0 : decide ((rd l0 x3_2) < 128) = true := decide_eq_true c9
     clear c9; obtain rfl := Option.some.inj H
     have p116 : 0 ≤ (x3_2 : Int) := aD
     have q116 : x3_2 < (l0.length : Int) := aD
     obtain ⟨ad116, e116, hx116_0⟩ := Kd.at_int HR0.out x3_2 p116 q116; cases e116
     replace p116 := eq_true p116; replace q116 := eq_true q116; go_wp2
     go_ret
     exact ⟨by first | rfl | (simp; done) | (simp [*]; done), by repeat (first | exact Drawn0.refl _ | apply Drawn0.step)⟩
    rw [if_neg c9] at H; have c9b0 : decide ((rd l0 x3_2) < 128) = false := decide_eq_false c9
    clear c9; by_cases c10 : (rd l0 x3_2) > 191
    ·rw [if_pos c10] at H
     have c10b0 : decide (191 < (rd l0 x3_2)) = true := decide_eq_true c10
     clear c10; obtain rfl := Option.some.inj H
     have p116 : 0 ≤ (x3_2 : Int) := aD
     have q116 : x3_2 < (l0.length : Int) := aD
     obtain ⟨ad116, e116, hx116_0⟩ := Kd.at_int HR0.out x3_2 p116 q116; cases e116
     replace p116 := eq_true p116; replace q116 := eq_true q116; have p117 : 0 ≤ (x3_2 : Int) := aD
     have q117 : x3_2 < (l0.length : Int) := aD
     obtain ⟨ad117, e117, hx117_0⟩ := Kd.at_int HR0.out x3_2 p117 q117; obtain rfl : ad116 = ad117 := (by injection e117)
     replace p117 := eq_true p117; replace q117 := eq_true q117; go_wp2
     go_ret
     exact ⟨by first | rfl | (simp; done) | (simp [*]; done), by repeat (first | exact Drawn0.refl _ | apply Drawn0.step)⟩
    rw [if_neg c10] at H; have c10b0 : decide (191 < (rd l0 x3_2)) = false := decide_eq_false c10
    clear c10; have H' := zA.mk H
    clear H; have p116 : 0 ≤ (x3_2 : Int) := aD
    have q116 : x3_2 < (l0.length : Int) := aD
    obtain ⟨ad116, e116, hx116_0⟩ := Kd.at_int HR0.out x3_2 p116 q116; cases e116
    replace p116 := eq_true p116; replace q116 := eq_true q116; have p117 : 0 ≤ (x3_2 : Int) := aD
    have q117 : x3_2 < (l0.length : Int) := aD
    obtain ⟨ad117, e117, hx117_0⟩ := Kd.at_int HR0.out x3_2 p117 q117; obtain rfl : ad116 = ad117 := (by injection e117)
    replace p117 := eq_true p117; replace q117 := eq_true q117; go_wp2
    go_roundg k2
    case measure => have := HJ1.out; have := HK2.out; omega
    case rel => exact ⟨(wrap64 (x3_2 + 1)), aZ, H', ⟨by have := HJ1.out; have := HK2.out; omega⟩, by repeat (first | exact Drawn0.refl _ | apply Drawn0.step)⟩
   rw [if_neg c7] at H; have c7b0 : decide (x3_2 < (l0.length : Int)) = false := decide_eq_false c7
   clear c7; by_cases c11 : (l0.length : Int) = 1
   ·rw [if_pos c11] at H
    have c11b0 : ((l0.length : Int) == 1) = true := beq_iff_eq.mpr c11
    have c11b1 : ((l0.length : Int) != 1) = false := bne_eq_false_iff_eq.mpr c11
    clear c11; obtain rfl := Option.some.inj H
    go_wp2
    go_ret
    exact ⟨by first | rfl | (simp; done) | (simp [*]; done), by repeat (first | exact Drawn0.refl _ | apply Drawn0.step)⟩
   rw [if_neg c11] at H; have c11b0 : ((l0.length : Int) == 1) = false := beq_eq_false_iff_ne.mpr c11
   have c11b1 : ((l0.length : Int) != 1) = true := bne_iff_ne.mpr c11
   by_cases c12 : 0 < (l0.length : Int)
   rotate_left
   ·rw [if_neg c12] at H
    exact absurd H (by simp)
   rw [if_pos c12] at H; have c12b0 : decide (0 < (l0.length : Int)) = true := decide_eq_true c12
   have c12b1 : decide (0 < l0.length) = true := decide_eq_true (by omega)
   clear c12; by_cases c13 : (rd l0 0) = 224
   ·rw [if_pos c13] at H
    have c13b0 : ((rd l0 0) == 224) = true := beq_iff_eq.mpr c13
    have c13b1 : ((rd l0 0) != 224) = false := bne_eq_false_iff_eq.mpr c13
    clear c13; by_cases c14 : 1 < (l0.length : Int)
    rotate_left
    ·rw [if_neg c14] at H
     exact absurd H (by simp)
    rw [if_pos c14] at H; have c14b0 : decide (1 < (l0.length : Int)) = true := decide_eq_true c14
    have c14b1 : decide (1 < l0.length) = true := decide_eq_true (by omega)
    clear c14; obtain rfl := Option.some.inj H
    have p118 : 0 ≤ (0 : Int) := (by omega)
    have q118 : 0 < (l0.length : Int) := aD
    obtain ⟨ad118, e118, hx118_0⟩ := Kd.at_int HR0.out 0 p118 q118; cases e118
    have qi118 : (0 < l0.length) = True := eq_true (by omega)
    (try rw [show ((0 : Int)).toNat = 0 from rfl] at hx118_0)
    (try rw [Addr.add_zero'] at hx118_0)
    replace p118 := eq_true p118; replace q118 := eq_true q118; have p119 : 0 ≤ (1 : Int) := (by omega)
    have q119 : 1 < (l0.length : Int) := aD
    obtain ⟨ad119, e119, hx119_0⟩ := Kd.at_int HR0.out 1 p119 q119; obtain rfl : ad118 = ad119 := (by injection e119)
    (try simp only [show (1 : Int).toNat = 1 from rfl, Nat.reduceMul, Nat.reduceEqDiff, Go.Addr.add, ↓reduceIte] at hx119_0)
    have qi119 : (1 < l0.length) = True := eq_true (by omega)
    (try rw [show ((1 : Int)).toNat = 1 from rfl] at hx119_0)
    replace p119 := eq_true p119; replace q119 := eq_true q119; go_wp2
    go_ret
    exact ⟨by first | rfl | (simp; done) | (simp [*]; done), by repeat (first | exact Drawn0.refl _ | apply Drawn0.step)⟩
   rw [if_neg c13] at H; have c13b0 : ((rd l0 0) == 224) = false := beq_eq_false_iff_ne.mpr c13
   have c13b1 : ((rd l0 0) != 224) = true := bne_iff_ne.mpr c13
   by_cases c15 : (rd l0 0) = 237
   ·rw [if_pos c15] at H
    have c15b0 : ((rd l0 0) == 237) = true := beq_iff_eq.mpr c15
    have c15b1 : ((rd l0 0) != 237) = false := bne_eq_false_iff_eq.mpr c15
    clear c15; by_cases c16 : 1 < (l0.length : Int)
    rotate_left
    ·rw [if_neg c16] at H
     exact absurd H (by simp)
    rw [if_pos c16] at H; have c16b0 : decide (1 < (l0.length : Int)) = true := decide_eq_true c16
    have c16b1 : decide (1 < l0.length) = true := decide_eq_true (by omega)
    clear c16; obtain rfl := Option.some.inj H
    have p118 : 0 ≤ (0 : Int) := (by omega)
    have q118 : 0 < (l0.length : Int) := aD
    obtain ⟨ad118, e118, hx118_0⟩ := Kd.at_int HR0.out 0 p118 q118; cases e118
    have qi118 : (0 < l0.length) = True := eq_true (by omega)
    (try rw [show ((0 : Int)).toNat = 0 from rfl] at hx118_0)
    (try rw [Addr.add_zero'] at hx118_0)
    replace p118 := eq_true p118; replace q118 := eq_true q118; have p120 : 0 ≤ (1 : Int) := (by omega)
    have q120 : 1 < (l0.length : Int) := aD
    obtain ⟨ad120, e120, hx120_0⟩ := Kd.at_int HR0.out 1 p120 q120; obtain rfl : ad118 = ad120 := (by injection e120)
    (try simp only [show (1 : Int).toNat = 1 from rfl, Nat.reduceMul, Nat.reduceEqDiff, Go.Addr.add, ↓reduceIte] at hx120_0)
    have qi120 : (1 < l0.length) = True := eq_true (by omega)
    (try rw [show ((1 : Int)).toNat = 1 from rfl] at hx120_0)
    replace p120 := eq_true p120; replace q120 := eq_true q120; go_wp2
    go_ret
    exact ⟨by first | rfl | (simp; done) | (simp [*]; done), by repeat (first | exact Drawn0.refl _ | apply Drawn0.step)⟩
   rw [if_neg c15] at H; have c15b0 : ((rd l0 0) == 237) = false := beq_eq_false_iff_ne.mpr c15
   have c15b1 : ((rd l0 0) != 237) = true := bne_iff_ne.mpr c15
   by_cases c17 : (rd l0 0) = 240
   ·rw [if_pos c17] at H
    have c17b0 : ((rd l0 0) == 240) = true := beq_iff_eq.mpr c17
    have c17b1 : ((rd l0 0) != 240) = false := bne_eq_false_iff_eq.mpr c17
    clear c17; by_cases c18 : 1 < (l0.length : Int)
    rotate_left
    ·rw [if_neg c18] at H
     exact absurd H (by simp)
    rw [if_pos c18] at H; have c18b0 : decide (1 < (l0.length : Int)) = true := decide_eq_true c18
    have c18b1 : decide (1 < l0.length) = true := decide_eq_true (by omega)
    clear c18; obtain rfl := Option.some.inj H
    have p118 : 0 ≤ (0 : Int) := (by omega)
    have q118 : 0 < (l0.length : Int) := aD
    obtain ⟨ad118, e118, hx118_0⟩ := Kd.at_int HR0.out 0 p118 q118; cases e118
    have qi118 : (0 < l0.length) = True := eq_true (by omega)
    (try rw [show ((0 : Int)).toNat = 0 from rfl] at hx118_0)
    (try rw [Addr.add_zero'] at hx118_0)
    replace p118 := eq_true p118; replace q118 := eq_true q118; have p121 : 0 ≤ (1 : Int) := (by omega)
    have q121 : 1 < (l0.length : Int) := aD
    obtain ⟨ad121, e121, hx121_0⟩ := Kd.at_int HR0.out 1 p121 q121; obtain rfl : ad118 = ad121 := (by injection e121)
    (try simp only [show (1 : Int).toNat = 1 from rfl, Nat.reduceMul, Nat.reduceEqDiff, Go.Addr.add, ↓reduceIte] at hx121_0)
    have qi121 : (1 < l0.length) = True := eq_true (by omega)
    (try rw [show ((1 : Int)).toNat = 1 from rfl] at hx121_0)
    replace p121 := eq_true p121; replace q121 := eq_true q121; go_wp2
    go_ret
    exact ⟨by first | rfl | (simp; done) | (simp [*]; done), by repeat (first | exact Drawn0.refl _ | apply Drawn0.step)⟩
   rw [if_neg c17] at H; have c17b0 : ((rd l0 0) == 240) = false := beq_eq_false_iff_ne.mpr c17
   have c17b1 : ((rd l0 0) != 240) = true := bne_iff_ne.mpr c17
   by_cases c19 : (rd l0 0) = 244
   rotate_left
   ·rw [if_neg c19] at H
    have c19b0 : ((rd l0 0) == 244) = false := beq_eq_false_iff_ne.mpr c19
    have c19b1 : ((rd l0 0) != 244) = true := bne_iff_ne.mpr c19
    obtain rfl := Option.some.inj H
    have p118 : 0 ≤ (0 : Int) := (by omega)
    have q118 : 0 < (l0.length : Int) := aD
    obtain ⟨ad118, e118, hx118_0⟩ := Kd.at_int HR0.out 0 p118 q118; cases e118
    have qi118 : (0 < l0.length) = True := eq_true (by omega)
    (try rw [show ((0 : Int)).toNat = 0 from rfl] at hx118_0)
    (try rw [Addr.add_zero'] at hx118_0)
    replace p118 := eq_true p118; replace q118 := eq_true q118; go_wp2
    go_ret
    exact ⟨by first | rfl | (simp; done) | (simp [*]; done), by repeat (first | exact Drawn0.refl _ | apply Drawn0.step)⟩
   rw [if_pos c19] at H; have c19b0 : ((rd l0 0) == 244) = true := beq_iff_eq.mpr c19
   have c19b1 : ((rd l0 0) != 244) = false := bne_eq_false_iff_eq.mpr c19
   clear c19; by_cases c20 : 1 < (l0.length : Int)
   rotate_left
   ·rw [if_neg c20] at H
    exact absurd H (by simp)
   rw [if_pos c20] at H; have c20b0 : decide (1 < (l0.length : Int)) = true := decide_eq_true c20
   have c20b1 : decide (1 < l0.length) = true := decide_eq_true (by omega)
   clear c20; obtain rfl := Option.some.inj H
   have p118 : 0 ≤ (0 : Int) := (by omega)
   have q118 : 0 < (l0.length : Int) := aD
   obtain ⟨ad118, e118, hx118_0⟩ := Kd.at_int HR0.out 0 p118 q118; cases e118
   have qi118 : (0 < l0.length) = True := eq_true (by omega)
   (try rw [show ((0 : Int)).toNat = 0 from rfl] at hx118_0)
   (try rw [Addr.add_zero'] at hx118_0)
   replace p118 := eq_true p118; replace q118 := eq_true q118; have p122 : 0 ≤ (1 : Int) := (by omega)
   have q122 : 1 < (l0.length : Int) := aD
   obtain ⟨ad122, e122, hx122_0⟩ := Kd.at_int HR0.out 1 p122 q122; obtain rfl : ad118 = ad122 := (by injection e122)
   (try simp only [show (1 : Int).toNat = 1 from rfl, Nat.reduceMul, Nat.reduceEqDiff, Go.Addr.add, ↓reduceIte] at hx122_0)
   have qi122 : (1 < l0.length) = True := eq_true (by omega)
   (try rw [show ((1 : Int)).toNat = 1 from rfl] at hx122_0)
   replace p122 := eq_true p122; replace q122 := eq_true q122; go_wp2
   go_ret
   exact ⟨by first | rfl | (simp; done) | (simp [*]; done), by repeat (first | exact Drawn0.refl _ | apply Drawn0.step)⟩
mutual
def stanzaref01_One.j0 : Nat → List Int → Int → Bool → Option (Int × Int × Int)
 | 0, _, _, _ => none
 | k + 1, x0, x1, x16 => if x16 = true then (some (0, 0, 0)) else (stanzaref01_One.l0 k x0 x1 0)
def stanzaref01_One.j2 : Nat → List Int → Int → Int → Option (Int × Int × Int)
 | 0, _, _, _ => none
 | k + 1, x0, x1, x5 => if x5 = 0 then (some (65533, x1, 1)) else (if 0 ≤ x1 then (if x1 < (x0.length : Int) then ((stanzaref01_length.f k (rd x0 x1)).bind fun t127 => (if x5 < t127 then (some (65533, x1, x5)) else ((some (([0, 127, 31, 15, 7] : List Int) : List Int)).bind fun y129 => (if 0 ≤ x5 then (if x5 < (y129.length : Int) then (stanzaref01_One.l1 k x0 x1 x5 (Go.bits .and .i32 (wrap32 (rd x0 x1)) (rd y129 x5)) 1) else (none)) else (none))))) else (none)) else (none))
def stanzaref01_One.l1 : Nat → List Int → Int → Int → Int → Int → Option (Int × Int × Int)
 | 0, _, _, _, _, _ => none
 | k + 1, x0, x1, x5, x6, x8 => if x8 < x5 then (if 0 ≤ (wrap64 (x1 + x8)) then (if (wrap64 (x1 + x8)) < (x0.length : Int) then (stanzaref01_One.l1 k x0 x1 x5 (wrap32 ((wrap32 ((wrap32 (x6 * 64)) + (wrap32 (rd x0 (wrap64 (x1 + x8)))))) - 128)) (wrap64 (x8 + 1))) else (none)) else (none)) else (some (x6, x1, x5))
def stanzaref01_One.l0 : Nat → List Int → Int → Int → Option (Int × Int × Int)
 | 0, _, _, _ => none
 | k + 1, x0, x1, x5 => if x5 < 4 then (if x5 < (wrap64 ((x0.length : Int) - x1)) then (if 0 ≤ x1 then (if x1 ≤ (wrap64 ((wrap64 (x1 + x5)) + 1)) then (if (wrap64 ((wrap64 (x1 + x5)) + 1)) ≤ (x0.length : Int) then ((stanzaref01_Begins.f k ((x0.take ((wrap64 ((wrap64 (x1 + x5)) + 1)) : Int).toNat).drop (x1 : Int).toNat)).bind fun t125 => (if t125 = true then (stanzaref01_One.l0 k x0 x1 (wrap64 (x5 + 1))) else (stanzaref01_One.j2 k x0 x1 x5))) else (none)) else (none)) else (none)) else (stanzaref01_One.j2 k x0 x1 x5)) else (stanzaref01_One.j2 k x0 x1 x5)
end
def stanzaref01_One.f (k : Nat) (l0 : List Int) (a1 : Int) : Option (Int × Int × Int) := if a1 < 0 then (stanzaref01_One.j0 k l0 a1 true) else (stanzaref01_One.j0 k l0 a1 (decide (a1 ≥ (l0.length : Int))))
theorem stanzaref01_One.mono_l : ∀ k, (∀ y0 y1 y2, LeO (stanzaref01_One.j0 k y0 y1 y2) (stanzaref01_One.j0 (k + 1) y0 y1 y2)) ∧ (∀ y0 y1 y2, LeO (stanzaref01_One.j2 k y0 y1 y2) (stanzaref01_One.j2 (k + 1) y0 y1 y2)) ∧ (∀ y0 y1 y2 y3 y4, LeO (stanzaref01_One.l1 k y0 y1 y2 y3 y4) (stanzaref01_One.l1 (k + 1) y0 y1 y2 y3 y4)) ∧ (∀ y0 y1 y2, LeO (stanzaref01_One.l0 k y0 y1 y2) (stanzaref01_One.l0 (k + 1) y0 y1 y2))
 | 0 => ⟨fun _ _ _ r h => by simp [stanzaref01_One.j0] at h, fun _ _ _ r h => by simp [stanzaref01_One.j2] at h, fun _ _ _ _ _ r h => by simp [stanzaref01_One.l1] at h, fun _ _ _ r h => by simp [stanzaref01_One.l0] at h⟩
 | k + 1 => by
  obtain ⟨ih0, ih1, ih2, ih3⟩ := stanzaref01_One.mono_l k; refine ⟨?_, ?_, ?_, ?_⟩
  ·intro y0 y1 y2
   unfold stanzaref01_One.j0
   repeat' (with_reducible first | exact ih0 _ _ _ | exact ih1 _ _ _ | exact ih2 _ _ _ _ _ | exact ih3 _ _ _ | exact stanzaref01_Begins.mono _ _ | exact stanzaref01_length.mono _ _ | exact LeO.refl _ | exact LeO.none _ | refine LeO.ite ?_ ?_ | refine LeO.bind ?_ (fun _ => ?_))
  ·intro y0 y1 y2
   unfold stanzaref01_One.j2
   repeat' (with_reducible first | exact ih0 _ _ _ | exact ih1 _ _ _ | exact ih2 _ _ _ _ _ | exact ih3 _ _ _ | exact stanzaref01_Begins.mono _ _ | exact stanzaref01_length.mono _ _ | exact LeO.refl _ | exact LeO.none _ | refine LeO.ite ?_ ?_ | refine LeO.bind ?_ (fun _ => ?_))
  ·intro y0 y1 y2 y3 y4
   unfold stanzaref01_One.l1
   repeat' (with_reducible first | exact ih0 _ _ _ | exact ih1 _ _ _ | exact ih2 _ _ _ _ _ | exact ih3 _ _ _ | exact stanzaref01_Begins.mono _ _ | exact stanzaref01_length.mono _ _ | exact LeO.refl _ | exact LeO.none _ | refine LeO.ite ?_ ?_ | refine LeO.bind ?_ (fun _ => ?_))
  ·intro y0 y1 y2
   unfold stanzaref01_One.l0
   repeat' (with_reducible first | exact ih0 _ _ _ | exact ih1 _ _ _ | exact ih2 _ _ _ _ _ | exact ih3 _ _ _ | exact stanzaref01_Begins.mono _ _ | exact stanzaref01_length.mono _ _ | exact LeO.refl _ | exact LeO.none _ | refine LeO.ite ?_ ?_ | refine LeO.bind ?_ (fun _ => ?_))
theorem stanzaref01_One.mono : ∀ a0 a1 k, LeO (stanzaref01_One.f k a0 a1) (stanzaref01_One.f (k + 1) a0 a1) := by
 intro a0 a1 k
 obtain ⟨ih0, ih1, ih2, ih3⟩ := stanzaref01_One.mono_l k; unfold stanzaref01_One.f
 repeat' (with_reducible first | exact ih0 _ _ _ | exact ih1 _ _ _ | exact ih2 _ _ _ _ _ | exact ih3 _ _ _ | exact stanzaref01_Begins.mono _ _ | exact stanzaref01_length.mono _ _ | exact LeO.refl _ | exact LeO.none _ | refine LeO.ite ?_ ?_ | refine LeO.bind ?_ (fun _ => ?_))
set_option maxHeartbeats 8000000 in
set_option maxRecDepth 100000 in
theorem stanzaref01_One.calls (k : Nat) (A0 : Option Addr) (c0 : Nat) (l0 : List Int) (a1 : Int) (r1 : Int) (r2 : Int) (r3 : Int) (w : World) (hr0 : Kd.C (Kd.int .u8) w A0 l0.length l0) (hc0 : l0.length ≤ c0) (h : stanzaref01_One.f k l0 a1 = some (r1, r2, r3)) :
  Calls Try.prog 35 #[.slice A0 l0.length c0, .int .i64 a1] w fun e w' => e = .returned (.agg #[.int .i32 r1, .int .i64 r2, .int .i64 r3]) ∧ Below w.heap.size w w' := by
 have hu50 := Try.underlying50; have HR0 := zA.mk hr0; have HC0 := zA.mk hc0; clear hr0 hc0; have HB := zA.mk (Below.refl w.heap.size w); have H : (if a1 < 0 then (stanzaref01_One.j0 k l0 a1 true) else (stanzaref01_One.j0 k l0 a1 (decide (a1 ≥ (l0.length : Int))))) = some (r1, r2, r3) := h
 clear h; have HC3 := zA.mk H; clear H; go_enter Try.func35, Try.ntmps35
 go_upto_region 1 with (first | ((with_reducible refine gate_dst (N := 4) rfl ?_); (try (refine gate_guard (by rfl) ?_; dsimp only)); refine box_event ?hg (N := 4) ?hd (cs := #[.int .i32 0, .int .i64 0, .int .i64 0]) (t := 50) ?hr ?_; (case hd => rfl); (case hg => rfl); (case hr => first | (go_simp; done) | (go_simp; rfl)); intro gb123 hg w4 hbox hb; have BK123 := zA.mk (hbox); have GW123 := zA.mk ((by rw [hg]; exact (below_size (aL HB)) : w.heap.size ≤ gb123)); replace HB := zA.mk (below_step (aL HB) hb); have GE123 := GW123; clear hb hbox hg))
 (try simp only [Act.put, sA_, sB_, sC_])
 go_cut [16] (fun v16 wc => ∃ (kq : Nat) (x16_2 : Bool), v16 = .bool x16_2 ∧ zA (stanzaref01_One.j0 kq l0 a1 x16_2 = some (r1, r2, r3)) ∧ zA (kq ≤ k) ∧ zA (wc.heap[gb123]? = some (.cells #[.int .i32 0, .int .i64 0, .int .i64 0] 50 (0, 0))) ∧ zA (Below w.heap.size w wc))
 case first =>
  have H := HC3.out; clear HC3; by_cases c5 : a1 < 0
  ·rw [if_pos c5] at H
   have c5b0 : decide (a1 < 0) = true := decide_eq_true c5
   clear c5; (first | rw [c5b0] | (simp only [i64_w, i32_w]; rw [c5b0]) | skip)
   have H' := zA.mk H
   clear H; go_wp2
   go_meet
   case rel => exact ⟨_, (true), aZ, H', ⟨by first | omega | exact Nat.le_refl _⟩, ⟨aB BK123⟩, ⟨aL HB⟩⟩
  rw [if_neg c5] at H; have c5b0 : decide (a1 < 0) = false := decide_eq_false c5
  clear c5; (first | rw [c5b0] | (simp only [i64_w, i32_w]; rw [c5b0]) | skip)
  have H' := zA.mk H
  clear H; go_wp2
  go_meet
  case rel => exact ⟨_, (decide (a1 ≥ (l0.length : Int))), aZ, H', ⟨by first | omega | exact Nat.le_refl _⟩, ⟨aB BK123⟩, ⟨aL HB⟩⟩
 clear HC3; obtain ⟨kq, x16_2, rfl, HA, HJ2, BK123, HB⟩ := hcut; cases kq with
 | zero => exact absurd HA.out (by simp [stanzaref01_One.j0])
 | succ kj2 =>
  have H := HA.out; clear HA; simp only [stanzaref01_One.j0] at H; by_cases c6 : x16_2 = true
  ·subst c6
   have H1 : (some (0, 0, 0)) = some (r1, r2, r3) := by rw [if_pos rfl] at H; exact H
   clear H; have H := H1; clear H1; simp only [Option.some.injEq, Prod.mk.injEq] at H; obtain ⟨rfl, rfl, rfl⟩ := H; obtain ⟨hcz7_0, hcz7_1, hcz7_2, hfz7_0, hfz7_1, hfz7_2⟩ := aC3 BK123; go_wp2_with (first | ((with_reducible refine gate_store (t := 50) (p := 4) rfl ?_); refine store_event (t := 50) (p := 4) (v := ?vo_w8) (w1 := (((wc.setCell ⟨gb123, 0, none⟩ (.int .i32 0)).setCell ⟨gb123, 1, none⟩ (.int .i64 0)).setCell ⟨gb123, 2, none⟩ (.int .i64 0))) ?hg ?ho ?hn ?hr ?_; (case ho => rfl); (case hg => rfl); (case hn => rfl); (case hr => first | (go_simp; done) | (go_simp; rfl)); intro w8 hw; have n0_ : zA (w8.heap[gb123]? = some (.cells #[.int .i32 0, .int .i64 0, .int .i64 0] 50 (0, 0))) := ⟨(by rw [hw]; exact (by (with_reducible repeat (first | refine zE ?_ _ | refine zD ?_ | refine zB ?_ _)); refine blk_put (cs := #[.int .i32 0, .int .i64 0, .int .i64 0]) ?_ 2 _ rfl; (with_reducible repeat (first | refine zE ?_ _ | refine zD ?_ | refine zB ?_ _)); refine blk_put (cs := #[.int .i32 0, .int .i64 0, .int .i64 0]) ?_ 1 _ rfl; (with_reducible repeat (first | refine zE ?_ _ | refine zD ?_ | refine zB ?_ _)); refine blk_put (cs := #[.int .i32 0, .int .i64 0, .int .i64 0]) ?_ 0 _ rfl; (with_reducible repeat (first | refine zE ?_ _ | refine zD ?_ | refine zB ?_ _)); exact BK123.out))⟩; have n1_ : zA (Below w.heap.size w w8) := ⟨(by rw [hw]; exact (aL HB))⟩; clear hw; clear BK123; clear HB; have BK123 := n0_; have HB := n1_; clear n0_ n1_))
   refine bodyPost_ret (results_cell_row rfl _ _ gb123 50 #[.int .i32 0, .int .i64 0, .int .i64 0] (0, 0) _ rfl (aB BK123) Try.underlying50 rfl (by kernel_rfl)) rfl ?_
   exact ⟨aX, aL HB⟩
  replace c6 := Bool.eq_false_iff.mpr c6; subst c6; have H1 : (stanzaref01_One.l0 kj2 l0 a1 0) = some (r1, r2, r3) := by rw [if_neg (show ¬ (false = true) by decide)] at H; exact H
  clear H; have H := H1; clear H1; have HC9 := zA.mk H; clear H; go_upto_block 0 with (fail)
  go_cut [5] (fun v5 wc => ∃ (kq : Nat) (x5_8 : Int), v5 = .int .i64 x5_8 ∧ zA (stanzaref01_One.j2 kq l0 a1 x5_8 = some (r1, r2, r3)) ∧ zA (kq ≤ kj2) ∧ zA (wc.heap[gb123]? = some (.cells #[.int .i32 0, .int .i64 0, .int .i64 0] 50 (0, 0))) ∧ zA (Below w.heap.size w wc))
  case first =>
   have H := HC9.out; clear HC9; have H' := zA.mk H
   clear H; go_wp2
   go_loopg [5] kj2 (fun kq v5 w' => ∃ (x5_2 : Int), v5 = .int .i64 x5_2 ∧ zA (stanzaref01_One.l0 kq l0 a1 x5_2 = some (r1, r2, r3)) ∧ zA (kq ≤ kj2) ∧ zA (w'.heap[gb123]? = some (.cells #[.int .i32 0, .int .i64 0, .int .i64 0] 50 (0, 0))) ∧ zA (Below w.heap.size w w'))
   case atStart => exact ⟨(0), aZ, H', ⟨Nat.le_refl _⟩, ⟨aB BK123⟩, ⟨aL HB⟩⟩
   clear H'; obtain ⟨x5_2, rfl, HA, HK2, BK123, HB⟩ := hrel; cases gk with
   | zero => exact absurd HA.out (by simp [stanzaref01_One.l0])
   | succ k2 =>
    have H := HA.out; clear HA; simp only [stanzaref01_One.l0] at H; by_cases c10 : x5_2 < 4
    rotate_left
    ·rw [if_neg c10] at H
     have c10b0 : decide (x5_2 < 4) = false := decide_eq_false c10
     clear c10; (first | rw [c10b0] | (simp only [i64_w, i32_w]; rw [c10b0]) | skip)
     have H' := zA.mk H
     clear H; go_wp2
     go_meet
     case rel => exact ⟨_, (x5_2), aZ, H', ⟨by have := HJ2.out; have := HK2.out; first | omega | exact Nat.le_refl _⟩, ⟨aB BK123⟩, ⟨aL HB⟩⟩
    rw [if_pos c10] at H; have c10b0 : decide (x5_2 < 4) = true := decide_eq_true c10
    clear c10; (first | rw [c10b0] | (simp only [i64_w, i32_w]; rw [c10b0]) | skip)
    by_cases c11 : x5_2 < (wrap64 ((l0.length : Int) - a1))
    rotate_left
    ·rw [if_neg c11] at H
     have c11b0 : decide (x5_2 < (wrap64 ((l0.length : Int) - a1))) = false := decide_eq_false c11
     clear c11; have H' := zA.mk H
     clear H; go_wp2
     go_meet
     case rel => exact ⟨_, (x5_2), aZ, H', ⟨by have := HJ2.out; have := HK2.out; first | omega | exact Nat.le_refl _⟩, ⟨aB BK123⟩, ⟨aL HB⟩⟩
    rw [if_pos c11] at H; have c11b0 : decide (x5_2 < (wrap64 ((l0.length : Int) - a1))) = true := decide_eq_true c11
    clear c11; by_cases c12 : 0 ≤ a1
    rotate_left
    ·rw [if_neg c12] at H
     exact absurd H (by simp)
    rw [if_pos c12] at H; have c12b0 := eq_true c12; have c12b1 : decide (0 ≤ a1) = true := decide_eq_true c12
    clear c12; by_cases c13 : a1 ≤ (wrap64 ((wrap64 (a1 + x5_2)) + 1))
    rotate_left
    ·rw [if_neg c13] at H
     exact absurd H (by simp)
    rw [if_pos c13] at H; have c13b0 := eq_true c13; have c13b1 : decide (a1 ≤ (wrap64 ((wrap64 (a1 + x5_2)) + 1))) = true := decide_eq_true c13
    by_cases c14 : (wrap64 ((wrap64 (a1 + x5_2)) + 1)) ≤ (l0.length : Int)
    rotate_left
    ·rw [if_neg c14] at H
     exact absurd H (by simp)
    rw [if_pos c14] at H; have c14b0 := eq_true c14; have c14b1 : decide ((wrap64 ((wrap64 (a1 + x5_2)) + 1)) ≤ (l0.length : Int)) = true := decide_eq_true c14
    replace H := Option.bind_eq_some_iff.mp H; obtain ⟨t125, A150, H⟩ := H; replace H : (if t125 = true then (stanzaref01_One.l0 k2 l0 a1 (wrap64 (x5_2 + 1))) else (stanzaref01_One.j2 k2 l0 a1 x5_2)) = some (r1, r2, r3) := H; have A15 := zA.mk A150; clear A150; by_cases c16 : t125 = true
    ·subst c16
     have H1 : (stanzaref01_One.l0 k2 l0 a1 (wrap64 (x5_2 + 1))) = some (r1, r2, r3) := by rw [if_pos rfl] at H; exact H
     clear H; have H := H1; clear H1; have H' := zA.mk H
     clear H; obtain ⟨i017, hi017, _, hsz17, _⟩ := info_parts info5; obtain ⟨A17, hcut17, hA17, hC17⟩ := print_mid_of (P := Try.prog) (Value.int .u8) 0 22 5 .i64 .i64 Try.underlying22 hi017 hsz17 A0 c0 l0 a1 (wrap64 ((wrap64 (a1 + x5_2)) + 1)) (aD) (by first | omega | exact aD) (aD) HC0.out
     have HR124 := zA.mk (Kd.C_of_reads (h1 := fun _ => rfl) (hA17 _ (Kd.reads_of_C HR0.out)))
     have HC124 := zA.mk hC17; clear hA17 hC17 hi017 hsz17; go_wp2_with (first | (go_at_call 38; refine calls_of_args (args' := #[.slice A17 ((l0.take ((wrap64 ((wrap64 (a1 + x5_2)) + 1)) : Int).toNat).drop (a1 : Int).toNat).length (c0 - a1.toNat)]) (by first | (rw [show ((l0.take ((wrap64 ((wrap64 (a1 + x5_2)) + 1)) : Int).toNat).drop (a1 : Int).toNat).length = ((wrap64 ((wrap64 (a1 + x5_2)) + 1)).toNat - a1.toNat) from (by rw [List.length_drop, List.length_take]; have h_ : ((wrap64 ((wrap64 (a1 + x5_2)) + 1)) : Int) ≤ (l0.length : Int) := aD; omega)] <;> rfl) | rfl) ?_; (with_reducible refine (stanzaref01_Begins.calls k2 _ _ ((l0.take ((wrap64 ((wrap64 (a1 + x5_2)) + 1)) : Int).toNat).drop (a1 : Int).toNat) true _ ?side1 ?side2 A15.out).mono ?_); (case side1 => exact aA HR124 HB); (case side2 => exact HC124.out); rintro e w' ⟨rfl, ⟨nd, rfl⟩⟩))
     go_roundg k2
     case measure => have := HJ2.out; have := HK2.out; omega
     case rel => exact ⟨(wrap64 (x5_2 + 1)), aZ, H', ⟨by have := HJ2.out; have := HK2.out; omega⟩, ⟨aB BK123⟩, ⟨aL HB⟩⟩
    replace c16 := Bool.eq_false_iff.mpr c16; subst c16; have H1 : (stanzaref01_One.j2 k2 l0 a1 x5_2) = some (r1, r2, r3) := by rw [if_neg (show ¬ (false = true) by decide)] at H; exact H
    clear H; have H := H1; clear H1; have H' := zA.mk H
    clear H; obtain ⟨i018, hi018, _, hsz18, _⟩ := info_parts info5; obtain ⟨A18, hcut18, hA18, hC18⟩ := print_mid_of (P := Try.prog) (Value.int .u8) 0 22 5 .i64 .i64 Try.underlying22 hi018 hsz18 A0 c0 l0 a1 (wrap64 ((wrap64 (a1 + x5_2)) + 1)) (aD) (by first | omega | exact aD) (aD) HC0.out
    have HR124 := zA.mk (Kd.C_of_reads (h1 := fun _ => rfl) (hA18 _ (Kd.reads_of_C HR0.out)))
    have HC124 := zA.mk hC18; clear hA18 hC18 hi018 hsz18; go_wp2_with (first | (go_at_call 38; refine calls_of_args (args' := #[.slice A18 ((l0.take ((wrap64 ((wrap64 (a1 + x5_2)) + 1)) : Int).toNat).drop (a1 : Int).toNat).length (c0 - a1.toNat)]) (by first | (rw [show ((l0.take ((wrap64 ((wrap64 (a1 + x5_2)) + 1)) : Int).toNat).drop (a1 : Int).toNat).length = ((wrap64 ((wrap64 (a1 + x5_2)) + 1)).toNat - a1.toNat) from (by rw [List.length_drop, List.length_take]; have h_ : ((wrap64 ((wrap64 (a1 + x5_2)) + 1)) : Int) ≤ (l0.length : Int) := aD; omega)] <;> rfl) | rfl) ?_; (with_reducible refine (stanzaref01_Begins.calls k2 _ _ ((l0.take ((wrap64 ((wrap64 (a1 + x5_2)) + 1)) : Int).toNat).drop (a1 : Int).toNat) false _ ?side1 ?side2 A15.out).mono ?_); (case side1 => exact aA HR124 HB); (case side2 => exact HC124.out); rintro e w' ⟨rfl, ⟨nd, rfl⟩⟩))
    go_meet
    case rel => exact ⟨_, (x5_2), aZ, H', ⟨by have := HJ2.out; have := HK2.out; first | omega | exact Nat.le_refl _⟩, ⟨aB BK123⟩, ⟨aL HB⟩⟩
  clear HC9; obtain ⟨kq, x5_8, rfl, HA, HJ8, BK123, HB⟩ := hcut; cases kq with
  | zero => exact absurd HA.out (by simp [stanzaref01_One.j2])
  | succ kj8 =>
   have H := HA.out; clear HA; simp only [stanzaref01_One.j2] at H; by_cases c19 : x5_8 = 0
   ·rw [if_pos c19] at H
    have c19b0 : (x5_8 == 0) = true := beq_iff_eq.mpr c19
    have c19b1 : (x5_8 != 0) = false := bne_eq_false_iff_eq.mpr c19
    clear c19; simp only [Option.some.injEq, Prod.mk.injEq] at H; obtain ⟨rfl, rfl, rfl⟩ := H; obtain ⟨hcz20_0, hcz20_1, hcz20_2, hfz20_0, hfz20_1, hfz20_2⟩ := aC3 BK123; go_wp2_with (first | ((with_reducible refine gate_store (t := 50) (p := 4) rfl ?_); refine store_event (t := 50) (p := 4) (v := ?vo_w21) (w1 := (((wc.setCell ⟨gb123, 0, none⟩ (.int .i32 65533)).setCell ⟨gb123, 1, none⟩ (.int .i64 a1)).setCell ⟨gb123, 2, none⟩ (.int .i64 1))) ?hg ?ho ?hn ?hr ?_; (case ho => rfl); (case hg => rfl); (case hn => rfl); (case hr => first | (go_simp; done) | (go_simp; rfl)); intro w21 hw; have n0_ : zA (w21.heap[gb123]? = some (.cells #[.int .i32 65533, .int .i64 a1, .int .i64 1] 50 (0, 0))) := ⟨(by rw [hw]; exact (by (with_reducible repeat (first | refine zE ?_ _ | refine zD ?_ | refine zB ?_ _)); refine blk_put (cs := #[.int .i32 65533, .int .i64 a1, .int .i64 0]) ?_ 2 _ rfl; (with_reducible repeat (first | refine zE ?_ _ | refine zD ?_ | refine zB ?_ _)); refine blk_put (cs := #[.int .i32 65533, .int .i64 0, .int .i64 0]) ?_ 1 _ rfl; (with_reducible repeat (first | refine zE ?_ _ | refine zD ?_ | refine zB ?_ _)); refine blk_put (cs := #[.int .i32 0, .int .i64 0, .int .i64 0]) ?_ 0 _ rfl; (with_reducible repeat (first | refine zE ?_ _ | refine zD ?_ | refine zB ?_ _)); exact BK123.out))⟩; have n1_ : zA (Below w.heap.size w w21) := ⟨(by rw [hw]; exact (aL HB))⟩; clear hw; clear BK123; clear HB; have BK123 := n0_; have HB := n1_; clear n0_ n1_))
    refine bodyPost_ret (results_cell_row rfl _ _ gb123 50 #[.int .i32 65533, .int .i64 a1, .int .i64 1] (0, 0) _ rfl (aB BK123) Try.underlying50 rfl (by kernel_rfl)) rfl ?_
    exact ⟨aX, aL HB⟩
   rw [if_neg c19] at H; have c19b0 : (x5_8 == 0) = false := beq_eq_false_iff_ne.mpr c19
   have c19b1 : (x5_8 != 0) = true := bne_iff_ne.mpr c19
   by_cases c22 : 0 ≤ a1
   rotate_left
   ·rw [if_neg c22] at H
    exact absurd H (by simp)
   rw [if_pos c22] at H; have c22b0 : decide (0 ≤ a1) = true := decide_eq_true c22
   clear c22; by_cases c23 : a1 < (l0.length : Int)
   rotate_left
   ·rw [if_neg c23] at H
    exact absurd H (by simp)
   rw [if_pos c23] at H; have c23b0 : decide (a1 < (l0.length : Int)) = true := decide_eq_true c23
   clear c23; replace H := Option.bind_eq_some_iff.mp H; obtain ⟨t127, A240, H⟩ := H; replace H : (if x5_8 < t127 then (some (65533, a1, x5_8)) else ((some (([0, 127, 31, 15, 7] : List Int) : List Int)).bind fun y129 => (if 0 ≤ x5_8 then (if x5_8 < (y129.length : Int) then (stanzaref01_One.l1 kj8 l0 a1 x5_8 (Go.bits .and .i32 (wrap32 (rd l0 a1)) (rd y129 x5_8)) 1) else (none)) else (none)))) = some (r1, r2, r3) := H
   have A24 := zA.mk A240; clear A240; by_cases c25 : x5_8 < t127
   ·rw [if_pos c25] at H
    have c25b0 : decide (x5_8 < t127) = true := decide_eq_true c25
    clear c25; simp only [Option.some.injEq, Prod.mk.injEq] at H; obtain ⟨rfl, rfl, rfl⟩ := H; have p126 : 0 ≤ (a1 : Int) := aD
    have q126 : a1 < (l0.length : Int) := aD
    obtain ⟨ad126, e126, hx126_0⟩ := Kd.at_int HR0.out a1 p126 q126; cases e126
    replace hx126_0 := (HB.out.cell (World.block_lt_of_cell? w _ hx126_0)).trans hx126_0; replace p126 := eq_true p126; replace q126 := eq_true q126; go_wp2_with (first | ((with_reducible refine gate_callee (f := 39) rfl ?_); refine goesL_ (some 49) rfl rfl Try.func39 (by kernel_rfl) rfl #[.int .u8 (rd l0 a1)] rfl aT ?_; (with_reducible refine (stanzaref01_length.calls kj8 (rd l0 a1) t127 _ A24.out).mono ?_); rintro e w' ⟨rfl, ⟨nd, rfl⟩⟩; refine ⟨_, rfl, ?_⟩; (try (rw [drewN_self wc]; generalize hq_ : World.drewN wc _ = wc; have n0_ : zA (wc.heap[gb123]? = some (.cells #[.int .i32 0, .int .i64 0, .int .i64 0] 50 (0, 0))) := ⟨by rw [← hq_]; exact (aB BK123)⟩; have n1_ : zA (Below w.heap.size w wc) := ⟨by rw [← hq_]; exact (aL HB)⟩; clear BK123 HB hq_; have BK123 := n0_; have HB := n1_; clear n0_ n1_)); obtain ⟨hcz26_0, hcz26_1, hcz26_2, hfz26_0, hfz26_1, hfz26_2⟩ := aC3 BK123) | ((with_reducible refine gate_store (t := 50) (p := 4) rfl ?_); refine store_event (t := 50) (p := 4) (v := ?vo_w27) (w1 := (((wc.setCell ⟨gb123, 0, none⟩ (.int .i32 65533)).setCell ⟨gb123, 1, none⟩ (.int .i64 a1)).setCell ⟨gb123, 2, none⟩ (.int .i64 x5_8))) ?hg ?ho ?hn ?hr ?_; (case ho => rfl); (case hg => rfl); (case hn => rfl); (case hr => first | (go_simp; done) | (go_simp; rfl)); intro w27 hw; have n0_ : zA (w27.heap[gb123]? = some (.cells #[.int .i32 65533, .int .i64 a1, .int .i64 x5_8] 50 (0, 0))) := ⟨(by rw [hw]; exact (by (with_reducible repeat (first | refine zE ?_ _ | refine zD ?_ | refine zB ?_ _)); refine blk_put (cs := #[.int .i32 65533, .int .i64 a1, .int .i64 0]) ?_ 2 _ rfl; (with_reducible repeat (first | refine zE ?_ _ | refine zD ?_ | refine zB ?_ _)); refine blk_put (cs := #[.int .i32 65533, .int .i64 0, .int .i64 0]) ?_ 1 _ rfl; (with_reducible repeat (first | refine zE ?_ _ | refine zD ?_ | refine zB ?_ _)); refine blk_put (cs := #[.int .i32 0, .int .i64 0, .int .i64 0]) ?_ 0 _ rfl; (with_reducible repeat (first | refine zE ?_ _ | refine zD ?_ | refine zB ?_ _)); exact BK123.out))⟩; have n1_ : zA (Below w.heap.size w w27) := ⟨(by rw [hw]; exact (aL HB))⟩; clear hw; clear BK123; clear HB; have BK123 := n0_; have HB := n1_; clear n0_ n1_))
    refine bodyPost_ret (results_cell_row rfl _ _ gb123 50 #[.int .i32 65533, .int .i64 a1, .int .i64 x5_8] (0, 0) _ rfl (aB BK123) Try.underlying50 rfl (by kernel_rfl)) rfl ?_
    exact ⟨aX, aL HB⟩
   rw [if_neg c25] at H; have c25b0 : decide (x5_8 < t127) = false := decide_eq_false c25
   clear c25; obtain ⟨y129, hy129⟩ : ∃ y_ : List Int, y_ = (([0, 127, 31, 15, 7] : List Int)) := ⟨_, rfl⟩; replace H : (if 0 ≤ x5_8 then (if x5_8 < (y129.length : Int) then (stanzaref01_One.l1 kj8 l0 a1 x5_8 (Go.bits .and .i32 (wrap32 (rd l0 a1)) (rd y129 x5_8)) 1) else (none)) else (none)) = some (r1, r2, r3) := by first | (rw [hy129]; with_reducible exact H) | (have H2_ := (Option.bind_some _ _).symm.trans H; rw [hy129]; with_reducible exact H2_) | (have H2_ := (Option.bind_some _ _).symm.trans H; with_reducible exact H2_) | with_reducible exact H | (rw [hy129]; exact H) | exact H
   have Ny129 := zA.mk hy129; clear hy129; by_cases c28 : 0 ≤ x5_8
   rotate_left
   ·rw [if_neg c28] at H
    exact absurd H (by simp)
   rw [if_pos c28] at H; have c28b0 : decide (0 ≤ x5_8) = true := decide_eq_true c28
   clear c28; by_cases c29 : x5_8 < (y129.length : Int)
   rotate_left
   ·rw [if_neg c29] at H
    exact absurd H (by simp)
   rw [if_pos c29] at H; have c29b0 : decide (x5_8 < (y129.length : Int)) = true := decide_eq_true c29
   clear c29; have H' := zA.mk H
   clear H; have p126 : 0 ≤ (a1 : Int) := aD
   have q126 : a1 < (l0.length : Int) := aD
   obtain ⟨ad126, e126, hx126_0⟩ := Kd.at_int HR0.out a1 p126 q126; cases e126
   replace hx126_0 := (HB.out.cell (World.block_lt_of_cell? w _ hx126_0)).trans hx126_0; replace p126 := eq_true p126; replace q126 := eq_true q126; go_wp2_with (first | ((with_reducible refine gate_callee (f := 39) rfl ?_); refine goesL_ (some 49) rfl rfl Try.func39 (by kernel_rfl) rfl #[.int .u8 (rd l0 a1)] rfl aT ?_; (with_reducible refine (stanzaref01_length.calls kj8 (rd l0 a1) t127 _ A24.out).mono ?_); rintro e w' ⟨rfl, ⟨nd, rfl⟩⟩; refine ⟨_, rfl, ?_⟩; have p128 : 0 ≤ (a1 : Int) := aD; have q128 : a1 < (l0.length : Int) := aD; obtain ⟨ad128, e128, hx128_0⟩ := Kd.at_int HR0.out a1 p128 q128; obtain rfl : ad126 = ad128 := (by injection e128); replace hx128_0 := (HB.out.cell (World.block_lt_of_cell? w _ hx128_0)).trans hx128_0; replace p128 := eq_true p128; replace q128 := eq_true q128) | ((with_reducible refine gate_dst (N := 59) rfl ?_); (try (refine gate_guard (by rfl) ?_; dsimp only)); refine Kd.R_lit (Kd.int .i32) _ 21 ?hg (N := 59) ?hd (xs := ([0, 127, 31, 15, 7] : List Int)) (inner := [.int .i32 0, .int .i32 127, .int .i32 31, .int .i32 15, .int .i32 7]) (ok := fun _ => True) (okp := fun _ => True) ?hr ?hp (fun _ hk => hk) trivial (Below.refl _ _) (Nat.le_refl _) (by simp) ?_; (case hd => rfl); (case hg => rfl); (case hr => first | (go_simp; done) | (go_simp; rfl)); (case hp => exact (Reps.one (show Kd.M (Kd.int .i32) _ _ _ 0 [.int .i32 0] from rfl) (Reps.one (show Kd.M (Kd.int .i32) _ _ _ 127 [.int .i32 127] from rfl) (Reps.one (show Kd.M (Kd.int .i32) _ _ _ 31 [.int .i32 31] from rfl) (Reps.one (show Kd.M (Kd.int .i32) _ _ _ 15 [.int .i32 15] from rfl) (Reps.one (show Kd.M (Kd.int .i32) _ _ _ 7 [.int .i32 7] from rfl) (Reps.none _ _))))))); intro v130 w30 ho31 hb hg_ hnew_; clear hg_ hnew_; (first | rw [← Ny129.out] at ho31 | (simp only [Int.reduceToNat] at ho31; rw [← Ny129.out] at ho31)); have HO131 := zA.mk (Kd.zR ho31 (below_size (aL HB))); replace BK123 := zA.mk (zF (aB BK123) hb); replace HB := zA.mk (below_step (aL HB) hb); clear hb ho31; obtain ⟨Ao32, co32, eo32⟩ := Kd.zQ HO131.out; subst eo32; have p132 : 0 ≤ (x5_8 : Int) := aD; have q132 : x5_8 < (y129.length : Int) := aD; obtain ⟨ad132, e132, hx132_0⟩ := Kd.at_int (Kd.zN HO131.out).2.2 x5_8 p132 q132; cases e132; replace p132 := eq_true p132; replace q132 := eq_true q132))
   go_loopg [6, 8] kj8 (fun kq v6 v8 w' => ∃ (x6_3 : Int) (x8_3 : Int), v6 = .int .i32 x6_3 ∧ v8 = .int .i64 x8_3 ∧ zA (stanzaref01_One.l1 kq l0 a1 x5_8 x6_3 x8_3 = some (r1, r2, r3)) ∧ zA (kq ≤ kj8) ∧ zA (w'.heap[gb123]? = some (.cells #[.int .i32 0, .int .i64 0, .int .i64 0] 50 (0, 0))) ∧ zA (Below w.heap.size w w'))
   case atStart => exact ⟨(Go.bits .and .i32 (wrap32 (rd l0 a1)) (rd y129 x5_8)), (1), aZ, aZ, H', ⟨Nat.le_refl _⟩, ⟨aB BK123⟩, ⟨aL HB⟩⟩
   clear H'; obtain ⟨x6_3, x8_3, rfl, rfl, HA, HK3, BK123, HB⟩ := hrel; cases gk with
   | zero => exact absurd HA.out (by simp [stanzaref01_One.l1])
   | succ k3 =>
    have H := HA.out; clear HA; simp only [stanzaref01_One.l1] at H; by_cases c33 : x8_3 < x5_8
    ·rw [if_pos c33] at H
     have c33b0 : decide (x8_3 < x5_8) = true := decide_eq_true c33
     clear c33; obtain ⟨ji34, hji34⟩ : ∃ j_ : Int, (wrap64 (a1 + x8_3)) = j_ := ⟨_, rfl⟩; replace H : (if 0 ≤ (ji34) then (if (ji34) < (l0.length : Int) then (stanzaref01_One.l1 k3 l0 a1 x5_8 (wrap32 ((wrap32 ((wrap32 (x6_3 * 64)) + (wrap32 (rd l0 (ji34))))) - 128)) (wrap64 (x8_3 + 1))) else (none)) else (none)) = some (r1, r2, r3) := by first | (rw [hji34] at H; exact H) | (simp only [hji34] at H ⊢; exact H)
     have hji34w : (IntKind.i64.wrap (a1 + x8_3)) = ji34 := (i64_w _).trans hji34
     by_cases c35 : 0 ≤ (ji34)
     rotate_left
     ·rw [if_neg c35] at H
      exact absurd H (by simp)
     rw [if_pos c35] at H; have c35b0 : decide (0 ≤ (ji34)) = true := decide_eq_true c35
     clear c35; by_cases c36 : (ji34) < (l0.length : Int)
     rotate_left
     ·rw [if_neg c36] at H
      exact absurd H (by simp)
     rw [if_pos c36] at H; have c36b0 : decide ((ji34) < (l0.length : Int)) = true := decide_eq_true c36
     clear c36; have H' := zA.mk H
     clear H; have p133 : 0 ≤ ((ji34) : Int) := aD
     have q133 : (ji34) < (l0.length : Int) := aD
     obtain ⟨ad133, e133, hx133_0⟩ := Kd.at_int HR0.out (ji34) p133 q133; obtain rfl : ad126 = ad133 := (by injection e133)
     replace hx133_0 := (HB.out.cell (World.block_lt_of_cell? w _ hx133_0)).trans hx133_0; replace p133 := eq_true p133; replace q133 := eq_true q133; go_wp2
     go_roundg k3
     case measure => have := HJ2.out; have := HJ8.out; have := HK3.out; omega
     case rel => exact ⟨(wrap32 ((wrap32 ((wrap32 (x6_3 * 64)) + (wrap32 (rd l0 (ji34))))) - 128)), (wrap64 (x8_3 + 1)), (by first | rfl | (simp; done) | (simp only [← hji34] <;> (first | rfl | simp)) | (simp [*]; done)), aZ, H', ⟨by have := HJ2.out; have := HJ8.out; have := HK3.out; omega⟩, ⟨aB BK123⟩, ⟨aL HB⟩⟩
    rw [if_neg c33] at H; have c33b0 : decide (x8_3 < x5_8) = false := decide_eq_false c33
    clear c33; simp only [Option.some.injEq, Prod.mk.injEq] at H; obtain ⟨rfl, rfl, rfl⟩ := H; obtain ⟨hcz37_0, hcz37_1, hcz37_2, hfz37_0, hfz37_1, hfz37_2⟩ := aC3 BK123; go_wp2_with (first | ((with_reducible refine gate_store (t := 50) (p := 4) rfl ?_); refine store_event (t := 50) (p := 4) (v := ?vo_w38) (w1 := (((wr.setCell ⟨gb123, 0, none⟩ (.int .i32 x6_3)).setCell ⟨gb123, 1, none⟩ (.int .i64 a1)).setCell ⟨gb123, 2, none⟩ (.int .i64 x5_8))) ?hg ?ho ?hn ?hr ?_; (case ho => rfl); (case hg => rfl); (case hn => rfl); (case hr => first | (go_simp; done) | (go_simp; rfl)); intro w38 hw; have n0_ : zA (w38.heap[gb123]? = some (.cells #[.int .i32 x6_3, .int .i64 a1, .int .i64 x5_8] 50 (0, 0))) := ⟨(by rw [hw]; exact (by (with_reducible repeat (first | refine zE ?_ _ | refine zD ?_ | refine zB ?_ _)); refine blk_put (cs := #[.int .i32 x6_3, .int .i64 a1, .int .i64 0]) ?_ 2 _ rfl; (with_reducible repeat (first | refine zE ?_ _ | refine zD ?_ | refine zB ?_ _)); refine blk_put (cs := #[.int .i32 x6_3, .int .i64 0, .int .i64 0]) ?_ 1 _ rfl; (with_reducible repeat (first | refine zE ?_ _ | refine zD ?_ | refine zB ?_ _)); refine blk_put (cs := #[.int .i32 0, .int .i64 0, .int .i64 0]) ?_ 0 _ rfl; (with_reducible repeat (first | refine zE ?_ _ | refine zD ?_ | refine zB ?_ _)); exact BK123.out))⟩; have n1_ : zA (Below w.heap.size w w38) := ⟨(by rw [hw]; exact (aL HB))⟩; clear hw; clear BK123; clear HB; have BK123 := n0_; have HB := n1_; clear n0_ n1_))
    refine bodyPost_ret (results_cell_row rfl _ _ gb123 50 #[.int .i32 x6_3, .int .i64 a1, .int .i64 x5_8] (0, 0) _ rfl (aB BK123) Try.underlying50 rfl (by kernel_rfl)) rfl ?_
    exact ⟨aX, aL HB⟩
def stanzaref01_All.l0 : Nat → List Int → List (S50) → Int → Option ((List (S50)))
 | 0, _, _, _ => none
 | k + 1, x0, x3, x4 => if x4 < (x0.length : Int) then ((stanzaref01_One.f k x0 x4).bind fun bt134 => (if x3.length < 5864062014805 then (stanzaref01_All.l0 k x0 (x3 ++ [(⟨bt134.1, bt134.2.1, bt134.2.2⟩ : S50)]) (wrap64 (x4 + bt134.2.2))) else (none))) else (some x3)
def stanzaref01_All.f (k : Nat) (l0 : List Int) : Option ((List (S50))) := stanzaref01_All.l0 k l0 ([] : List (S50)) 0
theorem stanzaref01_All.mono_l : ∀ k, (∀ y0 y1 y2, LeO (stanzaref01_All.l0 k y0 y1 y2) (stanzaref01_All.l0 (k + 1) y0 y1 y2))
 | 0 => fun _ _ _ r h => by simp [stanzaref01_All.l0] at h
 | k + 1 => by
  have ih0 := stanzaref01_All.mono_l k
  ·intro y0 y1 y2
   unfold stanzaref01_All.l0
   repeat' (with_reducible first | exact ih0 _ _ _ | exact stanzaref01_One.mono _ _ _ | exact LeO.refl _ | exact LeO.none _ | refine LeO.ite ?_ ?_ | refine LeO.bind ?_ (fun _ => ?_))
theorem stanzaref01_All.mono : ∀ a0 k, LeO (stanzaref01_All.f k a0) (stanzaref01_All.f (k + 1) a0) := by
 intro a0 k
 have ih0 := stanzaref01_All.mono_l k; unfold stanzaref01_All.f
 repeat' (with_reducible first | exact ih0 _ _ _ | exact stanzaref01_One.mono _ _ _ | exact LeO.refl _ | exact LeO.none _ | refine LeO.ite ?_ ?_ | refine LeO.bind ?_ (fun _ => ?_))
set_option maxHeartbeats 8000000 in
set_option maxRecDepth 100000 in
theorem stanzaref01_All.calls (k : Nat) (A0 : Option Addr) (c0 : Nat) (l0 : List Int) (r : List (S50)) (w : World) (hr0 : Kd.C (Kd.int .u8) w A0 l0.length l0) (hc0 : l0.length ≤ c0) (h : stanzaref01_All.f k l0 = some r) :
  Calls Try.prog 16 #[.slice A0 l0.length c0] w fun e w' => ∃ v0_ : Value, e = .returned (v0_) ∧ Kd.R k50 50 w' w.heap.size (fun _ => True) v0_ r ∧ Below w.heap.size w w' := by
 have hu50 := Try.underlying50; have HR0 := zA.mk hr0; have HC0 := zA.mk hc0; clear hr0 hc0; have HB := zA.mk (Below.refl w.heap.size w); have H : (stanzaref01_All.l0 k l0 ([] : List (S50)) 0) = some r := h
 clear h; have H' := zA.mk H
 clear H; go_enter Try.func16, Try.ntmps16
 go_wp2
 go_loopg [3, 4] k (fun kq v3 v4 w' => ∃ (x3_1 : List (S50)) (x4_1 : Int), v4 = .int .i64 x4_1 ∧ zA (stanzaref01_All.l0 kq l0 x3_1 x4_1 = some r) ∧ zA (kq ≤ k) ∧ zA (Kd.R k50 50 w' w.heap.size (fun _ => True) v3 x3_1) ∧ zA (Below w.heap.size w w'))
 case atStart => exact ⟨(([] : List (S50))), (0), aZ, H', ⟨Nat.le_refl _⟩, ⟨by first | exact Kd.R_nil _ _ _ _ _ | exact Kd.N_nil _ _ _ _ _ | exact Kd.V_nil _ _ _ _ _ | exact Kd.Q_nil _ _ _ _ _ | exact Kd.S_nil _ _ _ _ _⟩, ⟨aL HB⟩⟩
 clear H'; obtain ⟨x3_1, x4_1, rfl, HA, HK1, HO_3, HB⟩ := hrel; cases gk with
 | zero => exact absurd HA.out (by simp [stanzaref01_All.l0])
 | succ k1 =>
  have H := HA.out; clear HA; simp only [stanzaref01_All.l0] at H; by_cases c2 : x4_1 < (l0.length : Int)
  rotate_left
  ·rw [if_neg c2] at H
   have c2b0 : decide (x4_1 < (l0.length : Int)) = false := decide_eq_false c2
   clear c2; obtain rfl := Option.some.inj H
   go_wp2
   go_ret
   exact ⟨_, aX, aR HO_3, aL HB⟩
  rw [if_pos c2] at H; have c2b0 : decide (x4_1 < (l0.length : Int)) = true := decide_eq_true c2
  clear c2; replace H := Option.bind_eq_some_iff.mp H; obtain ⟨⟨t134, t135, t136⟩, A30, H⟩ := H; replace H : (if x3_1.length < 5864062014805 then (stanzaref01_All.l0 k1 l0 (x3_1 ++ [(⟨t134, t135, t136⟩ : S50)]) (wrap64 (x4_1 + t136))) else (none)) = some r := H; have A3 := zA.mk A30; clear A30; by_cases c4 : x3_1.length < 5864062014805
  rotate_left
  ·rw [if_neg c4] at H
   exact absurd H (by simp)
  rw [if_pos c4] at H; have LMc4 := zA.mk c4; clear c4; obtain ⟨y138, hy138⟩ : ∃ y_ : List (S50), y_ = (x3_1 ++ [(⟨t134, t135, t136⟩ : S50)]) := ⟨_, rfl⟩; replace H : (stanzaref01_All.l0 k1 l0 y138 (wrap64 (x4_1 + t136))) = some r := by first | (rw [hy138]; with_reducible exact H) | (have H2_ := (Option.bind_some _ _).symm.trans H; rw [hy138]; with_reducible exact H2_) | (have H2_ := (Option.bind_some _ _).symm.trans H; with_reducible exact H2_) | with_reducible exact H | (rw [hy138]; exact H) | exact H
  have Ny138 := zA.mk hy138; clear hy138; have H' := zA.mk H
  clear H; go_wp2_with (first | ((with_reducible refine gate_callee (f := 35) rfl ?_); refine goesL_ (some 12) rfl rfl Try.func35 (by kernel_rfl) rfl #[.slice A0 l0.length c0, .int .i64 x4_1] rfl aT ?_; (with_reducible refine (stanzaref01_One.calls k1 _ _ l0 x4_1 t134 t135 t136 _ ?side1 ?side2 A3.out).mono ?_); (case side1 => exact aA HR0 HB); (case side2 => exact HC0.out); rintro e w5 ⟨rfl, hb⟩; refine ⟨_, rfl, ?_⟩; replace HO_3 := zA.mk (Kd.zO (aR HO_3) hb); replace HB := zA.mk (below_step (aL HB) hb); (try clear hb); (try clear hb2); (try clear hk); (try clear hi)) | ((with_reducible refine gate_dst (N := 5) rfl ?_); refine box_event ?hg (N := 5) ?hd (cs := #[.int .i32 0, .int .i64 0, .int .i64 0]) (t := 50) ?hr ?_; (case hd => rfl); (case hg => rfl); (case hr => first | (go_simp; done) | (go_simp; rfl)); intro gb137 hg w6 hbox hb; replace HO_3 := zA.mk (Kd.zO (Kd.R_elderB (aR HO_3) gb137 (Nat.le_of_eq hg.symm)) hb); have BK137 := zA.mk (hbox); have GW137 := zA.mk ((by rw [hg]; exact (below_size (aL HB)) : w.heap.size ≤ gb137)); replace HB := zA.mk (below_step (aL HB) hb); have GE137 := GW137; clear hb hbox hg; obtain ⟨hcz7_0, hcz7_1, hcz7_2, hfz7_0, hfz7_1, hfz7_2⟩ := aC3 BK137) | ((with_reducible refine gate_store (t := 50) (p := 5) rfl ?_); refine store_event (t := 50) (p := 5) (v := ?vo_w8) (w1 := (((w6.setCell ⟨gb137, 0, none⟩ (.int .i32 t134)).setCell ⟨gb137, 1, none⟩ (.int .i64 t135)).setCell ⟨gb137, 2, none⟩ (.int .i64 t136))) ?hg ?ho ?hn ?hr ?_; (case ho => rfl); (case hg => rfl); (case hn => rfl); (case hr => first | (go_simp; done) | (go_simp; rfl)); intro w8 hw; have n0_ : zA (Kd.R k50 50 w8 w.heap.size (fun k_ => k_ ≠ gb137) u3 x3_1) := ⟨(by rw [hw]; exact (by (with_reducible repeat (first | apply Kd.zG | apply Kd.zH | apply Kd.zI)); exact Kd.zS (Kd.zP (p := ⟨gb137, 2, none⟩) (Kd.zP (p := ⟨gb137, 1, none⟩) (Kd.zP (p := ⟨gb137, 0, none⟩) (Kd.zS HO_3.out (fun k_ hk => (⟨hk, hk.2⟩ : _ ∧ k_ ≠ gb137))) (fun _ hk => hk.2) (.int .i32 t134)) (fun _ hk => hk.2) (.int .i64 t135)) (fun _ hk => hk.2) (.int .i64 t136)) (fun _ hk => hk.1.2)))⟩; have n1_ : zA (w8.heap[gb137]? = some (.cells #[.int .i32 t134, .int .i64 t135, .int .i64 t136] 50 (0, 0))) := ⟨(by rw [hw]; exact (by (with_reducible repeat (first | refine zE ?_ _ | refine zD ?_ | refine zB ?_ _)); refine blk_put (cs := #[.int .i32 t134, .int .i64 t135, .int .i64 0]) ?_ 2 _ rfl; (with_reducible repeat (first | refine zE ?_ _ | refine zD ?_ | refine zB ?_ _)); refine blk_put (cs := #[.int .i32 t134, .int .i64 0, .int .i64 0]) ?_ 1 _ rfl; (with_reducible repeat (first | refine zE ?_ _ | refine zD ?_ | refine zB ?_ _)); refine blk_put (cs := #[.int .i32 0, .int .i64 0, .int .i64 0]) ?_ 0 _ rfl; (with_reducible repeat (first | refine zE ?_ _ | refine zD ?_ | refine zB ?_ _)); exact BK137.out))⟩; have n2_ : zA (Below w.heap.size w w8) := ⟨(by rw [hw]; exact (aL HB))⟩; clear hw; clear HO_3; clear BK137; clear HB; have HO_3 := n0_; have BK137 := n1_; have HB := n2_; clear n0_ n1_ n2_; obtain ⟨hcz9_0, hcz9_1, hcz9_2, hfz9_0, hfz9_1, hfz9_2⟩ := aC3 BK137) | ((with_reducible refine gate_builtin (b := .append) (xs := #[.tmp 13, .tmp 15]) rfl ?_); at_builtin; refine Kd.R_append k50 (w0 := w) w.heap.size rfl (.tmp 13) (.tmp 15) 32 50 (.agg #[(.int .i32 0), (.int .i64 0), (.int .i64 0)]) 24 rfl Try.underlying32 info50 rfl (by decide) (by omega) u3 x3_1 (⟨t134, t135, t136⟩ : S50) [.int .i32 t134, .int .i64 t135, .int .i64 t136] (fun k_ => k_ ≠ gb137) (fun _ => False) rfl rfl ?aP (fun _ hk => hk.elim) ?aF ?aO ?aB ?aS ?aL ?_; (case aP => exact k50_mkM _ _ _ (⟨t134, t135, t136⟩ : S50)); (case aB => exact (aL HB)); (case aF => exact (fun k_ hk => Kd.freshB (g := gb137) (o := .cells #[.int .i32 t134, .int .i64 t135, .int .i64 t136] 50 (0, 0)) (aB BK137) k_ hk)); (case aO => exact (aR HO_3)); (case aS => exact (below_size (aL HB))); (case aL => have := LMc4.out; omega); intro v139 w10 ho hb hg hat; rw [← Ny138.out] at ho; replace BK137 := zA.mk (blk_grown (g := gb137) (o := .cells #[.int .i32 t134, .int .i64 t135, .int .i64 t136] 50 (0, 0)) (aB BK137) hg (Kd.R_away HO_3.out (fun _ hk => hk))); replace HB := zA.mk (hb); have HO140 := zA.mk (ho); clear HO_3; clear ho hb hg hat; obtain ⟨hcz11_0, hcz11_1, hcz11_2, hfz11_0, hfz11_1, hfz11_2⟩ := aC3 BK137))
  go_roundg k1
  case measure => have := HK1.out; omega
  case rel => exact ⟨(y138), (wrap64 (x4_1 + t136)), aZ, H', ⟨by have := HK1.out; omega⟩, ⟨by (with_reducible repeat (first | apply Kd.zG | apply Kd.zH | apply Kd.zI)); exact Kd.zS HO140.out (fun _ hk => trivial)⟩, ⟨aL HB⟩⟩
def h3_Opps.l0 : Nat → List Int → List Int → Int → Option (List Int)
 | 0, _, _, _ => none
 | k + 1, x0, x3, x4 => if x4 < (x0.length : Int) then (if 0 ≤ x4 then (if x3.length < 140737488355328 then (h3_Opps.l0 k x0 (x3 ++ [rd x0 x4]) (wrap64 (x4 + 1))) else (none)) else (none)) else (some x3)
def h3_Opps.f (k : Nat) (l0 : List Int) : Option (List Int) := h3_Opps.l0 k l0 ([] : List Int) 0
theorem h3_Opps.mono_l : ∀ k, (∀ y0 y1 y2, LeO (h3_Opps.l0 k y0 y1 y2) (h3_Opps.l0 (k + 1) y0 y1 y2))
 | 0 => fun _ _ _ r h => by simp [h3_Opps.l0] at h
 | k + 1 => by
  have ih0 := h3_Opps.mono_l k
  ·intro y0 y1 y2
   unfold h3_Opps.l0
   repeat' (with_reducible first | exact ih0 _ _ _ | exact LeO.refl _ | exact LeO.none _ | refine LeO.ite ?_ ?_ | refine LeO.bind ?_ (fun _ => ?_))
theorem h3_Opps.mono : ∀ a0 k, LeO (h3_Opps.f k a0) (h3_Opps.f (k + 1) a0) := by
 intro a0 k
 have ih0 := h3_Opps.mono_l k; unfold h3_Opps.f
 repeat' (with_reducible first | exact ih0 _ _ _ | exact LeO.refl _ | exact LeO.none _ | refine LeO.ite ?_ ?_ | refine LeO.bind ?_ (fun _ => ?_))
set_option maxHeartbeats 8000000 in
set_option maxRecDepth 100000 in
theorem h3_Opps.calls (k : Nat) (A0 : Option Addr) (c0 : Nat) (l0 : List Int) (r : List Int) (w : World) (hr0 : Kd.C (Kd.int .u8) w A0 l0.length l0) (hc0 : l0.length ≤ c0) (h : h3_Opps.f k l0 = some r) :
  Calls Try.prog 18 #[.slice A0 l0.length c0] w fun e w' => ∃ v0_ : Value, e = .returned (v0_) ∧ Kd.R (Kd.int .u8) 53 w' w.heap.size (fun _ => True) v0_ r ∧ Below w.heap.size w w' := by
 have HR0 := zA.mk hr0; have HC0 := zA.mk hc0; clear hr0 hc0; have HB := zA.mk (Below.refl w.heap.size w); have H : (h3_Opps.l0 k l0 ([] : List Int) 0) = some r := h
 clear h; have H' := zA.mk H
 clear H; go_enter Try.func18, Try.ntmps18
 go_wp2
 go_loopg [3, 4] k (fun kq v3 v4 w' => ∃ (x3_1 : List Int) (x4_1 : Int), v4 = .int .i64 x4_1 ∧ zA (h3_Opps.l0 kq l0 x3_1 x4_1 = some r) ∧ zA (kq ≤ k) ∧ zA (Kd.R (Kd.int .u8) 53 w' w.heap.size (fun _ => True) v3 x3_1) ∧ zA (Below w.heap.size w w'))
 case atStart => exact ⟨(([] : List Int)), (0), aZ, H', ⟨Nat.le_refl _⟩, ⟨by first | exact Kd.R_nil _ _ _ _ _ | exact Kd.N_nil _ _ _ _ _ | exact Kd.V_nil _ _ _ _ _ | exact Kd.Q_nil _ _ _ _ _ | exact Kd.S_nil _ _ _ _ _⟩, ⟨aL HB⟩⟩
 clear H'; obtain ⟨x3_1, x4_1, rfl, HA, HK1, HO_3, HB⟩ := hrel; cases gk with
 | zero => exact absurd HA.out (by simp [h3_Opps.l0])
 | succ k1 =>
  have H := HA.out; clear HA; simp only [h3_Opps.l0] at H; by_cases c2 : x4_1 < (l0.length : Int)
  rotate_left
  ·rw [if_neg c2] at H
   have c2b0 : decide (x4_1 < (l0.length : Int)) = false := decide_eq_false c2
   clear c2; obtain rfl := Option.some.inj H
   go_wp2
   go_ret
   exact ⟨_, aX, aR HO_3, aL HB⟩
  rw [if_pos c2] at H; have c2b0 : decide (x4_1 < (l0.length : Int)) = true := decide_eq_true c2
  clear c2; by_cases c3 : 0 ≤ x4_1
  rotate_left
  ·rw [if_neg c3] at H
   exact absurd H (by simp)
  rw [if_pos c3] at H; have c3b0 : decide (0 ≤ x4_1) = true := decide_eq_true c3
  clear c3; by_cases c4 : x3_1.length < 140737488355328
  rotate_left
  ·rw [if_neg c4] at H
   exact absurd H (by simp)
  rw [if_pos c4] at H; have LMc4 := zA.mk c4; clear c4; obtain ⟨y142, hy142⟩ : ∃ y_ : List Int, y_ = (x3_1 ++ [rd l0 x4_1]) := ⟨_, rfl⟩; replace H : (h3_Opps.l0 k1 l0 y142 (wrap64 (x4_1 + 1))) = some r := by first | (rw [hy142]; with_reducible exact H) | (have H2_ := (Option.bind_some _ _).symm.trans H; rw [hy142]; with_reducible exact H2_) | (have H2_ := (Option.bind_some _ _).symm.trans H; with_reducible exact H2_) | with_reducible exact H | (rw [hy142]; exact H) | exact H
  have Ny142 := zA.mk hy142; clear hy142; have H' := zA.mk H
  clear H; have p141 : 0 ≤ (x4_1 : Int) := aD
  have q141 : x4_1 < (l0.length : Int) := aD
  obtain ⟨ad141, e141, hx141_0⟩ := Kd.at_int HR0.out x4_1 p141 q141; cases e141
  replace hx141_0 := (HB.out.cell (World.block_lt_of_cell? w _ hx141_0)).trans hx141_0; replace p141 := eq_true p141; replace q141 := eq_true q141; go_wp2_with (first | ((with_reducible refine gate_builtin (b := .append) (xs := #[.tmp 11, .tmp 16]) rfl ?_); at_builtin; refine Kd.R_append (Kd.int .u8) (w0 := w) w.heap.size rfl (.tmp 11) (.tmp 16) 38 53 (.int .u8 0) 1 rfl Try.underlying38 info53 rfl (by decide) (by omega) u3 x3_1 (rd l0 x4_1) [.int .u8 (rd l0 x4_1)] (fun _ => True) (fun _ => False) rfl rfl ?aP (fun _ hk => hk.elim) ?aF ?aO ?aB ?aS ?aL ?_; (case aP => exact rfl); (case aB => exact (aL HB)); (case aF => exact (fun _ _ => trivial)); (case aO => exact (aR HO_3)); (case aS => exact (below_size (aL HB))); (case aL => have := LMc4.out; omega); intro v143 w5 ho hb hg hat; rw [← Ny142.out] at ho; replace HB := zA.mk (hb); have HO144 := zA.mk (ho); clear HO_3; clear ho hb hg hat))
  go_roundg k1
  case measure => have := HK1.out; omega
  case rel => exact ⟨(y142), (wrap64 (x4_1 + 1)), aZ, H', ⟨by have := HK1.out; omega⟩, ⟨aR HO144⟩, ⟨aL HB⟩⟩
def prop_Table_Of.f (a0 : Option (List (Int × Int × Int))) (a1 : Int) : Option (Int) := some (tabOf a0 a1)
set_option maxHeartbeats 8000000 in
set_option maxRecDepth 100000 in
theorem prop_Table_Of.calls (vt0_ : Value) (a0 : Option (List (Int × Int × Int))) (a1 : Int) (r : Int) (w : World) (hta0 : TabAt w a0 vt0_) (h : prop_Table_Of.f a0 a1 = some r) :
  Calls Try.prog 22 #[vt0_, .int .i32 a1] w fun e w' => e = .returned (.int .i64 r) ∧ Drawn0 w w' := by
 obtain rfl := Option.some.inj h
 clear h; cases a0 with
 | none =>
  obtain rfl : vt0_ = .pointer none := hta0
  have hr : tabOf none a1 = 0 := rfl
  rw [hr]; go_enter Try.func22, Try.ntmps22
  go_wp2
  go_ret
  exact ⟨rfl, Drawn0.refl _⟩
 | some l =>
  obtain ⟨g1, o1, g2, o2, h1, h2, rfl, t1, t2, f1, f2, cs1, cs2, c, rfl, rfl, hix, hsl, hbl, hby⟩ := hta0; by_cases c1 : a1 < 0
  ·rw [show tabOf (some l) a1 = 0 from if_pos (.inl c1)]
   have b1 : decide (a1 < 0) = true := decide_eq_true c1
   go_enter Try.func22, Try.ntmps22
   go_wp2
   go_ret
   exact ⟨rfl, Drawn0.refl _⟩
  have b1 : decide (a1 < 0) = false := decide_eq_false c1
  by_cases c2 : a1 > 1114111
  ·rw [show tabOf (some l) a1 = 0 from if_pos (.inr c2)]
   have b2 : decide (1114111 < a1) = true := decide_eq_true c2
   go_enter Try.func22, Try.ntmps22
   go_wp2
   go_ret
   exact ⟨rfl, Drawn0.refl _⟩
  have b2 : decide (1114111 < a1) = false := decide_eq_false c2
  obtain ⟨m, rfl⟩ := Int.eq_ofNat_of_zero_le (show 0 ≤ a1 by omega)
  have hm : m ≤ 1114111 := by omega
  have hlt : ixR l (m / 256) < (blR l 4352).length := ixR_lt l (by omega)
  have hget : (((blR l 4352).getD (ixR l (m / 256)) []).getD (m % 256) 0) = tabOf (some l) m := by
   rw [List.getD_eq_getElem?_getD (l := blR l 4352), ixR_get l (show m / 256 < 4352 by omega)]
   show (rowR l (m / 256)).getD (m % 256) 0 = _
   rw [rowR_get l _ _ (by omega), show tabOf (some l) (m : Int) = ofR l m from if_neg (by omega)]
   congr 1
   omega
  have hcS : w.cell? ⟨g1, 4352, none⟩ = some (.slice (some ⟨g2, 0, none⟩) (blR l 4352).length c) := (cell_of_row w g1 _ _ _ _ h1).trans hsl
  have hcI : w.cell? ⟨g1, m / 256, none⟩ = some (.int .i64 (ixR l (m / 256) : Int)) := (cell_of_row w g1 _ _ _ _ h1).trans (hix _ (by omega))
  have hcB : w.cell? ⟨g2, ixR l (m / 256) * 256 + m % 256, none⟩ = some (.int .u8 (tabOf (some l) m)) := (cell_of_row w g2 _ _ _ _ h2).trans ((hbl _ _ hlt (by omega)).trans (by rw [hget]))
  have hb0 := hby (m : Int); rw [← show tabOf (some l) (m : Int) = ofR l m from if_neg (by omega)] at hb0
  obtain ⟨hb0, hb1⟩ := hb0; generalize tabOf (some l) (m : Int) = r at hcB hb0 hb1 ⊢
  generalize ixR l (m / 256) = x at hcI hcB hlt
  generalize (blR l 4352).length = n at hcS hlt
  have hand := i32_and255 m (by omega)
  clear hget hix hsl hbl hby h1 h2 hm; go_enter Try.func22, Try.ntmps22
  go_wp2
  go_quiet (fail)
  go_wp2
  go_ret
  exact ⟨rfl, by repeat (first | exact Drawn0.refl _ | apply Drawn0.step)⟩
def cells_kind.f (a0 : Int) : Option (Int) := if a0 = 32 then (some 1) else (if a0 = 9 then (some 2) else (some 0))
set_option maxHeartbeats 8000000 in
set_option maxRecDepth 100000 in
theorem cells_kind.calls (a0 : Int) (r : Int) (w : World) (h : cells_kind.f a0 = some r) :
  Calls Try.prog 36 #[.int .i32 a0] w fun e w' => e = .returned (.int .u8 r) ∧ Drawn0 w w' := by
 have H : (if a0 = 32 then (some 1) else (if a0 = 9 then (some 2) else (some 0))) = some r := h
 clear h; by_cases c2 : a0 = 32
 ·rw [if_pos c2] at H
  have c2b0 : (a0 == 32) = true := beq_iff_eq.mpr c2
  have c2b1 : (a0 != 32) = false := bne_eq_false_iff_eq.mpr c2
  clear c2; obtain rfl := Option.some.inj H
  go_enter Try.func36, Try.ntmps36
  go_wp2
  go_ret
  exact ⟨by first | rfl | (simp; done) | (simp [*]; done), by repeat (first | exact Drawn0.refl _ | apply Drawn0.step)⟩
 rw [if_neg c2] at H; have c2b0 : (a0 == 32) = false := beq_eq_false_iff_ne.mpr c2
 have c2b1 : (a0 != 32) = true := bne_iff_ne.mpr c2
 by_cases c3 : a0 = 9
 ·rw [if_pos c3] at H
  have c3b0 : (a0 == 9) = true := beq_iff_eq.mpr c3
  have c3b1 : (a0 != 9) = false := bne_eq_false_iff_eq.mpr c3
  clear c3; obtain rfl := Option.some.inj H
  go_enter Try.func36, Try.ntmps36
  go_wp2
  go_ret
  exact ⟨by first | rfl | (simp; done) | (simp [*]; done), by repeat (first | exact Drawn0.refl _ | apply Drawn0.step)⟩
 rw [if_neg c3] at H; have c3b0 : (a0 == 9) = false := beq_eq_false_iff_ne.mpr c3
 have c3b1 : (a0 != 9) = true := bne_iff_ne.mpr c3
 obtain rfl := Option.some.inj H
 go_enter Try.func36, Try.ntmps36
 go_wp2
 go_ret
 exact ⟨by first | rfl | (simp; done) | (simp [*]; done), by repeat (first | exact Drawn0.refl _ | apply Drawn0.step)⟩
end Go.Proofs.Ytigajcipjklknaa.F
end
